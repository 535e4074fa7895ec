/- Joined of my own texts: UnB, UnC, UnD, SubI, SubJ, UnE, SubL, UnF, SubW, UnG, UnL. -/
import Derived.Test.YtinolpaapcpijaaGreatDoorK14
namespace Go.Sy
open Go Go.Proofs Go.RowKit
theorem mt_cells {hx : H} {b o : Nat} {m : Mth} (hat : AtR hx b o (eMt m)) : ∀ (j : Nat) (v : Value), [S m.name, .bool m.ptr, .int .i64 m.sig][j]? = some v → hx b (o + j) = some v := by
  obtain ⟨vs, fs, _, h1, h2, rfl, rfl⟩ := absorb_of (eMt m) o hat (fun vs fs => vs = [S m.name, .bool m.ptr, .int .i64 m.sig] ∧ fs = []) ⟨rfl, rfl⟩
  exact h1
theorem nm_cells {hx : H} {b o : Nat} {n : Nmd} (hat : AtR hx b o (eNm n)) : ∃ a1 k1 c1 a2 k2 c2, (∀ (j : Nat) (v : Value), [S n.name, .slice a1 k1 c1, .int .i64 n.under, .slice a2 k2 c2][j]? = some v → hx b (o + j) = some v) ∧ (fBd n a1 k1 c1).holds hx ∧ (fMs n.methods a2 k2 c2).holds hx := by
  obtain ⟨vs, fs, _, h1, h2, a1, k1, c1, a2, k2, c2, rfl, rfl⟩ := absorb_of (eNm n) o hat (fun vs fs => ∃ a1 k1 c1 a2 k2 c2, vs = [S n.name, .slice a1 k1 c1, .int .i64 n.under, .slice a2 k2 c2] ∧ fs = [fBd n a1 k1 c1, fMs n.methods a2 k2 c2]) (by
    intro a1 k1 c1 a2 k2 c2
    exact ⟨a1, k1, c1, a2, k2, c2, rfl, rfl⟩)
  exact ⟨a1, k1, c1, a2, k2, c2, h1, h2 _ (by simp), h2 _ (by simp)⟩
attribute [local irreducible] AC AT AO AK AH ACalls Sub Res.cells Res.nix Res.own Res.map Exit.then Exit.inBlock bodyPost Code.wp Code.wpIn WL Next Post Kont
section
variable {W0 : World} {L : List Res} {F : List Fact} {R : Value → List Res → List Fact → Prop}
set_option maxRecDepth 100000
set_option maxHeartbeats 8000000
theorem twofold_c (g : Glob W0) (s : List UInt8) (hs : s.length < 4294967281) (hT : namedP s → R (.bool true) L F) (hF : ¬ namedP s → R (.bool false) L F) : ACalls Tryz.prog W0 43 #[S s] L F R := by
  refine ACalls.body Tryz.func43 rfl Tryz.ntmps43 rfl ?_
  refine AC.seq (AC.region (AL.go (AO.assign rfl rfl (AL.nil (AK.seqN (AC.seq ?_))))))
  refine AC.region (AL.go (AO.move rfl rfl ?_))
  refine AL.go (AO.call rfl rfl (cut_c g s 46 hs ?_))
  cases c8 : (cutD 46 s).2.2
  rotate_left
  ·refine AL.go (AO.move rfl rfl (AL.go (AO.extract rfl rfl rfl (AL.go (AO.extract rfl rfl rfl (AL.go (AO.extract rfl rfl rfl (AL.go (AO.assign rfl rfl (AL.go (AO.assign rfl rfl ?_)))))))))))
   refine AL.go (AO.assign rfl rfl (AL.nil (AK.seqN (AC.seq (AC.region (AL.go (AO.move rfl rfl ?_)))))))
   refine AL.go (AO.move rfl rfl (AL.yes rfl rfl (AO.move rfl rfl ?_)))
   refine AL.yes rfl rfl (AO.call rfl rfl (src_Name_c _ (fun c15 => ?_) (fun c15 => ?_)))
   ·refine AL.go (AO.pickT rfl rfl rfl (AL.go (AO.move rfl rfl (AL.yes rfl rfl (AO.move rfl rfl ?_)))))
    refine AL.yes rfl rfl (AO.call rfl rfl (src_Name_c _ (fun c19 => ?_) (fun c19 => ?_)))
    ·refine AL.go (AO.pickT rfl rfl rfl (AL.go (AO.assign rfl rfl (AL.nil (AK.seqN (AC.ret ?_))))))
     first | refine AK.ret Tryz.results43 rfl (Sub.refl _ _) (hT ?_) | refine AK.ret Tryz.results43 rfl (Sub.refl _ _) (hF ?_)
     first
     | exact ⟨c8, c15, c19⟩
     | exact fun e => absurd e.2.2 (by rw [c19]; decide)
     | exact fun e => absurd e.2.1 (by rw [c15]; decide)
     | exact fun e => absurd e.1 (by rw [c8]; decide)
    ·refine AL.go (AO.pickT rfl rfl rfl (AL.go (AO.assign rfl rfl (AL.nil (AK.seqN (AC.ret ?_))))))
     first | refine AK.ret Tryz.results43 rfl (Sub.refl _ _) (hT ?_) | refine AK.ret Tryz.results43 rfl (Sub.refl _ _) (hF ?_)
     first
     | exact ⟨c8, c15, c19⟩
     | exact fun e => absurd e.2.2 (by rw [c19]; decide)
     | exact fun e => absurd e.2.1 (by rw [c15]; decide)
     | exact fun e => absurd e.1 (by rw [c8]; decide)
   ·refine AL.go (AO.pickT rfl rfl rfl (AL.go (AO.move rfl rfl (AL.no rfl rfl rfl rfl (AL.no rfl rfl rfl rfl (AL.go (AO.pickF rfl rfl rfl (AL.go (AO.assign rfl rfl ?_)))))))))
    refine AL.nil (AK.seqN (AC.ret ?_))
    first | refine AK.ret Tryz.results43 rfl (Sub.refl _ _) (hT ?_) | refine AK.ret Tryz.results43 rfl (Sub.refl _ _) (hF ?_)
    first
    | exact ⟨c8, c15, c19⟩
    | exact fun e => absurd e.2.2 (by rw [c19]; decide)
    | exact fun e => absurd e.2.1 (by rw [c15]; decide)
    | exact fun e => absurd e.1 (by rw [c8]; decide)
  ·refine AL.go (AO.move rfl rfl (AL.go (AO.extract rfl rfl rfl (AL.go (AO.extract rfl rfl rfl (AL.go (AO.extract rfl rfl rfl (AL.go (AO.assign rfl rfl (AL.go (AO.assign rfl rfl ?_)))))))))))
   refine AL.go (AO.assign rfl rfl (AL.nil (AK.seqN (AC.seq (AC.region (AL.go (AO.move rfl rfl ?_)))))))
   refine AL.go (AO.move rfl rfl (AL.no rfl rfl rfl rfl (AL.no rfl rfl rfl rfl (AL.go (AO.pickF rfl rfl rfl (AL.go (AO.move rfl rfl (AL.no rfl rfl rfl rfl ?_))))))))
   refine AL.no rfl rfl rfl rfl (AL.go (AO.pickF rfl rfl rfl (AL.go (AO.assign rfl rfl (AL.nil (AK.seqN (AC.ret ?_)))))))
   first | refine AK.ret Tryz.results43 rfl (Sub.refl _ _) (hT ?_) | refine AK.ret Tryz.results43 rfl (Sub.refl _ _) (hF ?_)
   first
   | exact ⟨c8, c15, c19⟩
   | exact fun e => absurd e.2.2 (by rw [c19]; decide)
   | exact fun e => absurd e.2.1 (by rw [c15]; decide)
   | exact fun e => absurd e.1 (by rw [c8]; decide)
theorem methods_c (T : List Ty) (n : Nmd) {a a2 a3 a4 a5 : Option Addr} {k c k2 c2 k3 c3 k4 c4 k5 c5 : Nat} (mL : fL T a k c ∈ F) (mA : fI (asksL T) a3 k3 c3 ∈ F) (mB : fBd n a4 k4 c4 ∈ F) (mS : fMs n.methods a5 k5 c5 ∈ F)
    (hT : methodsP T n → R (.bool true) L F) (hF : ¬ methodsP T n → R (.bool false) L F) : ACalls Tryz.prog W0 46 #[.agg #[.slice a k c, .slice a2 k2 c2], .slice a3 k3 c3, vNm n a4 k4 c4 a5 k5 c5] L F R := by
  refine ACalls.body Tryz.func46 rfl Tryz.ntmps46 rfl ?_
  refine AC.seq (AC.region (AL.go (AO.box rfl rfl (fun b3 => ?_))))
  refine AL.go (AO.box rfl rfl (fun b5 => ?_))
  refine AL.go (AO.assign rfl rfl (AL.nil (AK.seqN (AC.seq (AC.seq (AC.region ?_))))))
  refine AL.go (AO.field rfl rfl ?_)
  refine AL.go (AO.loadB rfl rfl ?_)
  refine AL.go (AO.len rfl rfl (fun hl12 => ?_) (enc := eMt) (lst := n.methods) (hm := mS))
  refine AL.go (AO.move rfl rfl (AL.nil (AK.seqN (AC.block ?_))))
  refine AC.loop (fun (q : Nat) => q ≤ n.methods.length ∧ ∀ j (hj : j < n.methods.length), j < q → methodP T n j hj) (fun q => [(1, .slice a3 k3 c3), (3, .pointer (some ⟨b3, 0, none⟩)), (5, .pointer (some ⟨b5, 0, none⟩)), (11, .slice a5 k5 c5), (12, .int .i64 n.methods.length), (13, .int .i64 (q : Int))]) (fun _ => _) (fun _ => _) (fun q => n.methods.length - q) 0 ⟨Nat.zero_le _, by omega⟩ srA (Sub.refl _ _) ?_
  rintro q ⟨hq, hok⟩
  refine AC.seq (AC.region ?_)
  refine AL.go (AO.lss rfl rfl rfl (fun c14 => ?_) (fun c14 => ?_))
  ·refine AL.nil (AK.seqN (AC.seq (AC.condT rfl (AC.skip (AK.seqN ?_)))))
   refine AC.seq (AC.block (AC.seq (AC.region (AL.go (AO.move rfl rfl ?_)))))
   have hql : q < n.methods.length := by omega
   refine AL.go (AO.indexAddr rfl rfl rfl rfl (enc := eMt) (lst := n.methods) memA hql (fun _ _ => ?_))
   refine AL.go (AO.loadFA rfl rfl ?_)
   refine AL.go (AO.alloc rfl (fun b8 => ?_))
   refine AL.go (AO.assign rfl rfl ?_)
   refine AL.go (AO.storeBA rfl rfl rfl rfl ?_)
   refine AL.nil (AK.seqN (AC.seq ?_))
   refine AC.draw (fun _ => false) [(b8, _, _), (b3, _, _), (b5, _, _)] bxA rfl (fun hx hX => ?_)
   have hk4 := (len_of_fact (hX (fBd n a4 k4 c4) memA)).1
   have hk5 := (len_of_fact (hX (fMs n.methods a5 k5 c5) memA)).1
   obtain ⟨p1, o1, e1, at1⟩ := row_of_fact (hX (fMs n.methods a5 k5 c5) memA) hql
   cases e1
   cases hk4
   cases hk5
   refine AH.takeW (i := 0) rfl (Y.field rfl) (by kernel_rfl) rfl rfl ?_
   refine AH.takeS (i := 1) rfl (Y.loadB rfl lmA (by rfl)) (by kernel_rfl) (by kernel_rfl) rfl rfl rfl ?_
   refine AH.one (i := 2) (by kernel_rfl) rfl rfl (fun _ => ?_)
   refine AO.call rfl rfl (src_Name_c _ (fun c20 => ?_) (fun c20 => ?_))
   ·refine AT.held bxA memB ?_
    refine AH.takeW (i := 3) rfl (Y.not rfl) (by kernel_rfl) rfl rfl ?_
    refine AH.takeW (i := 4) rfl (Y.move rfl) (by kernel_rfl) rfl rfl ?_
    refine AH.takeS (i := 5) rfl (Y.loadBA rfl lmA (by rfl)) (by kernel_rfl) (by kernel_rfl) rfl rfl rfl ?_
    refine AH.takeW (i := 6) rfl (Y.field rfl) (by kernel_rfl) rfl rfl ?_
    refine AH.takeS (i := 7) rfl (Y.loadB rfl lmA (by rfl)) (by kernel_rfl) (by kernel_rfl) rfl rfl rfl ?_
    refine AH.one (i := 8) (by kernel_rfl) rfl rfl (fun _ => ?_)
    refine AO.call rfl rfl (is_c T n.methods[q].sig 5 memA (fun c26 => ?_) (fun c26 => ?_))
    all_goals refine AT.held bxA memB ?_
    ·refine AH.takeW (i := 9) rfl (Y.not rfl) (by kernel_rfl) rfl rfl ?_
     refine AH.takeW (i := 10) rfl (Y.pickF rfl rfl) (by kernel_rfl) rfl rfl ?_
     refine AH.takeW (i := 11) rfl (Y.move rfl) (by kernel_rfl) rfl rfl ?_
     refine AH.takeW (i := 12) rfl (Y.move rfl) (by kernel_rfl) rfl rfl ?_
     refine AH.takeW (i := 13) rfl (Y.field rfl) (by kernel_rfl) rfl rfl ?_
     refine AH.takeS (i := 14) rfl (Y.loadB rfl lmA (by rfl)) (by kernel_rfl) (by kernel_rfl) rfl rfl rfl ?_
     refine AH.takeW (i := 15) rfl (Y.field rfl) (by kernel_rfl) rfl rfl ?_
     refine AH.takeS (i := 16) rfl (Y.loadB rfl lmA (by rfl)) (by kernel_rfl) (by kernel_rfl) rfl rfl rfl ?_
     refine AH.takeW (i := 17) rfl (Y.lenV rfl) (by kernel_rfl) rfl rfl ?_
     refine AH.one (i := 18) (by kernel_rfl) rfl rfl (fun _ => ?_)
     refine AO.call rfl rfl (fewU_c T n.methods[q].sig n.bounds.length memA (fun c36 => ?_) (fun c36 => ?_))
     all_goals refine AT.held bxA memB ?_
     ·refine AH.takeW (i := 19) rfl (Y.not rfl) (by kernel_rfl) rfl rfl ?_
      refine AH.takeW (i := 20) rfl (Y.pickF rfl rfl) (by kernel_rfl) rfl rfl ?_
      refine AH.takeW (i := 21) rfl (Y.move rfl) (by kernel_rfl) rfl rfl ?_
      refine AH.takeW (i := 22) rfl (Y.move rfl) (by kernel_rfl) rfl rfl ?_
      refine AH.takeB (i := 23) rfl (Y.gtr rfl rfl) (by kernel_rfl) rfl rfl (fun c41 => ?_) (fun c41 => ?_)
      ·replace c41 := of_decide_eq_true c41
       refine AH.takeW (i := 24) rfl (Y.move rfl) (by kernel_rfl) rfl rfl ?_
       refine AH.takeW (i := 25) rfl (Y.field rfl) (by kernel_rfl) rfl rfl ?_
       refine AH.takeS (i := 26) rfl (Y.loadB rfl lmA (by rfl)) (by kernel_rfl) (by kernel_rfl) rfl rfl rfl ?_
       refine AH.takeW (i := 27) rfl (Y.move rfl) (by kernel_rfl) rfl rfl ?_
       refine AH.takeW (i := 28) rfl (Y.sub rfl rfl (by omega) (by omega)) (by kernel_rfl) rfl rfl ?_
       obtain ⟨p2, o2, e2, at2⟩ := row_of_fact (i := q - 1) (hX (fMs n.methods (some ⟨p1, o1, none⟩) _ c5) memA) (by omega)
       cases e2
       have hv2 := mt_cells at2 0 _ rfl
       refine AH.takeW (i := 29) rfl (Y.indexAddr (k := q - 1) rfl rfl (by omega) (by omega)) (by kernel_rfl) rfl rfl ?_
       refine AH.takeW (i := 30) rfl (Y.field rfl) (by kernel_rfl) rfl rfl ?_
       refine AH.takeS (i := 31) rfl (Y.loadF rfl hv2) (by kernel_rfl) (by kernel_rfl) rfl rfl rfl ?_
       refine AH.takeW (i := 32) rfl (Y.field rfl) (by kernel_rfl) rfl rfl ?_
       refine AH.takeS (i := 33) rfl (Y.loadB rfl lmA (by rfl)) (by kernel_rfl) (by kernel_rfl) rfl rfl rfl ?_
       refine AH.takeB (i := 34) rfl (Y.geqS rfl rfl) (by kernel_rfl) rfl rfl (fun c52 => ?_) (fun c52 => ?_)
       ·refine AH.takeW (i := 35) rfl (Y.pickT rfl rfl) (by kernel_rfl) rfl rfl ?_
        refine AH.takeW (i := 36) rfl (Y.pickF rfl rfl) (by kernel_rfl) rfl rfl ?_
        refine AH.done (by kernel_rfl) ?_
        refine AK.seqN (AC.condT rfl (AC.seq (AC.region (AL.go (AO.assign rfl rfl (AL.nil ?_))))))
        refine AK.seqN (AC.ret (AK.blkR (AK.seqR (AK.seqR (AK.blkR ?_)))))
        refine AK.seqR ?_
        exact AK.ret (L' := L) (F' := F) Tryz.results46 rfl subA (hF (fun e => by have h9 := (e.2.1 q hql).2.2.2 (by omega); rw [getD_eq default (by omega)] at h9; simp [h9] at c52))
       ·refine AH.takeW (i := 35) rfl (Y.pickT rfl rfl) (by kernel_rfl) rfl rfl ?_
        refine AH.takeW (i := 36) rfl (Y.pickF rfl rfl) (by kernel_rfl) rfl rfl ?_
        refine AH.done (by kernel_rfl) ?_
        refine AK.seqN (AC.condF rfl (AC.skip (AK.blkN (AK.seqN (AC.region ?_)))))
        refine AL.go (AO.add rfl rfl rfl (by omega) (by omega) (AL.go (AO.move rfl rfl (AL.nil ?_))))
        refine AK.next (q + 1) ⟨by omega, fun j hj hjq => ?_⟩ (by omega) srA (Sub.drop.trans subF)
        rcases Nat.lt_succ_iff_lt_or_eq.1 hjq with k9 | rfl
        · exact hok j hj k9
        · exact ⟨c20, c26, c36, fun _ => by rw [getD_eq default (by omega)]; simpa using c52⟩
      ·replace c41 := of_decide_eq_false c41
       refine AH.takeW (i := 24) rfl (Y.move rfl) (by kernel_rfl) rfl rfl ?_
       refine AH.skip (i := 25) rfl (by kernel_rfl) rfl rfl ?_
       refine AH.skip (i := 26) rfl (by kernel_rfl) rfl rfl ?_
       refine AH.skip (i := 27) rfl (by kernel_rfl) rfl rfl ?_
       refine AH.skip (i := 28) rfl (by kernel_rfl) rfl rfl ?_
       refine AH.skip (i := 29) rfl (by kernel_rfl) rfl rfl ?_
       refine AH.skip (i := 30) rfl (by kernel_rfl) rfl rfl ?_
       refine AH.skip (i := 31) rfl (by kernel_rfl) rfl rfl ?_
       refine AH.skip (i := 32) rfl (by kernel_rfl) rfl rfl ?_
       refine AH.skip (i := 33) rfl (by kernel_rfl) rfl rfl ?_
       refine AH.skip (i := 34) rfl (by kernel_rfl) rfl rfl ?_
       refine AH.takeW (i := 35) rfl (Y.pickF rfl rfl) (by kernel_rfl) rfl rfl ?_
       refine AH.takeW (i := 36) rfl (Y.pickF rfl rfl) (by kernel_rfl) rfl rfl ?_
       refine AH.done (by kernel_rfl) ?_
       refine AK.seqN (AC.condF rfl (AC.skip (AK.blkN (AK.seqN (AC.region ?_)))))
       refine AL.go (AO.add rfl rfl rfl (by omega) (by omega) (AL.go (AO.move rfl rfl (AL.nil ?_))))
       refine AK.next (q + 1) ⟨by omega, fun j hj hjq => ?_⟩ (by omega) srA (Sub.drop.trans subF)
       rcases Nat.lt_succ_iff_lt_or_eq.1 hjq with k9 | rfl
       · exact hok j hj k9
       · exact ⟨c20, c26, c36, fun h0 => absurd h0 (by omega)⟩
     ·refine AH.takeW (i := 19) rfl (Y.not rfl) (by kernel_rfl) rfl rfl ?_
      refine AH.takeW (i := 20) rfl (Y.pickF rfl rfl) (by kernel_rfl) rfl rfl ?_
      refine AH.takeW (i := 21) rfl (Y.move rfl) (by kernel_rfl) rfl rfl ?_
      refine AH.skip (i := 22) rfl (by kernel_rfl) rfl rfl ?_
      refine AH.skip (i := 23) rfl (by kernel_rfl) rfl rfl ?_
      refine AH.skip (i := 24) rfl (by kernel_rfl) rfl rfl ?_
      refine AH.skip (i := 25) rfl (by kernel_rfl) rfl rfl ?_
      refine AH.skip (i := 26) rfl (by kernel_rfl) rfl rfl ?_
      refine AH.skip (i := 27) rfl (by kernel_rfl) rfl rfl ?_
      refine AH.skip (i := 28) rfl (by kernel_rfl) rfl rfl ?_
      refine AH.skip (i := 29) rfl (by kernel_rfl) rfl rfl ?_
      refine AH.skip (i := 30) rfl (by kernel_rfl) rfl rfl ?_
      refine AH.skip (i := 31) rfl (by kernel_rfl) rfl rfl ?_
      refine AH.skip (i := 32) rfl (by kernel_rfl) rfl rfl ?_
      refine AH.skip (i := 33) rfl (by kernel_rfl) rfl rfl ?_
      refine AH.skip (i := 34) rfl (by kernel_rfl) rfl rfl ?_
      refine AH.skip (i := 35) rfl (by kernel_rfl) rfl rfl ?_
      refine AH.takeW (i := 36) rfl (Y.pickT rfl rfl) (by kernel_rfl) rfl rfl ?_
      refine AH.done (by kernel_rfl) ?_
      refine AK.seqN (AC.condT rfl (AC.seq (AC.region (AL.go (AO.assign rfl rfl (AL.nil ?_))))))
      refine AK.seqN (AC.ret (AK.blkR (AK.seqR (AK.seqR (AK.blkR ?_)))))
      refine AK.seqR ?_
      exact AK.ret (L' := L) (F' := F) Tryz.results46 rfl subA (hF (fun e => c36 (e.2.1 q hql).2.2.1))
    ·refine AH.takeW (i := 9) rfl (Y.not rfl) (by kernel_rfl) rfl rfl ?_
     refine AH.takeW (i := 10) rfl (Y.pickF rfl rfl) (by kernel_rfl) rfl rfl ?_
     refine AH.takeW (i := 11) rfl (Y.move rfl) (by kernel_rfl) rfl rfl ?_
     refine AH.skip (i := 12) rfl (by kernel_rfl) rfl rfl ?_
     refine AH.skip (i := 13) rfl (by kernel_rfl) rfl rfl ?_
     refine AH.skip (i := 14) rfl (by kernel_rfl) rfl rfl ?_
     refine AH.skip (i := 15) rfl (by kernel_rfl) rfl rfl ?_
     refine AH.skip (i := 16) rfl (by kernel_rfl) rfl rfl ?_
     refine AH.skip (i := 17) rfl (by kernel_rfl) rfl rfl ?_
     refine AH.skip (i := 18) rfl (by kernel_rfl) rfl rfl ?_
     refine AH.skip (i := 19) rfl (by kernel_rfl) rfl rfl ?_
     refine AH.takeW (i := 20) rfl (Y.pickT rfl rfl) (by kernel_rfl) rfl rfl ?_
     refine AH.takeW (i := 21) rfl (Y.move rfl) (by kernel_rfl) rfl rfl ?_
     refine AH.skip (i := 22) rfl (by kernel_rfl) rfl rfl ?_
     refine AH.skip (i := 23) rfl (by kernel_rfl) rfl rfl ?_
     refine AH.skip (i := 24) rfl (by kernel_rfl) rfl rfl ?_
     refine AH.skip (i := 25) rfl (by kernel_rfl) rfl rfl ?_
     refine AH.skip (i := 26) rfl (by kernel_rfl) rfl rfl ?_
     refine AH.skip (i := 27) rfl (by kernel_rfl) rfl rfl ?_
     refine AH.skip (i := 28) rfl (by kernel_rfl) rfl rfl ?_
     refine AH.skip (i := 29) rfl (by kernel_rfl) rfl rfl ?_
     refine AH.skip (i := 30) rfl (by kernel_rfl) rfl rfl ?_
     refine AH.skip (i := 31) rfl (by kernel_rfl) rfl rfl ?_
     refine AH.skip (i := 32) rfl (by kernel_rfl) rfl rfl ?_
     refine AH.skip (i := 33) rfl (by kernel_rfl) rfl rfl ?_
     refine AH.skip (i := 34) rfl (by kernel_rfl) rfl rfl ?_
     refine AH.skip (i := 35) rfl (by kernel_rfl) rfl rfl ?_
     refine AH.takeW (i := 36) rfl (Y.pickT rfl rfl) (by kernel_rfl) rfl rfl ?_
     refine AH.done (by kernel_rfl) ?_
     refine AK.seqN (AC.condT rfl (AC.seq (AC.region (AL.go (AO.assign rfl rfl (AL.nil ?_))))))
     refine AK.seqN (AC.ret (AK.blkR (AK.seqR (AK.seqR (AK.blkR ?_)))))
     refine AK.seqR ?_
     exact AK.ret (L' := L) (F' := F) Tryz.results46 rfl subA (hF (fun e => c26 (e.2.1 q hql).2.1))
   ·refine AT.held bxA memB ?_
    refine AH.takeW (i := 3) rfl (Y.not rfl) (by kernel_rfl) rfl rfl ?_
    refine AH.takeW (i := 4) rfl (Y.move rfl) (by kernel_rfl) rfl rfl ?_
    refine AH.skip (i := 5) rfl (by kernel_rfl) rfl rfl ?_
    refine AH.skip (i := 6) rfl (by kernel_rfl) rfl rfl ?_
    refine AH.skip (i := 7) rfl (by kernel_rfl) rfl rfl ?_
    refine AH.skip (i := 8) rfl (by kernel_rfl) rfl rfl ?_
    refine AH.skip (i := 9) rfl (by kernel_rfl) rfl rfl ?_
    refine AH.takeW (i := 10) rfl (Y.pickT rfl rfl) (by kernel_rfl) rfl rfl ?_
    refine AH.takeW (i := 11) rfl (Y.move rfl) (by kernel_rfl) rfl rfl ?_
    refine AH.skip (i := 12) rfl (by kernel_rfl) rfl rfl ?_
    refine AH.skip (i := 13) rfl (by kernel_rfl) rfl rfl ?_
    refine AH.skip (i := 14) rfl (by kernel_rfl) rfl rfl ?_
    refine AH.skip (i := 15) rfl (by kernel_rfl) rfl rfl ?_
    refine AH.skip (i := 16) rfl (by kernel_rfl) rfl rfl ?_
    refine AH.skip (i := 17) rfl (by kernel_rfl) rfl rfl ?_
    refine AH.skip (i := 18) rfl (by kernel_rfl) rfl rfl ?_
    refine AH.skip (i := 19) rfl (by kernel_rfl) rfl rfl ?_
    refine AH.takeW (i := 20) rfl (Y.pickT rfl rfl) (by kernel_rfl) rfl rfl ?_
    refine AH.takeW (i := 21) rfl (Y.move rfl) (by kernel_rfl) rfl rfl ?_
    refine AH.skip (i := 22) rfl (by kernel_rfl) rfl rfl ?_
    refine AH.skip (i := 23) rfl (by kernel_rfl) rfl rfl ?_
    refine AH.skip (i := 24) rfl (by kernel_rfl) rfl rfl ?_
    refine AH.skip (i := 25) rfl (by kernel_rfl) rfl rfl ?_
    refine AH.skip (i := 26) rfl (by kernel_rfl) rfl rfl ?_
    refine AH.skip (i := 27) rfl (by kernel_rfl) rfl rfl ?_
    refine AH.skip (i := 28) rfl (by kernel_rfl) rfl rfl ?_
    refine AH.skip (i := 29) rfl (by kernel_rfl) rfl rfl ?_
    refine AH.skip (i := 30) rfl (by kernel_rfl) rfl rfl ?_
    refine AH.skip (i := 31) rfl (by kernel_rfl) rfl rfl ?_
    refine AH.skip (i := 32) rfl (by kernel_rfl) rfl rfl ?_
    refine AH.skip (i := 33) rfl (by kernel_rfl) rfl rfl ?_
    refine AH.skip (i := 34) rfl (by kernel_rfl) rfl rfl ?_
    refine AH.skip (i := 35) rfl (by kernel_rfl) rfl rfl ?_
    refine AH.takeW (i := 36) rfl (Y.pickT rfl rfl) (by kernel_rfl) rfl rfl ?_
    refine AH.done (by kernel_rfl) ?_
    refine AK.seqN (AC.condT rfl (AC.seq (AC.region (AL.go (AO.assign rfl rfl (AL.nil ?_))))))
    refine AK.seqN (AC.ret (AK.blkR (AK.seqR (AK.seqR (AK.blkR ?_)))))
    refine AK.seqR ?_
    exact AK.ret (L' := L) (F' := F) Tryz.results46 rfl subA (hF (fun e => absurd (e.2.1 q hql).1 (by rw [c20]; decide)))
  ·refine AL.nil (AK.seqN (AC.seq (AC.condF rfl (AC.exit (AK.seqX ?_)))))
   refine AK.seqX (AK.blkX (AK.seqN (AC.seq (AC.region ?_))))
   refine AL.go (AO.loadBA rfl rfl ?_)
   refine AL.go (AO.field rfl rfl ?_)
   refine AL.go (AO.loadB rfl rfl ?_)
   refine AL.go (AO.call rfl rfl (is_c T n.under 7 memA (fun c59 => ?_) (fun c59 => ?_)))
   ·refine AL.go (AO.move rfl rfl (AL.no rfl rfl rfl rfl (AL.no rfl rfl rfl rfl (AL.no rfl rfl rfl rfl (AL.no rfl rfl rfl rfl (AL.go (AO.pickT rfl rfl rfl ?_)))))))
    refine AL.go (AO.assign rfl rfl (AL.nil (AK.seqN (AC.seq (AC.region (AL.go (AO.field rfl rfl ?_)))))))
    refine AL.go (AO.loadB rfl rfl ?_)
    refine AL.go (AO.len rfl rfl (fun hl68 => ?_) (enc := eMt) (lst := n.methods) (hm := memA))
    refine AL.go (AO.leq rfl rfl rfl (fun c69 => ?_) (fun c69 => ?_))
    ·refine AL.go (AO.move rfl rfl (AL.yes rfl rfl (AO.move rfl rfl (AL.yes rfl rfl (AO.move rfl rfl (AL.yes rfl rfl (AO.field rfl rfl ?_)))))))
     refine AL.yes rfl rfl (AO.loadB rfl rfl ?_)
     refine AL.yes rfl rfl (AO.len rfl rfl (fun hl75 => ?_) (enc := eMt) (lst := n.methods) (hm := memA))
     refine AL.yes rfl rfl (AO.gtr rfl rfl rfl (fun c76 => ?_) (fun c76 => ?_))
     ·refine AL.yes rfl rfl (AO.pickT rfl rfl rfl (AL.yes rfl rfl (AO.not rfl rfl (AL.go (AO.pickT rfl rfl rfl (AL.go (AO.assign rfl rfl (AL.nil (AK.seqN ?_)))))))))
      refine AC.ret ?_
      exact AK.ret (L' := L) (F' := F) Tryz.results46 rfl subA (hF (fun e => (e.2.2 (List.length_pos_iff.1 (by omega))).1 c59))
     ·refine AL.yes rfl rfl (AO.pickT rfl rfl rfl (AL.yes rfl rfl (AO.not rfl rfl (AL.go (AO.pickT rfl rfl rfl (AL.go (AO.assign rfl rfl (AL.nil (AK.seqN ?_)))))))))
      refine AC.ret ?_
      exact AK.ret (L' := L) (F' := F) Tryz.results46 rfl subA (hT ⟨by omega, fun i hi => hok i hi (by omega), fun h0 => absurd (List.length_pos_iff.2 h0) (by omega)⟩)
    ·refine AL.go (AO.move rfl rfl (AL.no rfl rfl rfl rfl (AL.no rfl rfl rfl rfl (AL.no rfl rfl rfl rfl (AL.no rfl rfl rfl rfl (AL.no rfl rfl rfl rfl ?_))))))
     refine AL.no rfl rfl rfl rfl (AL.no rfl rfl rfl rfl (AL.no rfl rfl rfl rfl (AL.go (AO.pickF rfl rfl rfl (AL.go (AO.assign rfl rfl (AL.nil ?_)))))))
     refine AK.seqN (AC.ret ?_)
     exact AK.ret (L' := L) (F' := F) Tryz.results46 rfl subA (hF (fun e => absurd e.1 (by omega)))
   ·refine AL.go (AO.move rfl rfl ?_)
    refine AL.yes rfl rfl (AO.loadBA rfl rfl ?_)
    refine AL.yes rfl rfl (AO.field rfl rfl ?_)
    refine AL.yes rfl rfl (AO.loadB rfl rfl ?_)
    refine AL.yes rfl rfl (AO.call rfl rfl (is_c T n.under 1 memA (fun c64 => ?_) (fun c64 => ?_)))
    ·refine AL.go (AO.pickF rfl rfl rfl (AL.go (AO.assign rfl rfl (AL.nil (AK.seqN (AC.seq (AC.region ?_)))))))
     refine AL.go (AO.field rfl rfl ?_)
     refine AL.go (AO.loadB rfl rfl ?_)
     refine AL.go (AO.len rfl rfl (fun hl68 => ?_) (enc := eMt) (lst := n.methods) (hm := memA))
     refine AL.go (AO.leq rfl rfl rfl (fun c69 => ?_) (fun c69 => ?_))
     ·refine AL.go (AO.move rfl rfl (AL.yes rfl rfl (AO.move rfl rfl (AL.yes rfl rfl (AO.move rfl rfl (AL.yes rfl rfl (AO.field rfl rfl ?_)))))))
      refine AL.yes rfl rfl (AO.loadB rfl rfl ?_)
      refine AL.yes rfl rfl (AO.len rfl rfl (fun hl75 => ?_) (enc := eMt) (lst := n.methods) (hm := memA))
      refine AL.yes rfl rfl (AO.gtr rfl rfl rfl (fun c76 => ?_) (fun c76 => ?_))
      ·refine AL.yes rfl rfl (AO.pickT rfl rfl rfl (AL.yes rfl rfl (AO.not rfl rfl (AL.go (AO.pickT rfl rfl rfl (AL.go (AO.assign rfl rfl (AL.nil (AK.seqN ?_)))))))))
       refine AC.ret ?_
       exact AK.ret (L' := L) (F' := F) Tryz.results46 rfl subA (hF (fun e => (e.2.2 (List.length_pos_iff.1 (by omega))).2 c64))
      ·refine AL.yes rfl rfl (AO.pickT rfl rfl rfl (AL.yes rfl rfl (AO.not rfl rfl (AL.go (AO.pickT rfl rfl rfl (AL.go (AO.assign rfl rfl (AL.nil (AK.seqN ?_)))))))))
       refine AC.ret ?_
       exact AK.ret (L' := L) (F' := F) Tryz.results46 rfl subA (hT ⟨by omega, fun i hi => hok i hi (by omega), fun h0 => absurd (List.length_pos_iff.2 h0) (by omega)⟩)
     ·refine AL.go (AO.move rfl rfl (AL.no rfl rfl rfl rfl (AL.no rfl rfl rfl rfl (AL.no rfl rfl rfl rfl (AL.no rfl rfl rfl rfl (AL.no rfl rfl rfl rfl ?_))))))
      refine AL.no rfl rfl rfl rfl (AL.no rfl rfl rfl rfl (AL.no rfl rfl rfl rfl (AL.go (AO.pickF rfl rfl rfl (AL.go (AO.assign rfl rfl (AL.nil ?_)))))))
      refine AK.seqN (AC.ret ?_)
      exact AK.ret (L' := L) (F' := F) Tryz.results46 rfl subA (hF (fun e => absurd e.1 (by omega)))
    ·refine AL.go (AO.pickF rfl rfl rfl (AL.go (AO.assign rfl rfl (AL.nil (AK.seqN (AC.seq (AC.region ?_)))))))
     refine AL.go (AO.field rfl rfl ?_)
     refine AL.go (AO.loadB rfl rfl ?_)
     refine AL.go (AO.len rfl rfl (fun hl68 => ?_) (enc := eMt) (lst := n.methods) (hm := memA))
     refine AL.go (AO.leq rfl rfl rfl (fun c69 => ?_) (fun c69 => ?_))
     ·refine AL.go (AO.move rfl rfl (AL.yes rfl rfl (AO.move rfl rfl (AL.yes rfl rfl (AO.move rfl rfl (AL.no rfl rfl rfl rfl (AL.no rfl rfl rfl rfl (AL.no rfl rfl rfl rfl ?_))))))))
      refine AL.no rfl rfl rfl rfl (AL.yes rfl rfl (AO.pickF rfl rfl rfl (AL.yes rfl rfl (AO.not rfl rfl (AL.go (AO.pickT rfl rfl rfl (AL.go (AO.assign rfl rfl (AL.nil ?_)))))))))
      refine AK.seqN (AC.ret ?_)
      exact AK.ret (L' := L) (F' := F) Tryz.results46 rfl subA (hT ⟨by omega, fun i hi => hok i hi (by omega), fun _ => ⟨c59, c64⟩⟩)
     ·refine AL.go (AO.move rfl rfl (AL.no rfl rfl rfl rfl (AL.no rfl rfl rfl rfl (AL.no rfl rfl rfl rfl (AL.no rfl rfl rfl rfl (AL.no rfl rfl rfl rfl ?_))))))
      refine AL.no rfl rfl rfl rfl (AL.no rfl rfl rfl rfl (AL.no rfl rfl rfl rfl (AL.go (AO.pickF rfl rfl rfl (AL.go (AO.assign rfl rfl (AL.nil ?_)))))))
      refine AK.seqN (AC.ret ?_)
      exact AK.ret (L' := L) (F' := F) Tryz.results46 rfl subA (hF (fun e => absurd e.1 (by omega)))
theorem at1_c (n : Nmd) (s : List UInt8) {b j : Nat} {e : TypeId} {a1 a2 : Option Addr} {k1 c1 k2 c2 : Nat} (hj : L[j]? = some (Res.cells b #[S s] e)) (hT : n.name = s → R (.bool true) L F) (hF : n.name ≠ s → R (.bool false) L F) : ACalls Tryz.prog W0 113 #[vNm n a1 k1 c1 a2 k2 c2, .pointer (some ⟨b, 0, none⟩)] L F R := by
  refine ACalls.body Tryz.func113 rfl Tryz.ntmps113 rfl ?_
  refine AC.seq (AC.region (AL.go (AO.box rfl rfl (fun b2 => ?_))))
  refine AL.go (AO.assign rfl rfl (AL.nil (AK.seqN (AC.seq (AC.region (AL.go (AO.field rfl rfl ?_)))))))
  refine AL.go (AO.loadB rfl rfl ?_)
  refine AL.go (AO.loadB (cs := [S s]) rfl rfl ?_ (i := j + 1) (hi := hj) (hv := rfl))
  refine AL.go (AO.eqlS rfl rfl rfl (fun c7 => ?_) (fun c7 => ?_))
  ·refine AL.go (AO.assign rfl rfl (AL.nil (AK.seqN (AC.ret ?_))))
   first | exact AK.ret (L' := L) (F' := F) Tryz.results113 rfl Sub.drop (hT c7) | exact AK.ret (L' := L) (F' := F) Tryz.results113 rfl Sub.drop (hF c7)
  ·refine AL.go (AO.assign rfl rfl (AL.nil (AK.seqN (AC.ret ?_))))
   first | exact AK.ret (L' := L) (F' := F) Tryz.results113 rfl Sub.drop (hT c7) | exact AK.ret (L' := L) (F' := F) Tryz.results113 rfl Sub.drop (hF c7)
theorem indexN_c (N : List Nmd) (s : List UInt8) {a : Option Addr} {k c : Nat} (m1 : fN N a k c ∈ F) {b j : Nat} {e : TypeId} (hj : L[j]? = some (Res.cells b #[S s] e))
    (hT : ∀ q : Nat, atN N s = some q → R (.int .i64 (q : Int)) L F) (hF : atN N s = none → R (.int .i64 (-1)) L F) : ACalls Tryz.prog W0 112 #[.slice a k c, .func (.func 113) #[] #[.pointer (some ⟨b, 0, none⟩)]] L F R := by
  refine ACalls.body Tryz.func112 rfl Tryz.ntmps112 rfl ?_
  refine AC.seq (AC.region (AL.go (AO.assign rfl rfl (AL.nil (AK.seqN (AC.seq ?_))))))
  refine AC.seq (AC.region (AL.go (AO.move rfl rfl ?_)))
  refine AL.go (AO.len rfl rfl (fun hl7 => ?_) (enc := eNm) (lst := N) (hm := m1))
  refine AL.go (AO.move rfl rfl (AL.nil (AK.seqN (AC.block ?_))))
  refine AC.loopC (fun (q : Nat) => q ≤ N.length ∧ ∀ j (hj : j < N.length), j < q → N[j].name ≠ s) (fun q => [(0, .slice a k c), (1, .func (.func 113) #[] #[.pointer (some ⟨b, 0, none⟩)]), (7, .int .i64 N.length), (8, .int .i64 (q : Int))]) (fun q => N.length - q) 0 ⟨by omega, by omega⟩ srA ?_
  rintro q ⟨hq, hok⟩
  refine AC.seq (AC.region ?_)
  refine AL.go (AO.lss rfl rfl rfl (fun c9 => ?_) (fun c9 => ?_))
  ·refine AL.nil (AK.seqN (AC.seq (AC.condT rfl (AC.skip (AK.seqN ?_)))))
   refine AC.seq (AC.block (AC.seq (AC.region (AL.go (AO.move rfl rfl (AL.go (AO.assign rfl rfl ?_)))))))
   refine AL.nil (AK.seqN (AC.seq (AC.region (AL.go (AO.move rfl rfl (AL.go (AO.move rfl rfl ?_)))))))
   refine AL.go (AO.move rfl rfl ?_)
   have hql : q < N.length := by omega
   refine AL.go (AO.indexAddr rfl rfl rfl rfl (enc := eNm) (lst := N) memA hql (fun _ _ => ?_))
   refine AL.go (AO.loadFA rfl rfl ?_)
   intro a15 k15 z15 d15 e15 f15
   refine AL.go (AO.callC (cs := [.pointer (some ⟨b, 0, none⟩)]) rfl rfl rfl (at1_c N[q] s hj (fun c16 => ?_) (fun c16 => ?_)))
   ·refine AL.nil (AK.seqN (AC.condT rfl (AC.seq (AC.region (AL.go (AO.move rfl rfl ?_))))))
    refine AL.go (AO.assign rfl rfl (AL.nil (AK.seqN (AC.ret (AK.blkR (AK.seqR ?_))))))
    refine AK.seqR (AK.blkR (AK.seqR ?_))
    first | exact AK.ret (L' := L) (F' := F) Tryz.results112 rfl subF (hT q (atN_first hql c16 hok)) | exact AK.ret (L' := L) (F' := F) Tryz.results112 rfl subF (hF (atN_no (fun j hj => hok j hj (by omega))))
   ·refine AL.nil (AK.seqN (AC.condF rfl (AC.skip (AK.blkN (AK.seqN ?_)))))
    refine AC.region (AL.go (AO.add rfl rfl rfl (by omega) (by omega) (AL.go (AO.move rfl rfl (AL.nil ?_)))))
    refine AK.next (q + 1) ⟨by omega, fun j hj hjq => ?_⟩ (by omega) srA subF
    rcases Nat.lt_succ_iff_lt_or_eq.1 hjq with k9 | rfl
    · exact hok j hj k9
    · exact c16
  ·refine AL.nil (AK.seqN (AC.seq (AC.condF rfl (AC.exit (AK.seqX ?_)))))
   refine AK.seqX (AK.blkX (AK.seqN (AC.seq (AC.region (AL.go (AO.assign rfl rfl ?_))))))
   refine AL.nil (AK.seqN (AC.ret ?_))
   first | exact AK.ret (L' := L) (F' := F) Tryz.results112 rfl subF (hT q (atN_first hql c16 hok)) | exact AK.ret (L' := L) (F' := F) Tryz.results112 rfl subF (hF (atN_no (fun j hj => hok j hj (by omega))))
theorem at_c (N : List Nmd) (s : List UInt8) {a a2 : Option Addr} {k c k2 c2 : Nat} (m2 : fN N a2 k2 c2 ∈ F)
    (hT : ∀ q : Nat, atN N s = some q → R (.tuple #[.int .i64 (q : Int), .bool true]) L F) (hF : atN N s = none → R (.tuple #[.int .i64 (-1), .bool false]) L F) : ACalls Tryz.prog W0 54 #[.agg #[.slice a k c, .slice a2 k2 c2], S s] L F R := by
  refine ACalls.body Tryz.func54 rfl Tryz.ntmps54 rfl ?_
  refine AC.seq (AC.region (AL.go (AO.box rfl rfl (fun b2 => ?_))))
  refine AL.go (AO.box rfl rfl (fun b3 => ?_))
  refine AL.go (AO.assign rfl rfl (AL.go (AO.assign rfl rfl (AL.nil (AK.seqN (AC.seq (AC.region ?_)))))))
  refine AL.go (AO.field rfl rfl ?_)
  refine AL.go (AO.loadB rfl rfl ?_)
  refine AL.go (AO.makeFunc rfl rfl ?_)
  refine AL.go (AO.call rfl rfl (indexN_c N s m2 (j := 0) rfl (fun q c10 => ?_) (fun c10 => ?_)))
  ·refine AL.go (AO.assign rfl rfl (AL.nil (AK.seqN (AC.seq (AC.region (AL.go (AO.move rfl rfl ?_)))))))
   refine AL.go (AO.move rfl rfl ?_)
   refine AL.go (AO.geq rfl rfl rfl (fun c13 => ?_) (fun c13 => absurd c13 (by omega)))
   refine AL.go (AO.assign rfl rfl (AL.go (AO.assign rfl rfl (AL.nil (AK.seqN (AC.ret ?_))))))
   first | exact AK.ret2 (L' := L) (F' := F) Tryz.results54 rfl rfl subA (hT q c10) | exact AK.ret2 (L' := L) (F' := F) Tryz.results54 rfl rfl subA (hF c10)
  ·refine AL.go (AO.assign rfl rfl (AL.nil (AK.seqN (AC.seq (AC.region (AL.go (AO.move rfl rfl ?_)))))))
   refine AL.go (AO.move rfl rfl ?_)
   refine AL.go (AO.geq rfl rfl rfl (fun c13 => absurd c13 (by omega)) (fun c13 => ?_))
   refine AL.go (AO.assign rfl rfl (AL.go (AO.assign rfl rfl (AL.nil (AK.seqN (AC.ret ?_))))))
   first | exact AK.ret2 (L' := L) (F' := F) Tryz.results54 rfl rfl subA (hT q c10) | exact AK.ret2 (L' := L) (F' := F) Tryz.results54 rfl rfl subA (hF c10)
theorem fits_c (N : List Nmd) (t : Ty) {a a2 a3 a4 : Option Addr} {k c k2 c2 k3 c3 k4 c4 : Nat} (m2 : fN N a2 k2 c2 ∈ F) (m4 : fK t a4 k4 c4 ∈ F)
    (hT : fitsU N t → R (.bool true) L F) (hF : ¬ fitsU N t → R (.bool false) L F) : ACalls Tryz.prog W0 49 #[.agg #[.slice a k c, .slice a2 k2 c2], vTy t a3 k3 c3 a4 k4 c4] L F R := by
  refine ACalls.body Tryz.func49 rfl Tryz.ntmps49 rfl ?_
  refine AC.seq (AC.region (AL.go (AO.box rfl rfl (fun b2 => ?_))))
  refine AL.go (AO.box rfl rfl (fun b3 => ?_))
  refine AL.go (AO.assign rfl rfl (AL.nil (AK.seqN (AC.seq (AC.seq (AC.region ?_))))))
  refine AL.go (AO.field rfl rfl ?_)
  refine AL.go (AO.loadB rfl rfl ?_)
  refine AL.go (AO.neq rfl rfl rfl (fun c9 => ?_) (fun c9 => ?_))
  ·refine AL.nil (AK.seqN (AC.condT rfl (AC.seq (AC.region (AL.go (AO.assign rfl rfl ?_))))))
   refine AL.nil (AK.seqN (AC.ret (AK.seqR ?_)))
   exact AK.ret (L' := L) (F' := F) Tryz.results49 rfl subA (hT (fun e => absurd e c9))
  ·refine AL.nil (AK.seqN (AC.condF rfl (AC.skip (AK.seqN (AC.seq ?_)))))
   refine AC.region ?_
   refine AL.go (AO.loadBA rfl rfl ?_)
   refine AL.go (AO.field rfl rfl ?_)
   refine AL.go (AO.loadB rfl rfl ?_)
   refine AL.go (AO.call rfl rfl (at_c N t.name m2 (fun q c14 => ?_) (fun c14 => ?_)))
   ·refine AL.go (AO.move rfl rfl (AL.go (AO.extract rfl rfl rfl (AL.go (AO.extract rfl rfl rfl (AL.go (AO.assign rfl rfl (AL.go (AO.assign rfl rfl (AL.nil ?_))))))))))
    refine AK.seqN (AC.seq ?_)
    refine AC.draw (fun _ => false) [(b2, _, _), (b3, _, _)] bxA rfl (fun hx hX => ?_)
    obtain ⟨hql, _⟩ := atN_some c14
    have hk2 := (len_of_fact (hX (fN N a2 k2 c2) memA)).1
    have hk4 := (len_of_fact (hX (fK t a4 k4 c4) memA)).1
    obtain ⟨p1, o1, e1, at1⟩ := row_of_fact (hX (fN N a2 k2 c2) memA) hql
    cases e1
    obtain ⟨w1, x1, y1, w2, x2, y2, hv, hw1, hw2⟩ := nm_cells at1
    have hk1 := (len_of_fact hw1).1
    have hv1 := hv 1 _ rfl
    cases hk2
    cases hk4
    cases hk1
    refine AH.takeW (i := 0) rfl (Y.move rfl) (by kernel_rfl) rfl rfl ?_
    refine AH.takeW (i := 1) rfl (Y.move rfl) (by kernel_rfl) rfl rfl ?_
    refine AH.takeW (i := 2) rfl (Y.field rfl) (by kernel_rfl) rfl rfl ?_
    refine AH.takeS (i := 3) rfl (Y.loadB rfl lmA (by rfl)) (by kernel_rfl) (by kernel_rfl) rfl rfl rfl ?_
    refine AH.takeW (i := 4) rfl (Y.move rfl) (by kernel_rfl) rfl rfl ?_
    refine AH.takeW (i := 5) rfl (Y.indexAddr (k := q) rfl rfl (by omega) (by omega)) (by kernel_rfl) rfl rfl ?_
    refine AH.takeW (i := 6) rfl (Y.field rfl) (by kernel_rfl) rfl rfl ?_
    refine AH.takeS (i := 7) rfl (Y.loadF rfl hv1) (by kernel_rfl) (by kernel_rfl) rfl rfl rfl ?_
    refine AH.takeW (i := 8) rfl (Y.lenV rfl) (by kernel_rfl) rfl rfl ?_
    refine AH.takeW (i := 9) rfl (Y.field rfl) (by kernel_rfl) rfl rfl ?_
    refine AH.takeS (i := 10) rfl (Y.loadB rfl lmA (by rfl)) (by kernel_rfl) (by kernel_rfl) rfl rfl rfl ?_
    refine AH.takeW (i := 11) rfl (Y.lenV rfl) (by kernel_rfl) rfl rfl ?_
    refine AH.takeB (i := 12) rfl (Y.eql rfl rfl) (by kernel_rfl) rfl rfl (fun c29 => ?_) (fun c29 => ?_)
    ·replace c29 := eq_of_beq c29
     refine AH.takeW (i := 13) rfl (Y.pickT rfl rfl) (by kernel_rfl) rfl rfl ?_
     refine AH.takeW (i := 14) rfl (Y.assign rfl) (by kernel_rfl) rfl rfl ?_
     refine AH.done (by kernel_rfl) ?_
     refine AK.seqN (AC.ret ?_)
     exact AK.ret (L' := L) (F' := F) Tryz.results49 rfl subA (hT (fun _ => ⟨q, c14, by rw [getD_eq default hql]; omega⟩))
    ·replace c29 := ne_of_beqF c29
     refine AH.takeW (i := 13) rfl (Y.pickT rfl rfl) (by kernel_rfl) rfl rfl ?_
     refine AH.takeW (i := 14) rfl (Y.assign rfl) (by kernel_rfl) rfl rfl ?_
     refine AH.done (by kernel_rfl) ?_
     refine AK.seqN (AC.ret ?_)
     exact AK.ret (L' := L) (F' := F) Tryz.results49 rfl subA (hF (fun e => by obtain ⟨i, hi, h9⟩ := e ‹_›; rw [c14] at hi; injection hi with hi; subst hi; rw [getD_eq default hql] at h9; exact c29 (by omega)))
   ·refine AL.go (AO.move rfl rfl (AL.go (AO.extract rfl rfl rfl (AL.go (AO.extract rfl rfl rfl (AL.go (AO.assign rfl rfl (AL.go (AO.assign rfl rfl (AL.nil ?_))))))))))
    refine AK.seqN (AC.seq ?_)
    refine AC.draw (fun _ => false) [(b2, _, _), (b3, _, _)] bxA rfl (fun hx hX => ?_)
    refine AH.takeW (i := 0) rfl (Y.move rfl) (by kernel_rfl) rfl rfl ?_
    refine AH.takeW (i := 1) rfl (Y.move rfl) (by kernel_rfl) rfl rfl ?_
    refine AH.skip (i := 2) rfl (by kernel_rfl) rfl rfl ?_
    refine AH.skip (i := 3) rfl (by kernel_rfl) rfl rfl ?_
    refine AH.skip (i := 4) rfl (by kernel_rfl) rfl rfl ?_
    refine AH.skip (i := 5) rfl (by kernel_rfl) rfl rfl ?_
    refine AH.skip (i := 6) rfl (by kernel_rfl) rfl rfl ?_
    refine AH.skip (i := 7) rfl (by kernel_rfl) rfl rfl ?_
    refine AH.skip (i := 8) rfl (by kernel_rfl) rfl rfl ?_
    refine AH.skip (i := 9) rfl (by kernel_rfl) rfl rfl ?_
    refine AH.skip (i := 10) rfl (by kernel_rfl) rfl rfl ?_
    refine AH.skip (i := 11) rfl (by kernel_rfl) rfl rfl ?_
    refine AH.skip (i := 12) rfl (by kernel_rfl) rfl rfl ?_
    refine AH.takeW (i := 13) rfl (Y.pickF rfl rfl) (by kernel_rfl) rfl rfl ?_
    refine AH.takeW (i := 14) rfl (Y.assign rfl) (by kernel_rfl) rfl rfl ?_
    refine AH.done (by kernel_rfl) ?_
    refine AK.seqN (AC.ret ?_)
    exact AK.ret (L' := L) (F' := F) Tryz.results49 rfl subA (hF (fun e => by obtain ⟨i, hi, _⟩ := e c9; rw [c14] at hi; exact absurd hi (by simp)))
end
end Go.Sy
namespace Go.Sy
open Go Go.Proofs Go.RowKit
structure NmOk (n : Nmd) : Prop where
  name : n.name.length ≤ 1048576
  meth : ∀ m ∈ n.methods, m.name.length ≤ 1048576
attribute [local irreducible] AC AT AO AK AH ACalls Sub Res.cells Res.nix Res.own Res.map Exit.then Exit.inBlock bodyPost Code.wp Code.wpIn WL Next Post Kont
section
variable {W0 : World} {L : List Res} {F : List Fact} {R : Value → List Res → List Fact → Prop}
set_option maxRecDepth 100000
set_option maxHeartbeats 16000000
theorem containsFuncT_c (l : List Ty) (hok0 : ∀ t ∈ l, TyOk t) {a : Option Addr} {k c : Nat} (m1 : fL l a k c ∈ F) (g : FuncId) [FnT Tryz.prog g] (cs : List Value) (p : Ty → Prop) (hg : TellsT W0 L F g cs p)
    (hT : (¬ ∀ j (hj : j < l.length), ¬ p l[j]) → R (.bool true) L F) (hF : (∀ j (hj : j < l.length), ¬ p l[j]) → R (.bool false) L F) : ACalls Tryz.prog W0 47 #[.slice a k c, .func (.func g) #[] cs.toArray] L F R := by
  refine ACalls.body Tryz.func47 rfl Tryz.ntmps47 rfl ?_
  refine AC.seq (AC.region (AL.go (AO.assign rfl rfl (AL.nil (AK.seqN (AC.seq ?_))))))
  refine AC.region (AL.go (AO.move rfl rfl (AL.go (AO.move rfl rfl ?_))))
  refine AL.go (AO.call rfl rfl (indexFuncT_c l hok0 m1 g cs p hg (fun j7 hj7 c7 => ?_) (fun c7 => ?_)))
  ·refine AL.go (AO.geq rfl rfl rfl (fun c8 => ?_) (fun c8 => absurd c8 (by omega)))
   refine AL.go (AO.assign rfl rfl (AL.nil (AK.seqN (AC.ret ?_))))
   first | exact AK.ret (L' := L) (F' := F) Tryz.results47 rfl subF (hT (fun e => e j7 hj7 c7)) | exact AK.ret (L' := L) (F' := F) Tryz.results47 rfl subF (hF c7)
  ·refine AL.go (AO.geq rfl rfl rfl (fun c8 => absurd c8 (by omega)) (fun c8 => ?_))
   refine AL.go (AO.assign rfl rfl (AL.nil (AK.seqN (AC.ret ?_))))
   first | exact AK.ret (L' := L) (F' := F) Tryz.results47 rfl subF (hT (fun e => e j7 hj7 c7)) | exact AK.ret (L' := L) (F' := F) Tryz.results47 rfl subF (hF c7)
theorem uright1_c (N : List Nmd) (t : Ty) {b j : Nat} {e : TypeId} {a a2 a3 a4 : Option Addr} {k c k2 c2 k3 c3 k4 c4 : Nat} (m2 : fN N a2 k2 c2 ∈ F) (m4 : fK t a4 k4 c4 ∈ F) (hj : L[j]? = some (Res.cells b #[.slice a k c, .slice a2 k2 c2] e))
    (hT : ¬ fitsU N t → R (.bool true) L F) (hF : ¬ ¬ fitsU N t → R (.bool false) L F) : ACalls Tryz.prog W0 48 #[vTy t a3 k3 c3 a4 k4 c4, .pointer (some ⟨b, 0, none⟩)] L F R := by
  refine ACalls.body Tryz.func48 rfl Tryz.ntmps48 rfl ?_
  refine AC.seq (AC.region (AL.go (AO.box rfl rfl (fun b2 => ?_))))
  refine AL.go (AO.assign rfl rfl (AL.nil (AK.seqN (AC.seq (AC.region ?_)))))
  refine AL.go (AO.loadBA (cs := [.slice a k c, .slice a2 k2 c2]) rfl rfl ?_ (i := j + 1) (hi := hj))
  refine AL.go (AO.loadBA rfl rfl ?_)
  refine AL.go (AO.call rfl rfl (fits_c N t memA memA (fun c6 => ?_) (fun c6 => ?_)))
  ·refine AL.go (AO.not rfl rfl (AL.go (AO.assign rfl rfl (AL.nil (AK.seqN (AC.ret ?_))))))
   first | exact AK.ret (L' := L) (F' := F) Tryz.results48 rfl subA (hF (fun e => e c6)) | exact AK.ret (L' := L) (F' := F) Tryz.results48 rfl subA (hT c6)
  ·refine AL.go (AO.not rfl rfl (AL.go (AO.assign rfl rfl (AL.nil (AK.seqN (AC.ret ?_))))))
   first | exact AK.ret (L' := L) (F' := F) Tryz.results48 rfl subA (hF (fun e => e c6)) | exact AK.ret (L' := L) (F' := F) Tryz.results48 rfl subA (hT c6)
theorem uright_c (g : Glob W0) (T : List Ty) (N : List Nmd) (hok : ∀ t ∈ T, TyOk t) (hno : ∀ n ∈ N, NmOk n) {a a2 : Option Addr} {k c k2 c2 : Nat} (mL : fL T a k c ∈ F) (mN : fN N a2 k2 c2 ∈ F)
    (hT : rightU T N → R (.bool true) L F) (hF : ¬ rightU T N → R (.bool false) L F) : ACalls Tryz.prog W0 10 #[.agg #[.slice a k c, .slice a2 k2 c2]] L F R := by
  refine ACalls.body Tryz.func10 rfl Tryz.ntmps10 rfl ?_
  refine AC.seq (AC.region (AL.go (AO.box rfl rfl (fun b1 => ?_))))
  refine AL.go (AO.assign rfl rfl (AL.nil (AK.seqN (AC.seq (AC.seq (AC.region ?_))))))
  refine AL.go (AO.field rfl rfl ?_)
  refine AL.go (AO.loadB rfl rfl ?_)
  refine AL.go (AO.call rfl rfl (right_c g T hok mL (fun c8 => ?_) (fun c8 => ?_)))
  ·refine AL.go (AO.not rfl rfl (AL.go (AO.move rfl rfl (AL.yes rfl rfl (AO.field rfl rfl ?_)))))
   refine AL.yes rfl rfl (AO.loadB rfl rfl ?_)
   refine AL.yes rfl rfl (AO.len rfl rfl (fun hl13 => ?_) (enc := eNm) (lst := N) (hm := mN))
   refine AL.yes rfl rfl (AO.gtr rfl rfl rfl (fun c14 => ?_) (fun c14 => ?_))
   ·refine AL.go (AO.pickF rfl rfl rfl (AL.nil (AK.seqN (AC.condT rfl (AC.seq (AC.region ?_))))))
    refine AL.go (AO.assign rfl rfl (AL.nil (AK.seqN (AC.ret (AK.seqR ?_)))))
    exact AK.ret (L' := L) (F' := F) Tryz.results10 rfl subA (hF (fun e => absurd e.2.1 (by omega)))
   ·refine AL.go (AO.pickF rfl rfl rfl (AL.nil (AK.seqN (AC.condF rfl (AC.skip (AK.seqN ?_))))))
    refine AC.seq (AC.region (AL.go (AO.field rfl rfl ?_)))
    refine AL.go (AO.loadB rfl rfl ?_)
    refine AL.go (AO.call rfl rfl (uasks_c T c8 mL (fun a18 k18 z18 => ?_)))
    refine AL.go (AO.assign rfl rfl (AL.nil (AK.seqN (AC.seq (AC.seq (AC.region ?_))))))
    refine AL.go (AO.field rfl rfl ?_)
    refine AL.go (AO.loadB rfl rfl ?_)
    refine AL.go (AO.len rfl rfl (fun hl21 => ?_) (enc := eNm) (lst := N) (hm := memA))
    refine AL.go (AO.move rfl rfl (AL.nil (AK.seqN (AC.block ?_))))
    refine AC.loop (fun (q : Nat) => q ≤ N.length ∧ ∀ j (hj : j < N.length), j < q → nameAt T N j hj) (fun q => [(1, .pointer (some ⟨b1, 0, none⟩)), (3, .slice a18 k18 z18), (20, .slice a2 k2 c2), (21, .int .i64 N.length), (22, .int .i64 (q : Int))]) (fun _ => _) (fun _ => _) (fun q => N.length - q) 0 ⟨Nat.zero_le _, by omega⟩ srA (Sub.refl _ _) ?_
    rintro q ⟨hq, hin⟩
    refine AC.seq (AC.region ?_)
    refine AL.go (AO.lss rfl rfl rfl (fun c23 => ?_) (fun c23 => ?_))
    ·refine AL.nil (AK.seqN (AC.seq (AC.condT rfl (AC.skip (AK.seqN ?_)))))
     refine AC.seq (AC.block (AC.seq (AC.region (AL.go (AO.move rfl rfl ?_)))))
     have hql : q < N.length := by omega
     refine AL.go (AO.indexAddr rfl rfl rfl rfl (enc := eNm) (lst := N) memA hql (fun _ _ => ?_))
     refine AL.go (AO.loadFA rfl rfl ?_)
     intro a26 k26 z26 d26 e26 f26
     refine AL.go (AO.alloc rfl (fun b5 => ?_))
     refine AL.go (AO.assign rfl rfl ?_)
     refine AL.go (AO.storeBA rfl rfl rfl rfl ?_)
     refine AL.nil (AK.seqN (AC.seq ?_))
     refine AC.draw (fun _ => false) [(b5, _, _), (b1, _, _)] bxA rfl (fun hx hX => ?_)
     have hk2 := (len_of_fact (hX (fN N a2 k2 c2) memA)).1
     obtain ⟨p1, o1, e1, at1⟩ := row_of_fact (hX (fN N a2 k2 c2) memA) hql
     cases e1
     cases hk2
     refine AH.takeW (i := 0) rfl (Y.field rfl) (by kernel_rfl) rfl rfl ?_
     refine AH.takeS (i := 1) rfl (Y.loadB rfl lmA (by rfl)) (by kernel_rfl) (by kernel_rfl) rfl rfl rfl ?_
     refine AH.one (i := 2) (by kernel_rfl) rfl rfl (fun _ => ?_)
     refine AO.call rfl rfl (twofold_c g N[q].name (by have := (hno _ (List.getElem_mem hql)).name; omega) (fun c29 => ?_) (fun c29 => ?_))
     all_goals refine AT.held bxA memB ?_
     ·refine AH.takeW (i := 3) rfl (Y.not rfl) (by kernel_rfl) rfl rfl ?_
      refine AH.takeW (i := 4) rfl (Y.move rfl) (by kernel_rfl) rfl rfl ?_
      refine AH.takeW (i := 5) rfl (Y.move rfl) (by kernel_rfl) rfl rfl ?_
      refine AH.takeB (i := 6) rfl (Y.gtr rfl rfl) (by kernel_rfl) rfl rfl (fun c33 => ?_) (fun c33 => ?_)
      ·replace c33 := of_decide_eq_true c33
       refine AH.takeW (i := 7) rfl (Y.move rfl) (by kernel_rfl) rfl rfl ?_
       refine AH.takeW (i := 8) rfl (Y.field rfl) (by kernel_rfl) rfl rfl ?_
       refine AH.takeS (i := 9) rfl (Y.loadB rfl lmA (by rfl)) (by kernel_rfl) (by kernel_rfl) rfl rfl rfl ?_
       refine AH.takeW (i := 10) rfl (Y.move rfl) (by kernel_rfl) rfl rfl ?_
       refine AH.takeW (i := 11) rfl (Y.sub rfl rfl (by omega) (by omega)) (by kernel_rfl) rfl rfl ?_
       obtain ⟨p2, o2, e2, at2⟩ := row_of_fact (i := q - 1) (hX (fN N (some ⟨p1, o1, none⟩) _ c2) memA) (by omega)
       cases e2
       obtain ⟨w1, x1, y1, w2, x2, y2, hv, hw1, hw2⟩ := nm_cells at2
       have hv2 := hv 0 _ rfl
       refine AH.takeW (i := 12) rfl (Y.indexAddr (k := q - 1) rfl rfl (by omega) (by omega)) (by kernel_rfl) rfl rfl ?_
       refine AH.takeW (i := 13) rfl (Y.field rfl) (by kernel_rfl) rfl rfl ?_
       refine AH.takeS (i := 14) rfl (Y.loadF rfl hv2) (by kernel_rfl) (by kernel_rfl) rfl rfl rfl ?_
       refine AH.takeW (i := 15) rfl (Y.field rfl) (by kernel_rfl) rfl rfl ?_
       refine AH.takeS (i := 16) rfl (Y.loadB rfl lmA (by rfl)) (by kernel_rfl) (by kernel_rfl) rfl rfl rfl ?_
       refine AH.takeB (i := 17) rfl (Y.geqS rfl rfl) (by kernel_rfl) rfl rfl (fun c44 => ?_) (fun c44 => ?_)
       ·refine AH.takeW (i := 18) rfl (Y.pickT rfl rfl) (by kernel_rfl) rfl rfl ?_
        refine AH.takeW (i := 19) rfl (Y.pickF rfl rfl) (by kernel_rfl) rfl rfl ?_
        refine AH.takeW (i := 20) rfl (Y.move rfl) (by kernel_rfl) rfl rfl ?_
        refine AH.skip (i := 21) rfl (by kernel_rfl) rfl rfl ?_
        refine AH.skip (i := 22) rfl (by kernel_rfl) rfl rfl ?_
        refine AH.skip (i := 23) rfl (by kernel_rfl) rfl rfl ?_
        refine AH.skip (i := 24) rfl (by kernel_rfl) rfl rfl ?_
        refine AH.skip (i := 25) rfl (by kernel_rfl) rfl rfl ?_
        refine AH.takeW (i := 26) rfl (Y.pickT rfl rfl) (by kernel_rfl) rfl rfl ?_
        refine AH.takeW (i := 27) rfl (Y.move rfl) (by kernel_rfl) rfl rfl ?_
        refine AH.skip (i := 28) rfl (by kernel_rfl) rfl rfl ?_
        refine AH.skip (i := 29) rfl (by kernel_rfl) rfl rfl ?_
        refine AH.skip (i := 30) rfl (by kernel_rfl) rfl rfl ?_
        refine AH.skip (i := 31) rfl (by kernel_rfl) rfl rfl ?_
        refine AH.skip (i := 32) rfl (by kernel_rfl) rfl rfl ?_
        refine AH.takeW (i := 33) rfl (Y.pickT rfl rfl) (by kernel_rfl) rfl rfl ?_
        refine AH.takeW (i := 34) rfl (Y.move rfl) (by kernel_rfl) rfl rfl ?_
        refine AH.skip (i := 35) rfl (by kernel_rfl) rfl rfl ?_
        refine AH.skip (i := 36) rfl (by kernel_rfl) rfl rfl ?_
        refine AH.skip (i := 37) rfl (by kernel_rfl) rfl rfl ?_
        refine AH.skip (i := 38) rfl (by kernel_rfl) rfl rfl ?_
        refine AH.skip (i := 39) rfl (by kernel_rfl) rfl rfl ?_
        refine AH.takeW (i := 40) rfl (Y.pickT rfl rfl) (by kernel_rfl) rfl rfl ?_
        refine AH.done (by kernel_rfl) ?_
        refine AK.seqN (AC.condT rfl (AC.seq (AC.region (AL.go (AO.assign rfl rfl (AL.nil ?_))))))
        refine AK.seqN (AC.ret (AK.blkR (AK.seqR (AK.seqR (AK.blkR ?_)))))
        refine AK.seqR ?_
        exact AK.ret (L' := L) (F' := F) Tryz.results10 rfl subA (hF (fun e => by have h9 := (e.2.2.1 q hql).2 (by omega); rw [getD_eq default (by omega)] at h9; simp [h9] at c44))
       ·refine AH.takeW (i := 18) rfl (Y.pickT rfl rfl) (by kernel_rfl) rfl rfl ?_
        refine AH.takeW (i := 19) rfl (Y.pickF rfl rfl) (by kernel_rfl) rfl rfl ?_
        refine AH.takeW (i := 20) rfl (Y.move rfl) (by kernel_rfl) rfl rfl ?_
        refine AH.takeS (i := 21) rfl (Y.loadBA rfl lmA (by rfl)) (by kernel_rfl) (by kernel_rfl) rfl rfl rfl ?_
        refine AH.takeW (i := 22) rfl (Y.move rfl) (by kernel_rfl) rfl rfl ?_
        refine AH.takeS (i := 23) rfl (Y.loadBA rfl lmA (by rfl)) (by kernel_rfl) (by kernel_rfl) rfl rfl rfl ?_
        refine AH.one (i := 24) (by kernel_rfl) rfl rfl (fun _ => ?_)
        refine AO.call rfl rfl (bounds_c T N[q] (show fL T a k c ∈ _ from memA) (show fI (asksL T) _ _ _ ∈ _ from memA) (show fBd N[q] _ _ _ ∈ _ from memA) (fun c51 => ?_) (fun c51 => ?_))
        all_goals refine AT.held bxA memB ?_
        ·refine AH.takeW (i := 25) rfl (Y.not rfl) (by kernel_rfl) rfl rfl ?_
         refine AH.takeW (i := 26) rfl (Y.pickF rfl rfl) (by kernel_rfl) rfl rfl ?_
         refine AH.takeW (i := 27) rfl (Y.move rfl) (by kernel_rfl) rfl rfl ?_
         refine AH.takeS (i := 28) rfl (Y.loadBA rfl lmA (by rfl)) (by kernel_rfl) (by kernel_rfl) rfl rfl rfl ?_
         refine AH.takeW (i := 29) rfl (Y.move rfl) (by kernel_rfl) rfl rfl ?_
         refine AH.takeS (i := 30) rfl (Y.loadBA rfl lmA (by rfl)) (by kernel_rfl) (by kernel_rfl) rfl rfl rfl ?_
         refine AH.one (i := 31) (by kernel_rfl) rfl rfl (fun _ => ?_)
         refine AO.call rfl rfl (under_c T N[q] (show fL T a k c ∈ _ from memA) (show fI (asksL T) _ _ _ ∈ _ from memA) (show fBd N[q] _ _ _ ∈ _ from memA) (fun c58 => ?_) (fun c58 => ?_))
         all_goals refine AT.held bxA memB ?_
         ·refine AH.takeW (i := 32) rfl (Y.not rfl) (by kernel_rfl) rfl rfl ?_
          refine AH.takeW (i := 33) rfl (Y.pickF rfl rfl) (by kernel_rfl) rfl rfl ?_
          refine AH.takeW (i := 34) rfl (Y.move rfl) (by kernel_rfl) rfl rfl ?_
          refine AH.takeS (i := 35) rfl (Y.loadBA rfl lmA (by rfl)) (by kernel_rfl) (by kernel_rfl) rfl rfl rfl ?_
          refine AH.takeW (i := 36) rfl (Y.move rfl) (by kernel_rfl) rfl rfl ?_
          refine AH.takeS (i := 37) rfl (Y.loadBA rfl lmA (by rfl)) (by kernel_rfl) (by kernel_rfl) rfl rfl rfl ?_
          refine AH.one (i := 38) (by kernel_rfl) rfl rfl (fun _ => ?_)
          refine AO.call rfl rfl (methods_c T N[q] (show fL T a k c ∈ _ from memA) (show fI (asksL T) _ _ _ ∈ _ from memA) (show fBd N[q] _ _ _ ∈ _ from memA) (show fMs N[q].methods _ _ _ ∈ _ from memA) (fun c65 => ?_) (fun c65 => ?_))
          all_goals refine AT.held bxA memB ?_
          ·refine AH.takeW (i := 39) rfl (Y.not rfl) (by kernel_rfl) rfl rfl ?_
           refine AH.takeW (i := 40) rfl (Y.pickF rfl rfl) (by kernel_rfl) rfl rfl ?_
           refine AH.done (by kernel_rfl) ?_
           refine AK.seqN (AC.condF rfl (AC.skip (AK.blkN (AK.seqN (AC.region ?_)))))
           refine AL.go (AO.add rfl rfl rfl (by omega) (by omega) (AL.go (AO.move rfl rfl (AL.nil ?_))))
           refine AK.next (q + 1) ⟨by omega, fun j hj hjq => ?_⟩ (by omega) srA (Sub.drop.trans subF)
           rcases Nat.lt_succ_iff_lt_or_eq.1 hjq with k9 | rfl
           · exact hin j hj k9
           · exact ⟨⟨c29, c51, c58, c65⟩, fun _ => by rw [getD_eq default (by omega)]; simpa using c44⟩
          ·refine AH.takeW (i := 39) rfl (Y.not rfl) (by kernel_rfl) rfl rfl ?_
           refine AH.takeW (i := 40) rfl (Y.pickF rfl rfl) (by kernel_rfl) rfl rfl ?_
           refine AH.done (by kernel_rfl) ?_
           refine AK.seqN (AC.condT rfl (AC.seq (AC.region (AL.go (AO.assign rfl rfl (AL.nil ?_))))))
           refine AK.seqN (AC.ret (AK.blkR (AK.seqR (AK.seqR (AK.blkR ?_)))))
           refine AK.seqR ?_
           exact AK.ret (L' := L) (F' := F) Tryz.results10 rfl subA (hF (fun e => c65 (e.2.2.1 q hql).1.2.2.2))
         ·refine AH.takeW (i := 32) rfl (Y.not rfl) (by kernel_rfl) rfl rfl ?_
          refine AH.takeW (i := 33) rfl (Y.pickF rfl rfl) (by kernel_rfl) rfl rfl ?_
          refine AH.takeW (i := 34) rfl (Y.move rfl) (by kernel_rfl) rfl rfl ?_
          refine AH.skip (i := 35) rfl (by kernel_rfl) rfl rfl ?_
          refine AH.skip (i := 36) rfl (by kernel_rfl) rfl rfl ?_
          refine AH.skip (i := 37) rfl (by kernel_rfl) rfl rfl ?_
          refine AH.skip (i := 38) rfl (by kernel_rfl) rfl rfl ?_
          refine AH.skip (i := 39) rfl (by kernel_rfl) rfl rfl ?_
          refine AH.takeW (i := 40) rfl (Y.pickT rfl rfl) (by kernel_rfl) rfl rfl ?_
          refine AH.done (by kernel_rfl) ?_
          refine AK.seqN (AC.condT rfl (AC.seq (AC.region (AL.go (AO.assign rfl rfl (AL.nil ?_))))))
          refine AK.seqN (AC.ret (AK.blkR (AK.seqR (AK.seqR (AK.blkR ?_)))))
          refine AK.seqR ?_
          exact AK.ret (L' := L) (F' := F) Tryz.results10 rfl subA (hF (fun e => c58 (e.2.2.1 q hql).1.2.2.1))
        ·refine AH.takeW (i := 25) rfl (Y.not rfl) (by kernel_rfl) rfl rfl ?_
         refine AH.takeW (i := 26) rfl (Y.pickF rfl rfl) (by kernel_rfl) rfl rfl ?_
         refine AH.takeW (i := 27) rfl (Y.move rfl) (by kernel_rfl) rfl rfl ?_
         refine AH.skip (i := 28) rfl (by kernel_rfl) rfl rfl ?_
         refine AH.skip (i := 29) rfl (by kernel_rfl) rfl rfl ?_
         refine AH.skip (i := 30) rfl (by kernel_rfl) rfl rfl ?_
         refine AH.skip (i := 31) rfl (by kernel_rfl) rfl rfl ?_
         refine AH.skip (i := 32) rfl (by kernel_rfl) rfl rfl ?_
         refine AH.takeW (i := 33) rfl (Y.pickT rfl rfl) (by kernel_rfl) rfl rfl ?_
         refine AH.takeW (i := 34) rfl (Y.move rfl) (by kernel_rfl) rfl rfl ?_
         refine AH.skip (i := 35) rfl (by kernel_rfl) rfl rfl ?_
         refine AH.skip (i := 36) rfl (by kernel_rfl) rfl rfl ?_
         refine AH.skip (i := 37) rfl (by kernel_rfl) rfl rfl ?_
         refine AH.skip (i := 38) rfl (by kernel_rfl) rfl rfl ?_
         refine AH.skip (i := 39) rfl (by kernel_rfl) rfl rfl ?_
         refine AH.takeW (i := 40) rfl (Y.pickT rfl rfl) (by kernel_rfl) rfl rfl ?_
         refine AH.done (by kernel_rfl) ?_
         refine AK.seqN (AC.condT rfl (AC.seq (AC.region (AL.go (AO.assign rfl rfl (AL.nil ?_))))))
         refine AK.seqN (AC.ret (AK.blkR (AK.seqR (AK.seqR (AK.blkR ?_)))))
         refine AK.seqR ?_
         exact AK.ret (L' := L) (F' := F) Tryz.results10 rfl subA (hF (fun e => c51 (e.2.2.1 q hql).1.2.1))
      ·replace c33 := of_decide_eq_false c33
       refine AH.takeW (i := 7) rfl (Y.move rfl) (by kernel_rfl) rfl rfl ?_
       refine AH.skip (i := 8) rfl (by kernel_rfl) rfl rfl ?_
       refine AH.skip (i := 9) rfl (by kernel_rfl) rfl rfl ?_
       refine AH.skip (i := 10) rfl (by kernel_rfl) rfl rfl ?_
       refine AH.skip (i := 11) rfl (by kernel_rfl) rfl rfl ?_
       refine AH.skip (i := 12) rfl (by kernel_rfl) rfl rfl ?_
       refine AH.skip (i := 13) rfl (by kernel_rfl) rfl rfl ?_
       refine AH.skip (i := 14) rfl (by kernel_rfl) rfl rfl ?_
       refine AH.skip (i := 15) rfl (by kernel_rfl) rfl rfl ?_
       refine AH.skip (i := 16) rfl (by kernel_rfl) rfl rfl ?_
       refine AH.skip (i := 17) rfl (by kernel_rfl) rfl rfl ?_
       refine AH.takeW (i := 18) rfl (Y.pickF rfl rfl) (by kernel_rfl) rfl rfl ?_
       refine AH.takeW (i := 19) rfl (Y.pickF rfl rfl) (by kernel_rfl) rfl rfl ?_
       refine AH.takeW (i := 20) rfl (Y.move rfl) (by kernel_rfl) rfl rfl ?_
       refine AH.takeS (i := 21) rfl (Y.loadBA rfl lmA (by rfl)) (by kernel_rfl) (by kernel_rfl) rfl rfl rfl ?_
       refine AH.takeW (i := 22) rfl (Y.move rfl) (by kernel_rfl) rfl rfl ?_
       refine AH.takeS (i := 23) rfl (Y.loadBA rfl lmA (by rfl)) (by kernel_rfl) (by kernel_rfl) rfl rfl rfl ?_
       refine AH.one (i := 24) (by kernel_rfl) rfl rfl (fun _ => ?_)
       refine AO.call rfl rfl (bounds_c T N[q] (show fL T a k c ∈ _ from memA) (show fI (asksL T) _ _ _ ∈ _ from memA) (show fBd N[q] _ _ _ ∈ _ from memA) (fun c51 => ?_) (fun c51 => ?_))
       all_goals refine AT.held bxA memB ?_
       ·refine AH.takeW (i := 25) rfl (Y.not rfl) (by kernel_rfl) rfl rfl ?_
        refine AH.takeW (i := 26) rfl (Y.pickF rfl rfl) (by kernel_rfl) rfl rfl ?_
        refine AH.takeW (i := 27) rfl (Y.move rfl) (by kernel_rfl) rfl rfl ?_
        refine AH.takeS (i := 28) rfl (Y.loadBA rfl lmA (by rfl)) (by kernel_rfl) (by kernel_rfl) rfl rfl rfl ?_
        refine AH.takeW (i := 29) rfl (Y.move rfl) (by kernel_rfl) rfl rfl ?_
        refine AH.takeS (i := 30) rfl (Y.loadBA rfl lmA (by rfl)) (by kernel_rfl) (by kernel_rfl) rfl rfl rfl ?_
        refine AH.one (i := 31) (by kernel_rfl) rfl rfl (fun _ => ?_)
        refine AO.call rfl rfl (under_c T N[q] (show fL T a k c ∈ _ from memA) (show fI (asksL T) _ _ _ ∈ _ from memA) (show fBd N[q] _ _ _ ∈ _ from memA) (fun c58 => ?_) (fun c58 => ?_))
        all_goals refine AT.held bxA memB ?_
        ·refine AH.takeW (i := 32) rfl (Y.not rfl) (by kernel_rfl) rfl rfl ?_
         refine AH.takeW (i := 33) rfl (Y.pickF rfl rfl) (by kernel_rfl) rfl rfl ?_
         refine AH.takeW (i := 34) rfl (Y.move rfl) (by kernel_rfl) rfl rfl ?_
         refine AH.takeS (i := 35) rfl (Y.loadBA rfl lmA (by rfl)) (by kernel_rfl) (by kernel_rfl) rfl rfl rfl ?_
         refine AH.takeW (i := 36) rfl (Y.move rfl) (by kernel_rfl) rfl rfl ?_
         refine AH.takeS (i := 37) rfl (Y.loadBA rfl lmA (by rfl)) (by kernel_rfl) (by kernel_rfl) rfl rfl rfl ?_
         refine AH.one (i := 38) (by kernel_rfl) rfl rfl (fun _ => ?_)
         refine AO.call rfl rfl (methods_c T N[q] (show fL T a k c ∈ _ from memA) (show fI (asksL T) _ _ _ ∈ _ from memA) (show fBd N[q] _ _ _ ∈ _ from memA) (show fMs N[q].methods _ _ _ ∈ _ from memA) (fun c65 => ?_) (fun c65 => ?_))
         all_goals refine AT.held bxA memB ?_
         ·refine AH.takeW (i := 39) rfl (Y.not rfl) (by kernel_rfl) rfl rfl ?_
          refine AH.takeW (i := 40) rfl (Y.pickF rfl rfl) (by kernel_rfl) rfl rfl ?_
          refine AH.done (by kernel_rfl) ?_
          refine AK.seqN (AC.condF rfl (AC.skip (AK.blkN (AK.seqN (AC.region ?_)))))
          refine AL.go (AO.add rfl rfl rfl (by omega) (by omega) (AL.go (AO.move rfl rfl (AL.nil ?_))))
          refine AK.next (q + 1) ⟨by omega, fun j hj hjq => ?_⟩ (by omega) srA (Sub.drop.trans subF)
          rcases Nat.lt_succ_iff_lt_or_eq.1 hjq with k9 | rfl
          · exact hin j hj k9
          · exact ⟨⟨c29, c51, c58, c65⟩, fun h0 => absurd h0 (by omega)⟩
         ·refine AH.takeW (i := 39) rfl (Y.not rfl) (by kernel_rfl) rfl rfl ?_
          refine AH.takeW (i := 40) rfl (Y.pickF rfl rfl) (by kernel_rfl) rfl rfl ?_
          refine AH.done (by kernel_rfl) ?_
          refine AK.seqN (AC.condT rfl (AC.seq (AC.region (AL.go (AO.assign rfl rfl (AL.nil ?_))))))
          refine AK.seqN (AC.ret (AK.blkR (AK.seqR (AK.seqR (AK.blkR ?_)))))
          refine AK.seqR ?_
          exact AK.ret (L' := L) (F' := F) Tryz.results10 rfl subA (hF (fun e => c65 (e.2.2.1 q hql).1.2.2.2))
        ·refine AH.takeW (i := 32) rfl (Y.not rfl) (by kernel_rfl) rfl rfl ?_
         refine AH.takeW (i := 33) rfl (Y.pickF rfl rfl) (by kernel_rfl) rfl rfl ?_
         refine AH.takeW (i := 34) rfl (Y.move rfl) (by kernel_rfl) rfl rfl ?_
         refine AH.skip (i := 35) rfl (by kernel_rfl) rfl rfl ?_
         refine AH.skip (i := 36) rfl (by kernel_rfl) rfl rfl ?_
         refine AH.skip (i := 37) rfl (by kernel_rfl) rfl rfl ?_
         refine AH.skip (i := 38) rfl (by kernel_rfl) rfl rfl ?_
         refine AH.skip (i := 39) rfl (by kernel_rfl) rfl rfl ?_
         refine AH.takeW (i := 40) rfl (Y.pickT rfl rfl) (by kernel_rfl) rfl rfl ?_
         refine AH.done (by kernel_rfl) ?_
         refine AK.seqN (AC.condT rfl (AC.seq (AC.region (AL.go (AO.assign rfl rfl (AL.nil ?_))))))
         refine AK.seqN (AC.ret (AK.blkR (AK.seqR (AK.seqR (AK.blkR ?_)))))
         refine AK.seqR ?_
         exact AK.ret (L' := L) (F' := F) Tryz.results10 rfl subA (hF (fun e => c58 (e.2.2.1 q hql).1.2.2.1))
       ·refine AH.takeW (i := 25) rfl (Y.not rfl) (by kernel_rfl) rfl rfl ?_
        refine AH.takeW (i := 26) rfl (Y.pickF rfl rfl) (by kernel_rfl) rfl rfl ?_
        refine AH.takeW (i := 27) rfl (Y.move rfl) (by kernel_rfl) rfl rfl ?_
        refine AH.skip (i := 28) rfl (by kernel_rfl) rfl rfl ?_
        refine AH.skip (i := 29) rfl (by kernel_rfl) rfl rfl ?_
        refine AH.skip (i := 30) rfl (by kernel_rfl) rfl rfl ?_
        refine AH.skip (i := 31) rfl (by kernel_rfl) rfl rfl ?_
        refine AH.skip (i := 32) rfl (by kernel_rfl) rfl rfl ?_
        refine AH.takeW (i := 33) rfl (Y.pickT rfl rfl) (by kernel_rfl) rfl rfl ?_
        refine AH.takeW (i := 34) rfl (Y.move rfl) (by kernel_rfl) rfl rfl ?_
        refine AH.skip (i := 35) rfl (by kernel_rfl) rfl rfl ?_
        refine AH.skip (i := 36) rfl (by kernel_rfl) rfl rfl ?_
        refine AH.skip (i := 37) rfl (by kernel_rfl) rfl rfl ?_
        refine AH.skip (i := 38) rfl (by kernel_rfl) rfl rfl ?_
        refine AH.skip (i := 39) rfl (by kernel_rfl) rfl rfl ?_
        refine AH.takeW (i := 40) rfl (Y.pickT rfl rfl) (by kernel_rfl) rfl rfl ?_
        refine AH.done (by kernel_rfl) ?_
        refine AK.seqN (AC.condT rfl (AC.seq (AC.region (AL.go (AO.assign rfl rfl (AL.nil ?_))))))
        refine AK.seqN (AC.ret (AK.blkR (AK.seqR (AK.seqR (AK.blkR ?_)))))
        refine AK.seqR ?_
        exact AK.ret (L' := L) (F' := F) Tryz.results10 rfl subA (hF (fun e => c51 (e.2.2.1 q hql).1.2.1))
     ·refine AH.takeW (i := 3) rfl (Y.not rfl) (by kernel_rfl) rfl rfl ?_
      refine AH.takeW (i := 4) rfl (Y.move rfl) (by kernel_rfl) rfl rfl ?_
      refine AH.skip (i := 5) rfl (by kernel_rfl) rfl rfl ?_
      refine AH.skip (i := 6) rfl (by kernel_rfl) rfl rfl ?_
      refine AH.skip (i := 7) rfl (by kernel_rfl) rfl rfl ?_
      refine AH.skip (i := 8) rfl (by kernel_rfl) rfl rfl ?_
      refine AH.skip (i := 9) rfl (by kernel_rfl) rfl rfl ?_
      refine AH.skip (i := 10) rfl (by kernel_rfl) rfl rfl ?_
      refine AH.skip (i := 11) rfl (by kernel_rfl) rfl rfl ?_
      refine AH.skip (i := 12) rfl (by kernel_rfl) rfl rfl ?_
      refine AH.skip (i := 13) rfl (by kernel_rfl) rfl rfl ?_
      refine AH.skip (i := 14) rfl (by kernel_rfl) rfl rfl ?_
      refine AH.skip (i := 15) rfl (by kernel_rfl) rfl rfl ?_
      refine AH.skip (i := 16) rfl (by kernel_rfl) rfl rfl ?_
      refine AH.skip (i := 17) rfl (by kernel_rfl) rfl rfl ?_
      refine AH.skip (i := 18) rfl (by kernel_rfl) rfl rfl ?_
      refine AH.takeW (i := 19) rfl (Y.pickT rfl rfl) (by kernel_rfl) rfl rfl ?_
      refine AH.takeW (i := 20) rfl (Y.move rfl) (by kernel_rfl) rfl rfl ?_
      refine AH.skip (i := 21) rfl (by kernel_rfl) rfl rfl ?_
      refine AH.skip (i := 22) rfl (by kernel_rfl) rfl rfl ?_
      refine AH.skip (i := 23) rfl (by kernel_rfl) rfl rfl ?_
      refine AH.skip (i := 24) rfl (by kernel_rfl) rfl rfl ?_
      refine AH.skip (i := 25) rfl (by kernel_rfl) rfl rfl ?_
      refine AH.takeW (i := 26) rfl (Y.pickT rfl rfl) (by kernel_rfl) rfl rfl ?_
      refine AH.takeW (i := 27) rfl (Y.move rfl) (by kernel_rfl) rfl rfl ?_
      refine AH.skip (i := 28) rfl (by kernel_rfl) rfl rfl ?_
      refine AH.skip (i := 29) rfl (by kernel_rfl) rfl rfl ?_
      refine AH.skip (i := 30) rfl (by kernel_rfl) rfl rfl ?_
      refine AH.skip (i := 31) rfl (by kernel_rfl) rfl rfl ?_
      refine AH.skip (i := 32) rfl (by kernel_rfl) rfl rfl ?_
      refine AH.takeW (i := 33) rfl (Y.pickT rfl rfl) (by kernel_rfl) rfl rfl ?_
      refine AH.takeW (i := 34) rfl (Y.move rfl) (by kernel_rfl) rfl rfl ?_
      refine AH.skip (i := 35) rfl (by kernel_rfl) rfl rfl ?_
      refine AH.skip (i := 36) rfl (by kernel_rfl) rfl rfl ?_
      refine AH.skip (i := 37) rfl (by kernel_rfl) rfl rfl ?_
      refine AH.skip (i := 38) rfl (by kernel_rfl) rfl rfl ?_
      refine AH.skip (i := 39) rfl (by kernel_rfl) rfl rfl ?_
      refine AH.takeW (i := 40) rfl (Y.pickT rfl rfl) (by kernel_rfl) rfl rfl ?_
      refine AH.done (by kernel_rfl) ?_
      refine AK.seqN (AC.condT rfl (AC.seq (AC.region (AL.go (AO.assign rfl rfl (AL.nil ?_))))))
      refine AK.seqN (AC.ret (AK.blkR (AK.seqR (AK.seqR (AK.blkR ?_)))))
      refine AK.seqR ?_
      exact AK.ret (L' := L) (F' := F) Tryz.results10 rfl subA (hF (fun e => c29 (e.2.2.1 q hql).1.1))
    ·refine AL.nil (AK.seqN (AC.seq (AC.condF rfl (AC.exit (AK.seqX ?_)))))
     refine AK.seqX (AK.blkX (AK.seqN (AC.seq (AC.region (AL.go (AO.field rfl rfl ?_))))))
     refine AL.go (AO.loadB rfl rfl ?_)
     refine AL.go (AO.makeFunc rfl rfl ?_)
     refine AL.go (AO.call rfl rfl (containsFuncT_c T hok memA _ [.pointer (some ⟨b1, 0, none⟩)] (fun t => ¬ fitsU N t) (fun x hx y1 y2 y3 y4 y5 y6 F' hF' n1 n2 R hT hF => uright1_c N x (j := 0) (hF' _ memA) n2 rfl hT hF) (fun c72 => ?_) (fun c72 => ?_)))
     ·refine AL.go (AO.not rfl rfl (AL.go (AO.assign rfl rfl (AL.nil (AK.seqN (AC.ret ?_))))))
      exact AK.ret (L' := L) (F' := F) Tryz.results10 rfl subA (hF (fun e => c72 (fun j hj hn => hn (e.2.2.2 _ (List.getElem_mem hj)))))
     ·refine AL.go (AO.not rfl rfl (AL.go (AO.assign rfl rfl (AL.nil (AK.seqN (AC.ret ?_))))))
      refine AK.ret (L' := L) (F' := F) Tryz.results10 rfl subA (hT ⟨c8, by omega, fun i hi => hin i hi (by omega), fun t ht => ?_⟩)
      obtain ⟨j, hj, rfl⟩ := List.getElem_of_mem ht
      exact Classical.byContradiction (c72 j hj)
  ·refine AL.go (AO.not rfl rfl (AL.go (AO.move rfl rfl (AL.no rfl rfl rfl rfl (AL.no rfl rfl rfl rfl (AL.no rfl rfl rfl rfl (AL.no rfl rfl rfl rfl ?_)))))))
   refine AL.go (AO.pickT rfl rfl rfl (AL.nil (AK.seqN (AC.condT rfl (AC.seq (AC.region ?_))))))
   refine AL.go (AO.assign rfl rfl (AL.nil (AK.seqN (AC.ret (AK.seqR ?_)))))
   exact AK.ret (L' := L) (F' := F) Tryz.results10 rfl subA (hF (fun e => c8 e.1))
end
end Go.Sy
namespace Go.Sy
open Go Go.Proofs Go.RowKit
theorem nm_ext {n m : Nmd} (h1 : n.name = m.name) (h2 : n.bounds = m.bounds) (h3 : n.under = m.under) (h4 : n.methods = m.methods) : n = m := by
  cases n; cases m; simp_all
theorem mt_ext {n m : Mth} (h1 : n.name = m.name) (h2 : n.ptr = m.ptr) (h3 : n.sig = m.sig) : n = m := by
  cases n; cases m; simp_all
attribute [local irreducible] AC AT AO AK AH ACalls Sub Res.cells Res.nix Res.own Res.map Exit.then Exit.inBlock bodyPost Code.wp Code.wpIn WL Next Post Kont
section
variable {W0 : World} {L : List Res} {F : List Fact} {R : Value → List Res → List Fact → Prop}
set_option maxRecDepth 100000
set_option maxHeartbeats 16000000
end
end Go.Sy
namespace Go.Sy
open Go Go.Proofs Go.RowKit
attribute [local irreducible] AC AT AO AK AH ACalls Sub Res.cells Res.nix Res.own Res.map Exit.then Exit.inBlock bodyPost Code.wp Code.wpIn WL Next Post Kont
section
variable {W0 : World} {L : List Res} {F : List Fact} {R : Value → List Res → List Fact → Prop}
set_option maxRecDepth 100000
set_option maxHeartbeats 16000000
theorem substIn_c (g : Glob W0) (l : List Ty) (hok : ∀ t ∈ l, TyOk t) (hr : rightP l) (n : Nat) (hn : n < l.length) (args : List Int) (_hargs : args.length ≤ 1000) {a a2 : Option Addr} {k c k2 c2 : Nat} (mL : fL l a k c ∈ F) (mA : fI args a2 k2 c2 ∈ F) (mN : Fact.slc (.slice none 0 0) 5 [] ∈ F)
    (h3 : ∀ e, subR l n args = .error e → R (.tuple #[.slice none 0 0, .int .i64 0, .int .i64 e]) L (fL [] none 0 0 :: F))
    (h4 : ∀ o q a k c, subR l n args = .ok (o, q) → R (.tuple #[.slice a k c, .int .i64 q, .int .i64 0]) L (fL o a k c :: F)) :
    ACalls Tryz.prog W0 114 #[.slice a k c, .int .i64 (n : Int), .slice a2 k2 c2] L F R := by
  have h400 := hr.2.1
  have hAl := asks_len l (n + 1) (by omega)
  have hAget := getD_eq (l := asksL (l.take (n + 1))) (0 : Int) (q := n) (by omega)
  have hMl : (partsL l n).length = n + 1 := partsN_len l n (n + 1)
  refine ACalls.body Tryz.func114 rfl Tryz.ntmps114 rfl ?_
  refine AC.seq (AC.region (AL.go (AO.box rfl rfl (fun b3 => ?_))))
  refine AL.go (AO.assign rfl rfl (AL.go (AO.assign rfl rfl (AL.go (AO.assign rfl rfl (AL.nil (AK.seqN (AC.seq ?_))))))))
  refine AC.seq (AC.region ?_)
  refine AL.go (AO.loadB rfl rfl ?_)
  refine AL.go (AO.move rfl rfl ?_)
  refine AL.go (AO.call rfl rfl (there_c g l hok (n : Int) memA (fun c => absurd hr c) (fun _ c => absurd (by omega) c) (fun _ _ => ?_)))
  refine AL.go (AO.assign rfl rfl (AL.nil (AK.seqN (AC.seq (AC.region (AL.go (AO.move rfl rfl ?_)))))))
  refine AL.go (AO.neq rfl rfl rfl (fun c28 => absurd rfl c28) (fun _ => ?_))
  refine AL.nil (AK.seqN (AC.condF rfl (AC.skip (AK.seqN (AC.seq ?_)))))
  refine AC.region ?_
  refine AL.go (AO.loadB rfl rfl ?_)
  refine AL.go (AO.move rfl rfl ?_)
  refine AL.go (AO.call rfl rfl (asks_c l hr n hn memA (fun a32 k32 z32 => ?_)))
  refine AL.go (AO.assign rfl rfl (AL.nil (AK.seqN (AC.seq (AC.region ?_)))))
  refine AL.go (AO.makeFunc rfl rfl ?_)
  refine AL.go (AO.assign rfl rfl (AL.nil (AK.seqN (AC.seq (AC.seq (AC.region ?_))))))
  refine AL.go (AO.move rfl rfl (AL.go (AO.move rfl rfl ?_)))
  refine AL.go (AO.call rfl rfl (containsFuncI_c args (show fI args a2 k2 c2 ∈ _ from memA) _ [.pointer (some ⟨b3, 0, none⟩)] (fun s => s < 0 ∨ s ≥ l.length) (fun s F' hF' R hT hF => sub1_c l s (i := 0) (hF' _ memA) rfl hT hF) (fun c36 => ?_) (fun c36 => ?_)))
  ·refine AL.go (AO.move rfl rfl (AL.no rfl rfl rfl rfl (AL.no rfl rfl rfl rfl (AL.no rfl rfl rfl rfl (AL.no rfl rfl rfl rfl (AL.no rfl rfl rfl rfl ?_))))))
   refine AL.no rfl rfl rfl rfl (AL.no rfl rfl rfl rfl (AL.go (AO.pickT rfl rfl rfl (AL.nil (AK.seqN (AC.condT rfl ?_))))))
   refine AC.seq (AC.region (AL.go (AO.assign rfl rfl (AL.go (AO.assign rfl rfl (AL.go (AO.assign rfl rfl (AL.nil ?_))))))))
   refine AK.seqN (AC.ret (AK.seqR ?_))
   exact AK.ret3 (L' := L) (F' := fL [] none 0 0 :: F) Tryz.results114 rfl rfl rfl (Sub.drop.trans (Sub.facts (mem1 memA (fun x hx => by repeat (first | exact hx | refine List.mem_cons_of_mem _ ?_))))) (h3 1 (subR_bad (.inr (bad_of c36))))
  ·refine AL.go (AO.move rfl rfl (AL.yes rfl rfl (AO.move rfl rfl ?_)))
   refine AL.yes rfl rfl (AO.len rfl rfl (fun hl39 => ?_) (enc := eI) (lst := args) (hm := (show fI args a2 k2 c2 ∈ _ from memA)))
   refine AL.yes rfl rfl (AO.move rfl rfl (AL.yes rfl rfl (AO.move rfl rfl ?_)))
   refine AL.yes rfl rfl (AO.indexAddr (k := n) rfl rfl rfl rfl (enc := eI) (lst := asksL (l.take (n + 1))) memA (by omega) (fun _ _ => ?_))
   rw [← hAget]
   refine AL.yes rfl rfl (AO.loadF rfl rfl ?_)
   intros
   refine AL.yes rfl rfl (AO.lss rfl rfl rfl (fun c44 => ?_) (fun c44 => ?_))
   ·refine AL.go (AO.pickF rfl rfl rfl (AL.nil (AK.seqN (AC.condT rfl (AC.seq (AC.region ?_))))))
    refine AL.go (AO.assign rfl rfl (AL.go (AO.assign rfl rfl (AL.go (AO.assign rfl rfl (AL.nil (AK.seqN (AC.ret ?_))))))))
    refine AK.seqR ?_
    exact AK.ret3 (L' := L) (F' := fL [] none 0 0 :: F) Tryz.results114 rfl rfl rfl (Sub.drop.trans (Sub.facts (mem1 memA (fun x hx => by repeat (first | exact hx | refine List.mem_cons_of_mem _ ?_))))) (h3 1 (subR_bad (.inl c44)))
   ·refine AL.go (AO.pickF rfl rfl rfl (AL.nil (AK.seqN (AC.condF rfl (AC.skip (AK.seqN ?_))))))
    refine AC.seq (AC.region ?_)
    refine AL.go (AO.makeMap vI vI rfl (fun b46 => ?_))
    refine AL.go (AO.assign rfl rfl (AL.nil (AK.seqN (AC.seq (AC.region ?_)))))
    refine AL.go (AO.loadB rfl rfl ?_)
    refine AL.go (AO.assign rfl rfl (AL.nil (AK.seqN (AC.seq (AC.seq (AC.region ?_))))))
    refine AL.go (AO.loadB rfl rfl ?_)
    refine AL.go (AO.move rfl rfl ?_)
    have hgood := good_of c36
    have hnb : ¬ badArgs l n args := not_bad hgood (by omega)
    refine AL.go (AO.call rfl rfl (parts_c l hr n hn memA (fun a50 k50 z50 => ?_)))
    refine AL.go (AO.len rfl rfl (fun hl51 => ?_) (enc := eBl) (lst := partsL l n) (hm := memA))
    refine AL.go (AO.move rfl rfl (AL.nil (AK.seqN (AC.block ?_))))
    refine AC.loop (fun (x : Nat × (List Ty × List Int × (Int → Option Int)) × (Option Addr × Nat × Nat)) => x.1 ≤ n + 1 ∧ subN l args (asksL (l.take (n + 1))) (partsL l n) x.1 = .ok (x.2.1.1, x.2.1.2.1) ∧ SubOk l x.1 x.2.1.1 x.2.1.2.1 ∧ MapS (partsL l n) x.2.1.2.1 x.1 x.2.1.2.2) (fun x => [(1, .int .i64 (n : Int)), (2, .slice a2 k2 c2), (3, .pointer (some ⟨b3, 0, none⟩)), (10, .slice a32 k32 z32), (12, .map (some b46)), (13, .slice x.2.2.1 x.2.2.2.1 x.2.2.2.2), (50, .slice a50 k50 z50), (51, .int .i64 (partsL l n).length), (52, .int .i64 (x.1 : Int))]) (fun x => Res.map b46 vI vI x.2.1.2.2 :: Res.cells b3 #[.slice a k c] 22 :: L) (fun x => fL x.2.1.1 x.2.2.1 x.2.2.2.1 x.2.2.2.2 :: _) (fun x => n + 1 - x.1) (0, (l, [], fun _ => none), (a, k, c)) ⟨Nat.zero_le _, rfl, ⟨hr, List.prefix_rfl, rfl, fun p hp => absurd hp (by simp)⟩, fun p hp => absurd hp (by simp)⟩ srA (Sub.facts (mem1 memA (fun x hx => hx))) ?_
    rintro ⟨q, ⟨out, ins, m⟩, ⟨a13, k13, c13⟩⟩ ⟨hq, hs, hso, hm⟩
    simp only at hq hs hso hm ⊢
    refine AC.seq (AC.region ?_)
    refine AL.go (AO.lss rfl rfl rfl (fun c53 => ?_) (fun c53 => ?_))
    ·refine AL.nil (AK.seqN (AC.seq (AC.condT rfl (AC.skip (AK.seqN ?_)))))
     refine AC.seq (AC.block (AC.seq (AC.region (AL.go (AO.move rfl rfl ?_)))))
     have hqn : q < n + 1 := by omega
     have hql : q < l.length := by omega
     have hqA : q < (asksL (l.take (n + 1))).length := by omega
     have hqM : q < (partsL l n).length := by omega
     have hMq := getD_eq false hqM
     have hAq := getD_eq (0 : Int) hqA
     have hrt := rt_of_right hr hql
     have hout := hso.right.2.1
     have hol := hso.pre.length_le
     refine AL.go (AO.indexAddr rfl rfl rfl rfl (enc := eBl) (lst := partsL l n) memA hqM (fun _ _ => ?_))
     rw [← hMq]
     refine AL.go (AO.loadF rfl rfl ?_)
     intros
     refine AL.go (AO.assign rfl rfl (AL.go (AO.assign rfl rfl (AL.nil (AK.seqN (AC.seq (AC.region ?_)))))))
     refine AL.go (AO.loadB rfl rfl ?_)
     refine AL.go (AO.move rfl rfl ?_)
     refine AL.go (AO.indexAddr rfl rfl rfl rfl (show fL l a k c ∈ _ from memA) hql (fun _ _ => ?_))
     refine AL.go (AO.loadFA rfl rfl ?_)
     intro a60 k60 z60 d60 e60 f60
     refine AL.go (AO.alloc rfl (fun b16 => ?_))
     refine AL.go (AO.storeBA rfl rfl rfl rfl ?_)
     refine AL.nil (AK.seqN (AC.seq (AC.block (AC.seq (AC.region ?_)))))
     refine AL.go (AO.move rfl rfl (AL.go (AO.not rfl rfl (AL.go (AO.assign rfl rfl (AL.nil (AK.seqN ?_)))))))
     refine AC.cond rfl (fun c61 => ?_) (fun c61 => ?_)
     ·refine AC.exit (AK.blkY rfl (AK.seqX (AK.blkX (AK.seqN (AC.region ?_)))))
      refine AL.go (AO.add rfl rfl rfl (by omega) (by omega) (AL.go (AO.move rfl rfl (AL.nil ?_))))
      have hM0 : (partsL l n).getD q false = false := by simpa using c61
      exact AK.next (q + 1, (out, ins ++ [(q : Int)], m), (a13, k13, c13)) ⟨by simp only; omega, sub_out hs (.inl hM0), hso.step hso.right List.prefix_rfl (by simp only; omega), hm.skip hso.len _ hM0⟩ (by simp only; omega) srA (Sub.drop.trans (Sub.facts (mem1 memA (fun x hx => by repeat (first | exact hx | refine List.mem_cons_of_mem _ ?_)))))
     ·refine AC.seq (AC.region (AL.go (AO.field rfl rfl ?_)))
      refine AL.go (AO.loadB rfl rfl ?_)
      refine AL.go (AO.eql rfl rfl rfl (fun c67 => ?_) (fun c67 => ?_))
      ·refine AL.go (AO.assign rfl rfl (AL.nil (AK.seqN (AC.condT rfl (AC.seq (AC.region ?_))))))
       refine AL.go (AO.move rfl rfl (AL.go (AO.move rfl rfl (AL.go (AO.move rfl rfl (AL.go (AO.field rfl rfl ?_)))))))
       refine AL.go (AO.loadB rfl rfl ?_)
       have hM1 : (partsL l n).getD q false = true := by simpa using c61
       have hp9 := hrt.param c67
       have hask := parts_ask hr hn (n + 1) (Nat.le_refl _) hM1
       have hA9 : (asksL (l.take (n + 1))).getD q 0 = l[q].n + 1 := by
        rw [asks_at hn (by omega)]; unfold ask1 ask0; rw [if_pos c67, hp9.2.2]; rfl
       have hna : l[q].n.toNat < args.length := by omega
       have hga := getD_eq (0 : Int) hna
       have hgr := hgood _ (List.getElem_mem hna)
       refine AL.go (AO.indexAddr (k := l[q].n.toNat) rfl rfl rfl (by omega) (show fI args a2 k2 c2 ∈ _ from memA) hna (fun _ _ => ?_))
       rw [← hga]
       refine AL.go (AO.loadF rfl rfl ?_)
       intros
       refine AL.go (AO.mapUpdate (kenc := vI) (venc := vI) (m := m) (i := 1) (q : Int) (args.getD l[q].n.toNat 0) rfl rfl rfl rfl ?_)
       simp only [List.set_cons_zero, List.set_cons_succ]
       refine AL.nil (AK.seqN (AC.exit (AK.blkY rfl (AK.seqX (AK.blkX ?_)))))
       refine AK.seqN (AC.region (AL.go (AO.add rfl rfl rfl (by omega) (by omega) (AL.go (AO.move rfl rfl (AL.nil ?_))))))
       exact AK.next (q + 1, (out, ins ++ [args.getD l[q].n.toNat 0], upd m (q : Int) (args.getD l[q].n.toNat 0)), (a13, k13, c13)) ⟨by simp only; omega, sub_param hs hM1 (by omega) hql c67, hso.step hso.right List.prefix_rfl (by simp only; rw [hga]; omega), hm.upd hso.len _⟩ (by simp only; omega) srA (Sub.drop.trans (Sub.facts (mem1 memA (fun x hx => by repeat (first | exact hx | refine List.mem_cons_of_mem _ ?_)))))
      ·refine AL.go (AO.assign rfl rfl (AL.nil (AK.seqN (AC.condF rfl (AC.seq (AC.region ?_))))))
       refine AL.go (AO.move rfl rfl (AL.go (AO.move rfl rfl ?_)))
       have hM1 : (partsL l n).getD q false = true := by simpa using c61
       refine AL.go (AO.indexAddr rfl rfl rfl rfl (enc := eI) (lst := asksL (l.take (n + 1))) memA hqA (fun _ _ => ?_))
       rw [← hAq]
       refine AL.go (AO.loadF rfl rfl ?_)
       intros
       refine AL.go (AO.eql rfl rfl rfl (fun c80 => ?_) (fun c80 => ?_))
       ·refine AL.go (AO.assign rfl rfl (AL.nil (AK.seqN (AC.condT rfl (AC.seq (AC.region ?_))))))
        refine AL.go (AO.move rfl rfl (AL.go (AO.move rfl rfl (AL.go (AO.move rfl rfl ?_)))))
        refine AL.go (AO.mapUpdate (kenc := vI) (venc := vI) (m := m) (i := 1) (q : Int) (q : Int) rfl rfl rfl rfl ?_)
        simp only [List.set_cons_zero, List.set_cons_succ]
        refine AL.nil (AK.seqN (AC.exit (AK.blkY rfl (AK.seqX (AK.blkX ?_)))))
        refine AK.seqN (AC.region (AL.go (AO.add rfl rfl rfl (by omega) (by omega) (AL.go (AO.move rfl rfl (AL.nil ?_))))))
        exact AK.next (q + 1, (out, ins ++ [(q : Int)], upd m (q : Int) (q : Int)), (a13, k13, c13)) ⟨by simp only; omega, sub_out hs (.inr c80), hso.step hso.right List.prefix_rfl (by simp only; omega), hm.upd hso.len _⟩ (by simp only; omega) srA (Sub.drop.trans (Sub.facts (mem1 memA (fun x hx => by repeat (first | exact hx | refine List.mem_cons_of_mem _ ?_)))))
       ·refine AL.go (AO.assign rfl rfl (AL.nil (AK.seqN (AC.condF rfl (AC.skip (AK.blkN ?_))))))
        refine AK.seqN (AC.seq (AC.region (AL.go (AO.field rfl rfl ?_))))
        refine AL.go (AO.loadB rfl rfl ?_)
        refine AL.go (AO.call rfl rfl (clone_c l[q].kids (by have := hrt.few; omega) (show fK l[q] _ _ _ ∈ _ from memA) (fun a86 k86 z86 => ?_)))
        rw [← kidsS_zero ins l[q].kids]
        refine AL.go (AO.field rfl rfl ?_)
        refine AL.go (AO.storeB rfl rfl rfl ?_)
        refine AL.nil (AK.seqN (AC.seq (AC.seq (AC.region (AL.go (AO.field rfl rfl ?_))))))
        refine AL.go (AO.loadB rfl rfl ?_)
        refine AL.go (AO.lenO (i := 0) rfl rfl rfl (fun hk90 => ?_))
        rw [List.length_map, kidsS_len]
        refine AL.go (AO.move rfl rfl (AL.nil (AK.seqN (AC.block ?_))))
        refine AC.loop (fun (v : Nat) => v ≤ l[q].kids.length) (fun v => [(1, .int .i64 (n : Int)), (2, .slice a2 k2 c2), (3, .pointer (some ⟨b3, 0, none⟩)), (10, .slice a32 k32 z32), (12, .map (some b46)), (13, .slice a13 k13 c13), (50, .slice a50 k50 z50), (51, .int .i64 (partsL l n).length), (52, .int .i64 (q : Int)), (14, .int .i64 (q : Int)), (16, .pointer (some ⟨b16, 0, none⟩)), (89, .slice a86 k86 z86), (90, .int .i64 l[q].kids.length), (91, .int .i64 (v : Int))]) (fun v => Res.own (.slice a86 k86 z86) 3 1 ((kidsS ins l[q].kids v).map eI) :: _) (fun _ => _) (fun v => l[q].kids.length - v) 0 (Nat.zero_le _) srA (Sub.refl _ _) ?_
        rintro v hv
        refine AC.seq (AC.region ?_)
        refine AL.go (AO.lss rfl rfl rfl (fun c92 => ?_) (fun c92 => ?_))
        ·refine AL.nil (AK.seqN (AC.seq (AC.condT rfl (AC.skip (AK.seqN ?_)))))
         refine AC.seq (AC.block (AC.seq (AC.region (AL.go (AO.move rfl rfl ?_)))))
         have hkf := hrt.few
         have hvl : v < l[q].kids.length := by omega
         have hb := hrt.kids _ (List.getElem_mem hvl)
         have hMk := parts_kid hr hn (by omega) hM1 (List.getElem_mem hvl)
         have hmk := hm l[q].kids[v].toNat (by omega) hMk
         rw [show ((l[q].kids[v].toNat : Nat) : Int) = l[q].kids[v] by omega] at hmk
         have hkl := kidsS_len ins l[q].kids v
         refine AL.go (AO.indexAddrO (i := 0) (q := v) rfl rfl rfl rfl rfl (by rw [List.length_map]; omega) (fun bo ho => ?_))
         subst ho
         refine AL.go (AO.loadO (i := 0) (q := v) rfl rfl rfl rfl (eIs_get (kidsS_get hvl)) ?_)
         refine AL.go (AO.assign rfl rfl (AL.go (AO.assign rfl rfl (AL.nil (AK.seqN (AC.region (AL.go (AO.field rfl rfl ?_))))))))
         refine AL.go (AO.loadB rfl rfl ?_)
         refine AL.go (AO.move rfl rfl (AL.go (AO.move rfl rfl (AL.go (AO.move rfl rfl ?_)))))
         refine AL.go (AO.lookup (kenc := vI) (venc := vI) (m := m) (i := 2) l[q].kids[v] rfl rfl rfl rfl ?_)
         rw [hmk]
         refine AL.go (AO.indexAddrO (i := 0) (q := v) rfl rfl rfl rfl rfl (by rw [List.length_map]; omega) (fun bo2 ho2 => ?_))
         cases ho2
         refine AL.go (AO.storeO (i := 0) (q := v) (v := .int .i64 (ins.getD l[q].kids[v].toNat 0)) rfl rfl rfl rfl rfl (by rw [List.length_map]; omega) ?_)
         rw [eIs_set, kidsS_set hvl]
         refine AL.nil (AK.blkN (AK.seqN (AC.region (AL.go (AO.add rfl rfl rfl (by omega) (by omega) (AL.go (AO.move rfl rfl ?_)))))))
         refine AL.nil ?_
         refine AK.next (v + 1) (by omega) (by omega) srA subF
        ·refine AL.nil (AK.seqN (AC.seq (AC.condF rfl (AC.exit (AK.seqX ?_)))))
         refine AK.seqX (AK.blkX (AK.seqN (AC.seq (AC.seq (AC.region ?_)))))
         refine AL.go (AO.field rfl rfl ?_)
         refine AL.go (AO.loadB rfl rfl ?_)
         have hkd : ∀ k ∈ (mapK ins l[q]).kids, 0 ≤ k ∧ k < out.length := mapK_kids hso.ins hrt.kids
         have htok : TyOk (mapK ins l[q]) := mapK_ok hout (right_ok hr _ (List.getElem_mem hql)) hkd
         have hput := sub_put hs hM1 c80 hql c67
         rw [kidsS_all ins l[q].kids (show l[q].kids.length ≤ v by omega)]
         refine AT.sub ((Sub.commit (i := 0) rfl).trans Sub.drop) ?_
         refine AL.go (AO.eql rfl rfl rfl (fun c106 => ?_) (fun c106 => ?_))
         ·refine AL.nil (AK.seqN (AC.condT rfl (AC.seq (AC.region (AL.go (AO.move rfl rfl ?_))))))
          refine AL.go (AO.loadBA rfl rfl ?_)
          have hwk : (mapK ins l[q]).words.length = (mapK ins l[q]).kids.length := by unfold mapK; simp only [List.length_map]; exact hrt.iface c106
          refine AL.go (AO.call rfl rfl (terms_c out hout (mapK ins l[q]) htok.kids hkd hwk (hrt.bare c106) (show fL out a13 k13 c13 ∈ _ from memA) (show fW (mapK ins l[q]) _ _ _ ∈ _ from memA) (show fK (mapK ins l[q]) _ _ _ ∈ _ from memA) (fun c110 => ?_) (fun c110 p1 p2 p3 p4 p5 p6 => ?_)))
          ·refine AL.go (AO.move rfl rfl (AL.go (AO.extract rfl rfl rfl ?_)))
           refine AL.go (AO.extract rfl rfl rfl ?_)
           refine AL.go (AO.alloc rfl (fun b19 => ?_))
           refine AL.go (AO.storeBA rfl rfl rfl rfl ?_)
           refine AL.go (AO.assign rfl rfl (AL.nil (AK.seqN (AC.seq (AC.seq (AC.region ?_))))))
           refine AL.go (AO.move rfl rfl (AL.go (AO.not rfl rfl (AL.nil (AK.seqN (AC.condT rfl (AC.seq ?_)))))))
           refine AC.region (AL.go (AO.assign rfl rfl (AL.go (AO.assign rfl rfl (AL.go (AO.assign rfl rfl (AL.nil (AK.seqN ?_))))))))
           refine AC.ret (AK.seqR (AK.seqR (AK.blkR (AK.seqR (AK.seqR ?_)))))
           refine AK.blkR (AK.seqR ?_)
           exact AK.ret3 (L' := L) (F' := fL [] none 0 0 :: F) Tryz.results114 rfl rfl rfl (Sub.drop.trans (Sub.drop.trans (Sub.drop.trans (Sub.drop.trans (Sub.facts (mem1 memA (fun x hx => by repeat (first | exact hx | refine List.mem_cons_of_mem _ ?_)))))))) (h3 11 (subR_error hnb hqn (hput.trans (put_odd c106 c110))))
          ·refine AL.go (AO.move rfl rfl (AL.go (AO.extract rfl rfl rfl ?_)))
           refine AL.go (AO.extract rfl rfl rfl ?_)
           refine AL.go (AO.alloc rfl (fun b19 => ?_))
           refine AL.go (AO.storeBA rfl rfl rfl rfl ?_)
           refine AL.go (AO.assign rfl rfl (AL.nil (AK.seqN (AC.seq (AC.seq (AC.region ?_))))))
           refine AL.go (AO.move rfl rfl (AL.go (AO.not rfl rfl (AL.nil (AK.seqN (AC.condF rfl (AC.skip ?_)))))))
           refine AK.seqN (AC.region ?_)
           refine AL.go (AO.loadBA rfl rfl ?_)
           refine AL.go (AO.storeBA rfl rfl rfl rfl ?_)
           refine AL.nil (AK.seqN (AC.seq (AC.region (AL.go (AO.move rfl rfl ?_)))))
           refine AL.go (AO.loadBA rfl rfl ?_)
           refine AL.go (AO.call rfl rfl (add2_c g out (right_ok hso.right) (termsT out.length (mapK ins l[q])) (termsT_ok hout htok hwk hkd) (show fL out a13 k13 c13 ∈ _ from memA) (show fW (termsT out.length (mapK ins l[q])) p1 p2 p3 ∈ _ from memA) (show fK (termsT out.length (mapK ins l[q])) p4 p5 p6 ∈ _ from memA) (fun c => absurd hso.right c) (fun _ o2 i2 e2 a119 k119 c119 hP => ?_)))
           rw [put_iface (t := mapK ins l[q]) hso.right c106 c110 hP] at hput
           refine AL.go (AO.move rfl rfl (AL.go (AO.extract rfl rfl rfl (AL.go (AO.extract rfl rfl rfl (AL.go (AO.extract rfl rfl rfl (AL.go (AO.assign rfl rfl (AL.go (AO.assign rfl rfl ?_)))))))))))
           refine AL.go (AO.assign rfl rfl (AL.nil (AK.seqN (AC.seq (AC.seq (AC.region ?_))))))
           refine AL.go (AO.move rfl rfl ?_)
           refine AL.go (AO.neq rfl rfl rfl (fun c124 => ?_) (fun c124 => ?_))
           ·refine AL.nil (AK.seqN (AC.condT rfl (AC.seq (AC.region (AL.go (AO.move rfl rfl ?_))))))
            refine AL.go (AO.assign rfl rfl (AL.go (AO.assign rfl rfl (AL.go (AO.assign rfl rfl (AL.nil (AK.seqN (AC.ret ?_))))))))
            refine AK.seqR (AK.blkR (AK.seqR (AK.seqR (AK.blkR (AK.seqR ?_)))))
            rw [if_neg c124] at hput
            first
            | exact AK.ret3 (L' := L) (F' := fL [] none 0 0 :: F) Tryz.results114 rfl rfl rfl (Sub.drop.trans (Sub.drop.trans (Sub.drop.trans (Sub.drop.trans (Sub.facts (mem1 memA (fun x hx => by repeat (first | exact hx | refine List.mem_cons_of_mem _ ?_)))))))) (h3 e2 (subR_error hnb (by omega) hput))
            | exact AK.ret3 (L' := L) (F' := fL [] none 0 0 :: F) Tryz.results114 rfl rfl rfl (Sub.drop.trans (Sub.drop.trans (Sub.drop.trans (Sub.facts (mem1 memA (fun x hx => by repeat (first | exact hx | refine List.mem_cons_of_mem _ ?_))))))) (h3 e2 (subR_error hnb (by omega) hput))
           ·refine AL.nil (AK.seqN (AC.condF rfl (AC.skip (AK.seqN (AC.region ?_)))))
            refine AL.go (AO.move rfl rfl (AL.go (AO.move rfl rfl (AL.go (AO.move rfl rfl (AL.go (AO.move rfl rfl (AL.go (AO.assign rfl rfl ?_)))))))))
            have hmi : m = m := rfl
            refine AL.go (AO.mapUpdate (kenc := vI) (venc := vI) (m := m) (q : Int) i2 rfl rfl rfl (by repeat (first | exact has0 | apply hasS)) ?_)
            simp only [List.set_cons_zero, List.set_cons_succ]
            refine AL.nil (AK.blkN (AK.seqN (AC.region (AL.go (AO.add rfl rfl rfl (by omega) (by omega) (AL.go (AO.move rfl rfl ?_)))))))
            refine AL.nil ?_
            rw [if_pos c124] at hput
            obtain ⟨hr2, hp2, hi2, hi3⟩ := add_pre hso.right hP c124
            first
            | exact AK.next (q + 1, (o2, ins ++ [i2], upd m (q : Int) i2), (a119, k119, c119)) ⟨by simp only; omega, hput, hso.step hr2 hp2 ⟨hi2, hi3⟩, hm.upd hso.len _⟩ (by simp only; omega) srA (Sub.drop.trans (Sub.drop.trans (Sub.facts (mem1 memA (fun x hx => by repeat (first | exact hx | refine List.mem_cons_of_mem _ ?_))))))
            | exact AK.next (q + 1, (o2, ins ++ [i2], upd m (q : Int) i2), (a119, k119, c119)) ⟨by simp only; omega, hput, hso.step hr2 hp2 ⟨hi2, hi3⟩, hm.upd hso.len _⟩ (by simp only; omega) srA (Sub.drop.trans (Sub.facts (mem1 memA (fun x hx => by repeat (first | exact hx | refine List.mem_cons_of_mem _ ?_)))))
         ·refine AL.nil (AK.seqN (AC.condF rfl (AC.skip (AK.seqN (AC.seq ?_)))))
          refine AC.region (AL.go (AO.move rfl rfl ?_))
          refine AL.go (AO.loadBA rfl rfl ?_)
          refine AL.go (AO.call rfl rfl (add2_c g out (right_ok hso.right) (mapK ins l[q]) htok (show fL out a13 k13 c13 ∈ _ from memA) (show fW (mapK ins l[q]) _ _ _ ∈ _ from memA) (show fK (mapK ins l[q]) _ _ _ ∈ _ from memA) (fun c => absurd hso.right c) (fun _ o2 i2 e2 a119 k119 c119 hP => ?_)))
          rw [put_plain (t := mapK ins l[q]) hso.right c106 hP] at hput
          refine AL.go (AO.move rfl rfl (AL.go (AO.extract rfl rfl rfl (AL.go (AO.extract rfl rfl rfl (AL.go (AO.extract rfl rfl rfl (AL.go (AO.assign rfl rfl (AL.go (AO.assign rfl rfl ?_)))))))))))
          refine AL.go (AO.assign rfl rfl (AL.nil (AK.seqN (AC.seq (AC.seq (AC.region ?_))))))
          refine AL.go (AO.move rfl rfl ?_)
          refine AL.go (AO.neq rfl rfl rfl (fun c124 => ?_) (fun c124 => ?_))
          ·refine AL.nil (AK.seqN (AC.condT rfl (AC.seq (AC.region (AL.go (AO.move rfl rfl ?_))))))
           refine AL.go (AO.assign rfl rfl (AL.go (AO.assign rfl rfl (AL.go (AO.assign rfl rfl (AL.nil (AK.seqN (AC.ret ?_))))))))
           refine AK.seqR (AK.blkR (AK.seqR (AK.seqR (AK.blkR (AK.seqR ?_)))))
           rw [if_neg c124] at hput
           first
           | exact AK.ret3 (L' := L) (F' := fL [] none 0 0 :: F) Tryz.results114 rfl rfl rfl (Sub.drop.trans (Sub.drop.trans (Sub.drop.trans (Sub.drop.trans (Sub.facts (mem1 memA (fun x hx => by repeat (first | exact hx | refine List.mem_cons_of_mem _ ?_)))))))) (h3 e2 (subR_error hnb (by omega) hput))
           | exact AK.ret3 (L' := L) (F' := fL [] none 0 0 :: F) Tryz.results114 rfl rfl rfl (Sub.drop.trans (Sub.drop.trans (Sub.drop.trans (Sub.facts (mem1 memA (fun x hx => by repeat (first | exact hx | refine List.mem_cons_of_mem _ ?_))))))) (h3 e2 (subR_error hnb (by omega) hput))
          ·refine AL.nil (AK.seqN (AC.condF rfl (AC.skip (AK.seqN (AC.region ?_)))))
           refine AL.go (AO.move rfl rfl (AL.go (AO.move rfl rfl (AL.go (AO.move rfl rfl (AL.go (AO.move rfl rfl (AL.go (AO.assign rfl rfl ?_)))))))))
           have hmi : m = m := rfl
           refine AL.go (AO.mapUpdate (kenc := vI) (venc := vI) (m := m) (q : Int) i2 rfl rfl rfl (by repeat (first | exact has0 | apply hasS)) ?_)
           simp only [List.set_cons_zero, List.set_cons_succ]
           refine AL.nil (AK.blkN (AK.seqN (AC.region (AL.go (AO.add rfl rfl rfl (by omega) (by omega) (AL.go (AO.move rfl rfl ?_)))))))
           refine AL.nil ?_
           rw [if_pos c124] at hput
           obtain ⟨hr2, hp2, hi2, hi3⟩ := add_pre hso.right hP c124
           first
           | exact AK.next (q + 1, (o2, ins ++ [i2], upd m (q : Int) i2), (a119, k119, c119)) ⟨by simp only; omega, hput, hso.step hr2 hp2 ⟨hi2, hi3⟩, hm.upd hso.len _⟩ (by simp only; omega) srA (Sub.drop.trans (Sub.drop.trans (Sub.facts (mem1 memA (fun x hx => by repeat (first | exact hx | refine List.mem_cons_of_mem _ ?_))))))
           | exact AK.next (q + 1, (o2, ins ++ [i2], upd m (q : Int) i2), (a119, k119, c119)) ⟨by simp only; omega, hput, hso.step hr2 hp2 ⟨hi2, hi3⟩, hm.upd hso.len _⟩ (by simp only; omega) srA (Sub.drop.trans (Sub.facts (mem1 memA (fun x hx => by repeat (first | exact hx | refine List.mem_cons_of_mem _ ?_)))))
    ·refine AL.nil (AK.seqN (AC.seq (AC.condF rfl (AC.exit (AK.seqX ?_)))))
     refine AK.seqX (AK.blkX (AK.seqN (AC.seq ?_)))
     refine AC.draw (fun _ => false) [] bxA rfl (fun hx hX => ?_)
     have hq9 : q = n + 1 := by omega
     subst hq9
     have hmn := hm n (by omega) (parts_self hr hn)
     refine AH.takeW (i := 0) rfl (Y.move rfl) (by kernel_rfl) rfl rfl ?_
     refine AH.takeW (i := 1) rfl (Y.move rfl) (by kernel_rfl) rfl rfl ?_
     refine AH.takeW (i := 2) rfl (Y.move rfl) (by kernel_rfl) rfl rfl ?_
     refine AH.takeW (i := 4) rfl (Y.assign rfl) (by kernel_rfl) rfl rfl ?_
     refine AH.one (i := 3) (by kernel_rfl) rfl rfl (fun _ => ?_)
     refine AO.lookup (kenc := vI) (venc := vI) (m := m) (i := 0) (n : Int) rfl rfl rfl rfl ?_
     rw [hmn]
     refine AT.held bxA memB ?_
     refine AH.takeW (i := 5) rfl (Y.assign rfl) (by kernel_rfl) rfl rfl ?_
     refine AH.takeW (i := 6) rfl (Y.assign rfl) (by kernel_rfl) rfl rfl ?_
     refine AH.done (by kernel_rfl) ?_
     refine AK.seqN (AC.ret ?_)
     exact AK.ret3 (L' := L) (F' := fL out a13 k13 c13 :: F) Tryz.results114 rfl rfl rfl (Sub.drop.trans (Sub.drop.trans (Sub.facts (mem1 memA (fun x hx => by repeat (first | exact hx | refine List.mem_cons_of_mem _ ?_)))))) (h4 _ _ _ _ _ (subR_ok hnb hs))
end
end Go.Sy
namespace Go.Sy
open Go Go.Proofs Go.RowKit
attribute [local irreducible] AC AT AO AK AH ACalls Sub Res.cells Res.nix Res.own Res.map Exit.then Exit.inBlock bodyPost Code.wp Code.wpIn WL Next Post Kont
section
variable {W0 : World} {L : List Res} {F : List Fact} {R : Value → List Res → List Fact → Prop}
set_option maxRecDepth 100000
set_option maxHeartbeats 4000000
end
end Go.Sy
namespace Go.Sy
open Go Go.Proofs Go.RowKit
attribute [local irreducible] AC AT AO AK AH ACalls Sub Res.cells Res.nix Res.own Res.map Exit.then Exit.inBlock bodyPost Code.wp Code.wpIn WL Next Post Kont
section
variable {W0 : World} {L : List Res} {F : List Fact} {R : Value → List Res → List Fact → Prop}
set_option maxRecDepth 100000
set_option maxHeartbeats 8000000
end
end Go.Sy
namespace Go.Sy
open Go Go.Proofs Go.RowKit
attribute [local irreducible] AC AT AO AK AH ACalls Sub Res.cells Res.nix Res.own Res.map Exit.then Exit.inBlock bodyPost Code.wp Code.wpIn WL Next Post Kont
section
variable {W0 : World} {L : List Res} {F : List Fact} {R : Value → List Res → List Fact → Prop}
set_option maxRecDepth 100000
set_option maxHeartbeats 16000000
end
end Go.Sy
namespace Go.Sy
open Go Go.Proofs Go.RowKit
attribute [local irreducible] AC AT AO AK AH ACalls Sub Res.cells Res.nix Res.own Res.map Exit.then Exit.inBlock bodyPost Code.wp Code.wpIn WL Next Post Kont
section
variable {W0 : World} {L : List Res} {F : List Fact} {R : Value → List Res → List Fact → Prop}
set_option maxRecDepth 100000
set_option maxHeartbeats 16000000
theorem rmethods_c (l m : List Mth) {a1 a2 : Option Addr} {k1 c1 k2 c2 : Nat} (m1 : fMs l a1 k1 c1 ∈ F) (m2 : fMs m a2 k2 c2 ∈ F) (hT : l = m → R (.bool true) L F) (hF : l ≠ m → R (.bool false) L F) :
    ACalls Tryz.prog W0 56 #[.slice a1 k1 c1, .slice a2 k2 c2] L F R := by
  refine ACalls.body Tryz.func56 rfl Tryz.ntmps56 rfl ?_
  refine AC.seq (AC.region (AL.go (AO.assign rfl rfl (AL.nil (AK.seqN (AC.seq ?_))))))
  refine AC.seq (AC.region (AL.go (AO.move rfl rfl ?_)))
  refine AL.go (AO.len rfl rfl (fun hl1 => ?_) (enc := eMt) (lst := l) (hm := m1))
  refine AL.go (AO.move rfl rfl ?_)
  refine AL.go (AO.len rfl rfl (fun hl2 => ?_) (enc := eMt) (lst := m) (hm := m2))
  refine AL.go (AO.neq rfl rfl rfl (fun c10 => ?_) (fun c10 => ?_))
  ·refine AL.nil (AK.seqN (AC.condT rfl (AC.seq (AC.region (AL.go (AO.assign rfl rfl ?_))))))
   refine AL.nil (AK.seqN (AC.ret (AK.seqR ?_)))
   first | refine AK.ret Tryz.results56 rfl subA (hT ?_) | refine AK.ret Tryz.results56 rfl subA (hF ?_)
   first
   | exact ne_at hkl hkm (fun e => c26 (by rw [e]))
   | exact ne_at hkl hkm (fun e => c51 (by rw [e]))
   | exact ne_at hkl hkm (fun e => by rw [e] at c38; simp at c38)
   | exact fun e => c10 (by rw [e])
   | exact all_of_take hok (by omega) (by omega)
  ·refine AL.nil (AK.seqN (AC.condF rfl (AC.skip (AK.seqN (AC.seq ?_)))))
   refine AC.seq (AC.region (AL.go (AO.move rfl rfl ?_)))
   refine AL.go (AO.len rfl rfl (fun hl3 => ?_) (enc := eMt) (lst := l) (hm := m1))
   refine AL.go (AO.move rfl rfl (AL.nil (AK.seqN (AC.block ?_))))
   refine AC.loop (fun k => k ≤ l.length ∧ l.take k = m.take k) (fun k => [(0, .slice a1 k1 c1), (1, .slice a2 k2 c2), (12, .int .i64 l.length), (13, .int .i64 (k : Int))]) (fun _ => L) (fun _ => F) (fun k => l.length - k) 0 ⟨by omega, by simp⟩ srA (Sub.refl _ _) ?_
   rintro k ⟨hk, hok⟩
   refine AC.seq (AC.region ?_)
   refine AL.go (AO.lss rfl rfl rfl (fun c14 => ?_) (fun c14 => ?_))
   ·refine AL.nil (AK.seqN (AC.seq (AC.condT rfl (AC.skip (AK.seqN ?_)))))
    refine AC.seq (AC.block (AC.seq (AC.region (AL.go (AO.move rfl rfl (AL.go (AO.assign rfl rfl ?_)))))))
    refine AL.nil (AK.seqN (AC.seq ?_))
    refine AC.draw (fun _ => false) [] bxA rfl (fun hx hX => ?_)
    have hkl : k < l.length := by omega
    have hkm : k < m.length := by omega
    have hkk1 := (len_of_fact (hX _ m1)).1
    have hkk3 := (len_of_fact (hX _ m2)).1
    obtain ⟨p1, o1, rfl, at1⟩ := row_of_fact (hX _ m1) hkl
    obtain ⟨p2, o2, rfl, at2⟩ := row_of_fact (hX _ m2) hkm
    have hv1 := mt_cells at1
    have hv2 := mt_cells at2
    have h10 := hv1 0 _ rfl
    have h11 := hv1 1 _ rfl
    have h12 := hv1 2 _ rfl
    have h20 := hv2 0 _ rfl
    have h21 := hv2 1 _ rfl
    have h22 := hv2 2 _ rfl
    refine AH.takeW (i := 0) rfl (Y.move rfl) (by kernel_rfl) rfl rfl ?_
    refine AH.takeW (i := 1) rfl (Y.move rfl) (by kernel_rfl) rfl rfl ?_
    refine AH.takeW (i := 2) rfl (Y.indexAddr rfl rfl rfl (by omega)) (by kernel_rfl) rfl rfl ?_
    refine AH.takeW (i := 3) rfl (Y.field rfl) (by kernel_rfl) rfl rfl ?_
    refine AH.takeS (i := 4) rfl (Y.loadF rfl (by assumption)) (by kernel_rfl) (by kernel_rfl) rfl rfl rfl ?_
    refine AH.takeW (i := 5) rfl (Y.move rfl) (by kernel_rfl) rfl rfl ?_
    refine AH.takeW (i := 6) rfl (Y.move rfl) (by kernel_rfl) rfl rfl ?_
    refine AH.takeW (i := 7) rfl (Y.indexAddr rfl rfl rfl (by omega)) (by kernel_rfl) rfl rfl ?_
    refine AH.takeW (i := 8) rfl (Y.field rfl) (by kernel_rfl) rfl rfl ?_
    refine AH.takeS (i := 9) rfl (Y.loadF rfl (by assumption)) (by kernel_rfl) (by kernel_rfl) rfl rfl rfl ?_
    refine AH.takeB (i := 10) rfl (Y.neqS rfl rfl) (by kernel_rfl) rfl rfl (fun c26 => ?_) (fun c26 => ?_)
    ·replace c26 := ne_of_nbeq c26
     refine AH.takeW (i := 11) rfl (Y.move rfl) (by kernel_rfl) rfl rfl ?_
     refine AH.skip (i := 12) rfl (by kernel_rfl) rfl rfl ?_
     refine AH.skip (i := 13) rfl (by kernel_rfl) rfl rfl ?_
     refine AH.skip (i := 14) rfl (by kernel_rfl) rfl rfl ?_
     refine AH.skip (i := 15) rfl (by kernel_rfl) rfl rfl ?_
     refine AH.skip (i := 16) rfl (by kernel_rfl) rfl rfl ?_
     refine AH.skip (i := 17) rfl (by kernel_rfl) rfl rfl ?_
     refine AH.skip (i := 18) rfl (by kernel_rfl) rfl rfl ?_
     refine AH.skip (i := 19) rfl (by kernel_rfl) rfl rfl ?_
     refine AH.skip (i := 20) rfl (by kernel_rfl) rfl rfl ?_
     refine AH.skip (i := 21) rfl (by kernel_rfl) rfl rfl ?_
     refine AH.skip (i := 22) rfl (by kernel_rfl) rfl rfl ?_
     refine AH.takeW (i := 23) rfl (Y.pickT rfl rfl) (by kernel_rfl) rfl rfl ?_
     refine AH.takeW (i := 24) rfl (Y.move rfl) (by kernel_rfl) rfl rfl ?_
     refine AH.skip (i := 25) rfl (by kernel_rfl) rfl rfl ?_
     refine AH.skip (i := 26) rfl (by kernel_rfl) rfl rfl ?_
     refine AH.skip (i := 27) rfl (by kernel_rfl) rfl rfl ?_
     refine AH.skip (i := 28) rfl (by kernel_rfl) rfl rfl ?_
     refine AH.skip (i := 29) rfl (by kernel_rfl) rfl rfl ?_
     refine AH.skip (i := 30) rfl (by kernel_rfl) rfl rfl ?_
     refine AH.skip (i := 31) rfl (by kernel_rfl) rfl rfl ?_
     refine AH.skip (i := 32) rfl (by kernel_rfl) rfl rfl ?_
     refine AH.skip (i := 33) rfl (by kernel_rfl) rfl rfl ?_
     refine AH.skip (i := 34) rfl (by kernel_rfl) rfl rfl ?_
     refine AH.skip (i := 35) rfl (by kernel_rfl) rfl rfl ?_
     refine AH.takeW (i := 36) rfl (Y.pickT rfl rfl) (by kernel_rfl) rfl rfl ?_
     refine AH.done (by kernel_rfl) ?_
     refine AK.seqN (AC.condT rfl (AC.seq (AC.region (AL.go (AO.assign rfl rfl (AL.nil ?_))))))
     refine AK.seqN (AC.ret (AK.blkR (AK.seqR (AK.seqR (AK.blkR ?_)))))
     refine AK.seqR ?_
     first | refine AK.ret Tryz.results56 rfl subA (hT ?_) | refine AK.ret Tryz.results56 rfl subA (hF ?_)
     first
     | exact ne_at hkl hkm (fun e => c26 (by rw [e]))
     | exact ne_at hkl hkm (fun e => c51 (by rw [e]))
     | exact ne_at hkl hkm (fun e => by rw [e] at c38; simp at c38)
     | exact fun e => c10 (by rw [e])
     | exact all_of_take hok (by omega) (by omega)
    ·replace c26 := eq_of_nbeqF c26
     refine AH.takeW (i := 11) rfl (Y.move rfl) (by kernel_rfl) rfl rfl ?_
     refine AH.takeW (i := 12) rfl (Y.move rfl) (by kernel_rfl) rfl rfl ?_
     refine AH.takeW (i := 13) rfl (Y.move rfl) (by kernel_rfl) rfl rfl ?_
     refine AH.takeW (i := 14) rfl (Y.indexAddr rfl rfl rfl (by omega)) (by kernel_rfl) rfl rfl ?_
     refine AH.takeW (i := 15) rfl (Y.field rfl) (by kernel_rfl) rfl rfl ?_
     refine AH.takeS (i := 16) rfl (Y.loadF rfl (by assumption)) (by kernel_rfl) (by kernel_rfl) rfl rfl rfl ?_
     refine AH.takeW (i := 17) rfl (Y.move rfl) (by kernel_rfl) rfl rfl ?_
     refine AH.takeW (i := 18) rfl (Y.move rfl) (by kernel_rfl) rfl rfl ?_
     refine AH.takeW (i := 19) rfl (Y.indexAddr rfl rfl rfl (by omega)) (by kernel_rfl) rfl rfl ?_
     refine AH.takeW (i := 20) rfl (Y.field rfl) (by kernel_rfl) rfl rfl ?_
     refine AH.takeS (i := 21) rfl (Y.loadF rfl (by assumption)) (by kernel_rfl) (by kernel_rfl) rfl rfl rfl ?_
     refine AH.takeB (i := 22) rfl (Y.neqB rfl rfl) (by kernel_rfl) rfl rfl (fun c38 => ?_) (fun c38 => ?_)
     ·refine AH.takeW (i := 23) rfl (Y.pickF rfl rfl) (by kernel_rfl) rfl rfl ?_
      refine AH.takeW (i := 24) rfl (Y.move rfl) (by kernel_rfl) rfl rfl ?_
      refine AH.skip (i := 25) rfl (by kernel_rfl) rfl rfl ?_
      refine AH.skip (i := 26) rfl (by kernel_rfl) rfl rfl ?_
      refine AH.skip (i := 27) rfl (by kernel_rfl) rfl rfl ?_
      refine AH.skip (i := 28) rfl (by kernel_rfl) rfl rfl ?_
      refine AH.skip (i := 29) rfl (by kernel_rfl) rfl rfl ?_
      refine AH.skip (i := 30) rfl (by kernel_rfl) rfl rfl ?_
      refine AH.skip (i := 31) rfl (by kernel_rfl) rfl rfl ?_
      refine AH.skip (i := 32) rfl (by kernel_rfl) rfl rfl ?_
      refine AH.skip (i := 33) rfl (by kernel_rfl) rfl rfl ?_
      refine AH.skip (i := 34) rfl (by kernel_rfl) rfl rfl ?_
      refine AH.skip (i := 35) rfl (by kernel_rfl) rfl rfl ?_
      refine AH.takeW (i := 36) rfl (Y.pickT rfl rfl) (by kernel_rfl) rfl rfl ?_
      refine AH.done (by kernel_rfl) ?_
      refine AK.seqN (AC.condT rfl (AC.seq (AC.region (AL.go (AO.assign rfl rfl (AL.nil ?_))))))
      refine AK.seqN (AC.ret (AK.blkR (AK.seqR (AK.seqR (AK.blkR ?_)))))
      refine AK.seqR ?_
      first | refine AK.ret Tryz.results56 rfl subA (hT ?_) | refine AK.ret Tryz.results56 rfl subA (hF ?_)
      first
      | exact ne_at hkl hkm (fun e => c26 (by rw [e]))
      | exact ne_at hkl hkm (fun e => c51 (by rw [e]))
      | exact ne_at hkl hkm (fun e => by rw [e] at c38; simp at c38)
      | exact fun e => c10 (by rw [e])
      | exact all_of_take hok (by omega) (by omega)
     ·refine AH.takeW (i := 23) rfl (Y.pickF rfl rfl) (by kernel_rfl) rfl rfl ?_
      refine AH.takeW (i := 24) rfl (Y.move rfl) (by kernel_rfl) rfl rfl ?_
      refine AH.takeW (i := 25) rfl (Y.move rfl) (by kernel_rfl) rfl rfl ?_
      refine AH.takeW (i := 26) rfl (Y.move rfl) (by kernel_rfl) rfl rfl ?_
      refine AH.takeW (i := 27) rfl (Y.indexAddr rfl rfl rfl (by omega)) (by kernel_rfl) rfl rfl ?_
      refine AH.takeW (i := 28) rfl (Y.field rfl) (by kernel_rfl) rfl rfl ?_
      refine AH.takeS (i := 29) rfl (Y.loadF rfl (by assumption)) (by kernel_rfl) (by kernel_rfl) rfl rfl rfl ?_
      refine AH.takeW (i := 30) rfl (Y.move rfl) (by kernel_rfl) rfl rfl ?_
      refine AH.takeW (i := 31) rfl (Y.move rfl) (by kernel_rfl) rfl rfl ?_
      refine AH.takeW (i := 32) rfl (Y.indexAddr rfl rfl rfl (by omega)) (by kernel_rfl) rfl rfl ?_
      refine AH.takeW (i := 33) rfl (Y.field rfl) (by kernel_rfl) rfl rfl ?_
      refine AH.takeS (i := 34) rfl (Y.loadF rfl (by assumption)) (by kernel_rfl) (by kernel_rfl) rfl rfl rfl ?_
      refine AH.takeB (i := 35) rfl (Y.neq rfl rfl) (by kernel_rfl) rfl rfl (fun c51 => ?_) (fun c51 => ?_)
      ·replace c51 := ne_of_bne c51
       refine AH.takeW (i := 36) rfl (Y.pickF rfl rfl) (by kernel_rfl) rfl rfl ?_
       refine AH.done (by kernel_rfl) ?_
       refine AK.seqN (AC.condT rfl (AC.seq (AC.region (AL.go (AO.assign rfl rfl (AL.nil ?_))))))
       refine AK.seqN (AC.ret (AK.blkR (AK.seqR (AK.seqR (AK.blkR ?_)))))
       refine AK.seqR ?_
       first | refine AK.ret Tryz.results56 rfl subA (hT ?_) | refine AK.ret Tryz.results56 rfl subA (hF ?_)
       first
       | exact ne_at hkl hkm (fun e => c26 (by rw [e]))
       | exact ne_at hkl hkm (fun e => c51 (by rw [e]))
       | exact ne_at hkl hkm (fun e => by rw [e] at c38; simp at c38)
       | exact fun e => c10 (by rw [e])
       | exact all_of_take hok (by omega) (by omega)
      ·replace c51 := eq_of_bneF c51
       refine AH.takeW (i := 36) rfl (Y.pickF rfl rfl) (by kernel_rfl) rfl rfl ?_
       refine AH.done (by kernel_rfl) ?_
       refine AK.seqN (AC.condF rfl (AC.skip (AK.blkN (AK.seqN (AC.region ?_)))))
       refine AL.go (AO.add rfl rfl rfl (by omega) (by omega) (AL.go (AO.move rfl rfl (AL.nil ?_))))
       refine AK.next (k + 1) ⟨by omega, take_step hok hkl hkm (mt_ext c26 (by simpa using c38) c51)⟩ (by omega) srA subF
   ·refine AL.nil (AK.seqN (AC.seq (AC.condF rfl (AC.exit (AK.seqX ?_)))))
    refine AK.seqX (AK.blkX (AK.seqN (AC.seq (AC.region (AL.go (AO.assign rfl rfl ?_))))))
    refine AL.nil (AK.seqN (AC.ret ?_))
    first | refine AK.ret Tryz.results56 rfl subA (hT ?_) | refine AK.ret Tryz.results56 rfl subA (hF ?_)
    first
    | exact ne_at hkl hkm (fun e => c26 (by rw [e]))
    | exact ne_at hkl hkm (fun e => c51 (by rw [e]))
    | exact ne_at hkl hkm (fun e => by rw [e] at c38; simp at c38)
    | exact fun e => c10 (by rw [e])
    | exact all_of_take hok (by omega) (by omega)
theorem rulike_c (T U : List Ty) (N M : List Nmd) {a a2 a3 a4 : Option Addr} {k c k2 c2 k3 c3 k4 c4 : Nat} (m1 : fL T a k c ∈ F) (m2 : fN N a2 k2 c2 ∈ F) (m3 : fL U a3 k3 c3 ∈ F) (m4 : fN M a4 k4 c4 ∈ F) (hT : T = U → N = M → R (.bool true) L F) (hF : ¬(T = U ∧ N = M) → R (.bool false) L F) :
    ACalls Tryz.prog W0 16 #[.agg #[.slice a k c, .slice a2 k2 c2], .agg #[.slice a3 k3 c3, .slice a4 k4 c4]] L F R := by
  refine ACalls.body Tryz.func16 rfl Tryz.ntmps16 rfl ?_
  refine AC.seq (AC.region (AL.go (AO.box rfl rfl (fun b2 => ?_))))
  refine AL.go (AO.box rfl rfl (fun b3 => ?_))
  refine AL.go (AO.assign rfl rfl (AL.nil (AK.seqN (AC.seq (AC.seq (AC.region ?_))))))
  refine AL.go (AO.field rfl rfl ?_)
  refine AL.go (AO.loadB rfl rfl ?_)
  refine AL.go (AO.field rfl rfl ?_)
  refine AL.go (AO.loadB rfl rfl ?_)
  refine AL.go (AO.call rfl rfl (ref_Arenas_c T U (fun c13 => ?_) (fun c13 => ?_) m1 m3))
  ·refine AL.go (AO.not rfl rfl (AL.go (AO.move rfl rfl (AL.yes rfl rfl (AO.field rfl rfl ?_)))))
   refine AL.yes rfl rfl (AO.loadB rfl rfl ?_)
   refine AL.yes rfl rfl (AO.len rfl rfl (fun hl18 => ?_) (enc := eNm) (lst := N) (hm := m2))
   refine AL.yes rfl rfl (AO.field rfl rfl ?_)
   refine AL.yes rfl rfl (AO.loadB rfl rfl ?_)
   refine AL.yes rfl rfl (AO.len rfl rfl (fun hl21 => ?_) (enc := eNm) (lst := M) (hm := m4))
   refine AL.yes rfl rfl (AO.neq rfl rfl rfl (fun c22 => ?_) (fun c22 => ?_))
   ·refine AL.go (AO.pickF rfl rfl rfl (AL.nil (AK.seqN (AC.condT rfl (AC.seq (AC.region ?_))))))
    refine AL.go (AO.assign rfl rfl (AL.nil (AK.seqN (AC.ret (AK.seqR ?_)))))
    first | refine AK.ret (L' := L) (F' := F) Tryz.results16 rfl subA (hT ?_ ?_) | refine AK.ret (L' := L) (F' := F) Tryz.results16 rfl subA (hF ?_)
    first
    | (exact c13; exact all_of_take hok (by omega) (by omega))
    | exact fun e => c13 e.1
    | exact fun e => c22 (by rw [e.2])
    | exact fun e => ne_at hqn hqm (fun x => c44 (by rw [x])) e.2
    | exact fun e => ne_at hqn hqm (fun x => c50 (by rw [x])) e.2
    | exact fun e => ne_at hqn hqm (fun x => c59 (by rw [x])) e.2
    | exact fun e => ne_at hqn hqm (fun x => c66 (by rw [x])) e.2
    | exact fun e => ne_at hqn hqm (fun x => ne_at hkl hkm c85 (by rw [x])) e.2
   ·refine AL.go (AO.pickF rfl rfl rfl (AL.nil (AK.seqN (AC.condF rfl (AC.skip (AK.seqN ?_))))))
    refine AC.seq (AC.seq (AC.region (AL.go (AO.field rfl rfl ?_))))
    refine AL.go (AO.loadB rfl rfl ?_)
    refine AL.go (AO.len rfl rfl (fun hl26 => ?_) (enc := eNm) (lst := N) (hm := m2))
    refine AL.go (AO.move rfl rfl (AL.nil (AK.seqN (AC.block ?_))))
    refine AC.loop (fun q => q ≤ N.length ∧ N.take q = M.take q) (fun q => [(2, .pointer (some ⟨b2, 0, none⟩)), (3, .pointer (some ⟨b3, 0, none⟩)), (26, .int .i64 N.length), (27, .int .i64 (q : Int))]) (fun _ => _) (fun _ => F) (fun q => N.length - q) 0 ⟨Nat.zero_le _, by simp⟩ srA (Sub.refl _ _) ?_
    rintro q ⟨hq, hok⟩
    refine AC.seq (AC.region ?_)
    refine AL.go (AO.lss rfl rfl rfl (fun c28 => ?_) (fun c28 => ?_))
    ·refine AL.nil (AK.seqN (AC.seq (AC.condT rfl (AC.skip (AK.seqN ?_)))))
     refine AC.seq (AC.block (AC.seq (AC.region (AL.go (AO.move rfl rfl (AL.go (AO.assign rfl rfl ?_)))))))
     refine AL.nil (AK.seqN (AC.seq (AC.region (AL.go (AO.field rfl rfl ?_)))))
     refine AL.go (AO.loadB rfl rfl ?_)
     refine AL.go (AO.move rfl rfl ?_)
     have hqn : q < N.length := by omega
     have hqm : q < M.length := by omega
     refine AL.go (AO.indexAddr rfl rfl rfl rfl (enc := eNm) (lst := N) memA hqn (fun _ _ => ?_))
     refine AL.go (AO.loadFA rfl rfl ?_)
     intro a34 k34 z34 d34 e34 f34
     refine AL.go (AO.alloc rfl (fun b6 => ?_))
     refine AL.go (AO.storeBA rfl rfl rfl rfl ?_)
     refine AL.nil (AK.seqN (AC.seq (AC.region (AL.go (AO.field rfl rfl ?_)))))
     refine AL.go (AO.loadB rfl rfl ?_)
     refine AL.go (AO.move rfl rfl ?_)
     refine AL.go (AO.indexAddr rfl rfl rfl rfl (enc := eNm) (lst := M) memA hqm (fun _ _ => ?_))
     refine AL.go (AO.loadFA rfl rfl ?_)
     intro a39 k39 z39 d39 e39 f39
     refine AL.go (AO.alloc rfl (fun b7 => ?_))
     refine AL.go (AO.storeBA rfl rfl rfl rfl ?_)
     refine AL.nil (AK.seqN (AC.seq (AC.seq (AC.region (AL.go (AO.field rfl rfl ?_))))))
     refine AL.go (AO.loadB rfl rfl ?_)
     refine AL.go (AO.field rfl rfl ?_)
     refine AL.go (AO.loadB rfl rfl ?_)
     refine AL.go (AO.neqS rfl rfl rfl (fun c44 => ?_) (fun c44 => ?_))
     ·refine AL.go (AO.move rfl rfl (AL.no rfl rfl rfl rfl (AL.no rfl rfl rfl rfl (AL.no rfl rfl rfl rfl (AL.no rfl rfl rfl rfl (AL.no rfl rfl rfl rfl ?_))))))
      refine AL.go (AO.pickT rfl rfl rfl (AL.go (AO.move rfl rfl (AL.no rfl rfl rfl rfl (AL.no rfl rfl rfl rfl (AL.no rfl rfl rfl rfl (AL.no rfl rfl rfl rfl ?_)))))))
      refine AL.no rfl rfl rfl rfl (AL.no rfl rfl rfl rfl (AL.no rfl rfl rfl rfl (AL.go (AO.pickT rfl rfl rfl (AL.go (AO.move rfl rfl (AL.no rfl rfl rfl rfl ?_)))))))
      refine AL.no rfl rfl rfl rfl (AL.no rfl rfl rfl rfl (AL.no rfl rfl rfl rfl (AL.no rfl rfl rfl rfl (AL.no rfl rfl rfl rfl (AL.go (AO.pickT rfl rfl rfl ?_))))))
      refine AL.nil (AK.seqN (AC.condT rfl (AC.seq (AC.region (AL.go (AO.assign rfl rfl ?_))))))
      refine AL.nil (AK.seqN (AC.ret (AK.seqR (AK.blkR (AK.seqR ?_)))))
      refine AK.seqR (AK.blkR (AK.seqR ?_))
      first | refine AK.ret (L' := L) (F' := F) Tryz.results16 rfl subA (hT ?_ ?_) | refine AK.ret (L' := L) (F' := F) Tryz.results16 rfl subA (hF ?_)
      first
      | (exact c13; exact all_of_take hok (by omega) (by omega))
      | exact fun e => c13 e.1
      | exact fun e => c22 (by rw [e.2])
      | exact fun e => ne_at hqn hqm (fun x => c44 (by rw [x])) e.2
      | exact fun e => ne_at hqn hqm (fun x => c50 (by rw [x])) e.2
      | exact fun e => ne_at hqn hqm (fun x => c59 (by rw [x])) e.2
      | exact fun e => ne_at hqn hqm (fun x => c66 (by rw [x])) e.2
      | exact fun e => ne_at hqn hqm (fun x => ne_at hkl hkm c85 (by rw [x])) e.2
     ·refine AL.go (AO.move rfl rfl (AL.yes rfl rfl (AO.field rfl rfl ?_)))
      refine AL.yes rfl rfl (AO.loadB rfl rfl ?_)
      refine AL.yes rfl rfl (AO.field rfl rfl ?_)
      refine AL.yes rfl rfl (AO.loadB rfl rfl ?_)
      refine AL.yes rfl rfl (AO.neq rfl rfl rfl (fun c50 => ?_) (fun c50 => ?_))
      ·refine AL.go (AO.pickF rfl rfl rfl (AL.go (AO.move rfl rfl (AL.no rfl rfl rfl rfl (AL.no rfl rfl rfl rfl (AL.no rfl rfl rfl rfl (AL.no rfl rfl rfl rfl ?_)))))))
       refine AL.no rfl rfl rfl rfl (AL.no rfl rfl rfl rfl (AL.no rfl rfl rfl rfl (AL.go (AO.pickT rfl rfl rfl (AL.go (AO.move rfl rfl (AL.no rfl rfl rfl rfl ?_)))))))
       refine AL.no rfl rfl rfl rfl (AL.no rfl rfl rfl rfl (AL.no rfl rfl rfl rfl (AL.no rfl rfl rfl rfl (AL.no rfl rfl rfl rfl (AL.go (AO.pickT rfl rfl rfl ?_))))))
       refine AL.nil (AK.seqN (AC.condT rfl (AC.seq (AC.region (AL.go (AO.assign rfl rfl ?_))))))
       refine AL.nil (AK.seqN (AC.ret (AK.seqR (AK.blkR (AK.seqR ?_)))))
       refine AK.seqR (AK.blkR (AK.seqR ?_))
       first | refine AK.ret (L' := L) (F' := F) Tryz.results16 rfl subA (hT ?_ ?_) | refine AK.ret (L' := L) (F' := F) Tryz.results16 rfl subA (hF ?_)
       first
       | (exact c13; exact all_of_take hok (by omega) (by omega))
       | exact fun e => c13 e.1
       | exact fun e => c22 (by rw [e.2])
       | exact fun e => ne_at hqn hqm (fun x => c44 (by rw [x])) e.2
       | exact fun e => ne_at hqn hqm (fun x => c50 (by rw [x])) e.2
       | exact fun e => ne_at hqn hqm (fun x => c59 (by rw [x])) e.2
       | exact fun e => ne_at hqn hqm (fun x => c66 (by rw [x])) e.2
       | exact fun e => ne_at hqn hqm (fun x => ne_at hkl hkm c85 (by rw [x])) e.2
      ·refine AL.go (AO.pickF rfl rfl rfl (AL.go (AO.move rfl rfl (AL.yes rfl rfl (AO.field rfl rfl ?_)))))
       refine AL.yes rfl rfl (AO.loadB rfl rfl ?_)
       refine AL.yes rfl rfl (AO.len rfl rfl (fun hl55 => ?_) (enc := eI) (lst := N[q].bounds) (hm := memA))
       refine AL.yes rfl rfl (AO.field rfl rfl ?_)
       refine AL.yes rfl rfl (AO.loadB rfl rfl ?_)
       refine AL.yes rfl rfl (AO.len rfl rfl (fun hl58 => ?_) (enc := eI) (lst := M[q].bounds) (hm := memA))
       refine AL.yes rfl rfl (AO.neq rfl rfl rfl (fun c59 => ?_) (fun c59 => ?_))
       ·refine AL.go (AO.pickF rfl rfl rfl (AL.go (AO.move rfl rfl (AL.no rfl rfl rfl rfl (AL.no rfl rfl rfl rfl (AL.no rfl rfl rfl rfl (AL.no rfl rfl rfl rfl ?_)))))))
        refine AL.no rfl rfl rfl rfl (AL.no rfl rfl rfl rfl (AL.go (AO.pickT rfl rfl rfl (AL.nil (AK.seqN (AC.condT rfl ?_))))))
        refine AC.seq (AC.region (AL.go (AO.assign rfl rfl (AL.nil (AK.seqN (AC.ret ?_))))))
        refine AK.seqR (AK.blkR (AK.seqR (AK.seqR (AK.blkR (AK.seqR ?_)))))
        first | refine AK.ret (L' := L) (F' := F) Tryz.results16 rfl subA (hT ?_ ?_) | refine AK.ret (L' := L) (F' := F) Tryz.results16 rfl subA (hF ?_)
        first
        | (exact c13; exact all_of_take hok (by omega) (by omega))
        | exact fun e => c13 e.1
        | exact fun e => c22 (by rw [e.2])
        | exact fun e => ne_at hqn hqm (fun x => c44 (by rw [x])) e.2
        | exact fun e => ne_at hqn hqm (fun x => c50 (by rw [x])) e.2
        | exact fun e => ne_at hqn hqm (fun x => c59 (by rw [x])) e.2
        | exact fun e => ne_at hqn hqm (fun x => c66 (by rw [x])) e.2
        | exact fun e => ne_at hqn hqm (fun x => ne_at hkl hkm c85 (by rw [x])) e.2
       ·refine AL.go (AO.pickF rfl rfl rfl (AL.go (AO.move rfl rfl (AL.yes rfl rfl (AO.field rfl rfl ?_)))))
        refine AL.yes rfl rfl (AO.loadB rfl rfl ?_)
        refine AL.yes rfl rfl (AO.field rfl rfl ?_)
        refine AL.yes rfl rfl (AO.loadB rfl rfl ?_)
        refine AL.yes rfl rfl (AO.call rfl rfl (rmethods_c N[q].methods M[q].methods memA memA (fun c66 => ?_) (fun c66 => ?_)))
        ·refine AL.yes rfl rfl (AO.not rfl rfl (AL.go (AO.pickF rfl rfl rfl (AL.nil (AK.seqN (AC.condF rfl (AC.skip ?_)))))))
         refine AK.seqN (AC.seq (AC.region (AL.go (AO.field rfl rfl ?_))))
         refine AL.go (AO.loadB rfl rfl ?_)
         refine AL.go (AO.len rfl rfl (fun hl71 => ?_) (enc := eI) (lst := N[q].bounds) (hm := memA))
         refine AL.go (AO.move rfl rfl (AL.nil (AK.seqN (AC.block ?_))))
         refine AC.loop (fun v => v ≤ N[q].bounds.length ∧ N[q].bounds.take v = M[q].bounds.take v) (fun v => [(2, .pointer (some ⟨b2, 0, none⟩)), (3, .pointer (some ⟨b3, 0, none⟩)), (6, .pointer (some ⟨b6, 0, none⟩)), (7, .pointer (some ⟨b7, 0, none⟩)), (26, .int .i64 N.length), (27, .int .i64 (q : Int)), (71, .int .i64 N[q].bounds.length), (72, .int .i64 (v : Int))]) (fun _ => _) (fun _ => _) (fun v => N[q].bounds.length - v) 0 ⟨Nat.zero_le _, by simp⟩ srA (Sub.refl _ _) ?_
         rintro v ⟨hv, hov⟩
         refine AC.seq (AC.region ?_)
         refine AL.go (AO.lss rfl rfl rfl (fun c73 => ?_) (fun c73 => ?_))
         ·refine AL.nil (AK.seqN (AC.seq (AC.condT rfl (AC.skip (AK.seqN ?_)))))
          refine AC.seq (AC.block (AC.seq (AC.region (AL.go (AO.move rfl rfl (AL.go (AO.assign rfl rfl ?_)))))))
          refine AL.nil (AK.seqN (AC.seq ?_))
          refine AC.draw (fun _ => false) [(b6, _, _), (b7, _, _)] bxA rfl (fun hx hX => ?_)
          have hkl : v < N[q].bounds.length := by omega
          have hkm : v < M[q].bounds.length := by omega
          have hkk1 := (len_of_fact (hX (fBd N[q] a34 k34 z34) memA)).1
          have hkk3 := (len_of_fact (hX (fBd M[q] a39 k39 z39) memA)).1
          obtain ⟨p1, o1, rfl, at1⟩ := row_of_fact (hX (fBd N[q] a34 k34 z34) memA) hkl
          obtain ⟨p2, o2, rfl, at2⟩ := row_of_fact (hX (fBd M[q] a39 k39 z39) memA) hkm
          obtain ⟨v1, hv1, hc1⟩ := at1 0 _ rfl
          obtain ⟨v2, hv2, hc2⟩ := at2 0 _ rfl
          cases hc1
          cases hc2
          refine AH.takeW (i := 0) rfl (Y.field rfl) (by kernel_rfl) rfl rfl ?_
          refine AH.takeS (i := 1) rfl (Y.loadB rfl lmA (by rfl)) (by kernel_rfl) (by kernel_rfl) rfl rfl rfl ?_
          refine AH.takeW (i := 2) rfl (Y.move rfl) (by kernel_rfl) rfl rfl ?_
          refine AH.takeW (i := 3) rfl (Y.indexAddr rfl rfl rfl (by omega)) (by kernel_rfl) rfl rfl ?_
          refine AH.takeS (i := 4) rfl (Y.loadF rfl (by assumption)) (by kernel_rfl) (by kernel_rfl) rfl rfl rfl ?_
          refine AH.takeW (i := 5) rfl (Y.field rfl) (by kernel_rfl) rfl rfl ?_
          refine AH.takeS (i := 6) rfl (Y.loadB rfl lmA (by rfl)) (by kernel_rfl) (by kernel_rfl) rfl rfl rfl ?_
          refine AH.takeW (i := 7) rfl (Y.move rfl) (by kernel_rfl) rfl rfl ?_
          refine AH.takeW (i := 8) rfl (Y.indexAddr rfl rfl rfl (by omega)) (by kernel_rfl) rfl rfl ?_
          refine AH.takeS (i := 9) rfl (Y.loadF rfl (by assumption)) (by kernel_rfl) (by kernel_rfl) rfl rfl rfl ?_
          refine AH.takeB (i := 10) rfl (Y.neq rfl rfl) (by kernel_rfl) rfl rfl (fun c85 => ?_) (fun c85 => ?_)
          ·replace c85 := ne_of_bne c85
           refine AH.done (by kernel_rfl) ?_
           refine AK.seqN (AC.condT rfl (AC.seq (AC.region (AL.go (AO.assign rfl rfl (AL.nil ?_))))))
           refine AK.seqN (AC.ret (AK.blkR (AK.seqR (AK.seqR (AK.blkR ?_)))))
           refine AK.blkR (AK.seqR (AK.seqR (AK.blkR (AK.seqR ?_))))
           first | refine AK.ret (L' := L) (F' := F) Tryz.results16 rfl subA (hT ?_ ?_) | refine AK.ret (L' := L) (F' := F) Tryz.results16 rfl subA (hF ?_)
           first
           | (exact c13; exact all_of_take hok (by omega) (by omega))
           | exact fun e => c13 e.1
           | exact fun e => c22 (by rw [e.2])
           | exact fun e => ne_at hqn hqm (fun x => c44 (by rw [x])) e.2
           | exact fun e => ne_at hqn hqm (fun x => c50 (by rw [x])) e.2
           | exact fun e => ne_at hqn hqm (fun x => c59 (by rw [x])) e.2
           | exact fun e => ne_at hqn hqm (fun x => c66 (by rw [x])) e.2
           | exact fun e => ne_at hqn hqm (fun x => ne_at hkl hkm c85 (by rw [x])) e.2
          ·replace c85 := eq_of_bneF c85
           refine AH.done (by kernel_rfl) ?_
           refine AK.seqN (AC.condF rfl (AC.skip (AK.blkN (AK.seqN (AC.region ?_)))))
           refine AL.go (AO.add rfl rfl rfl (by omega) (by omega) (AL.go (AO.move rfl rfl (AL.nil ?_))))
           refine AK.next (v + 1) ⟨by omega, take_step hov hkl hkm c85⟩ (by omega) srA subF
         ·refine AL.nil (AK.seqN (AC.seq (AC.condF rfl (AC.exit (AK.seqX ?_)))))
          refine AK.seqX (AK.blkX (AK.blkN (AK.seqN (AC.region (AL.go (AO.add rfl rfl rfl (by omega) (by omega) ?_))))))
          refine AL.go (AO.move rfl rfl (AL.nil ?_))
          refine AK.next (q + 1) ⟨by omega, take_step hok hqn hqm (nm_ext c44 (all_of_take hov (by omega) (by omega)) c50 c66)⟩ (by omega) srA (Sub.drop.trans (Sub.drop.trans subF))
        ·refine AL.yes rfl rfl (AO.not rfl rfl (AL.go (AO.pickF rfl rfl rfl (AL.nil (AK.seqN (AC.condT rfl (AC.seq ?_)))))))
         refine AC.region (AL.go (AO.assign rfl rfl (AL.nil (AK.seqN (AC.ret (AK.seqR ?_))))))
         refine AK.blkR (AK.seqR (AK.seqR (AK.blkR (AK.seqR ?_))))
         first | refine AK.ret (L' := L) (F' := F) Tryz.results16 rfl subA (hT ?_ ?_) | refine AK.ret (L' := L) (F' := F) Tryz.results16 rfl subA (hF ?_)
         first
         | (exact c13; exact all_of_take hok (by omega) (by omega))
         | exact fun e => c13 e.1
         | exact fun e => c22 (by rw [e.2])
         | exact fun e => ne_at hqn hqm (fun x => c44 (by rw [x])) e.2
         | exact fun e => ne_at hqn hqm (fun x => c50 (by rw [x])) e.2
         | exact fun e => ne_at hqn hqm (fun x => c59 (by rw [x])) e.2
         | exact fun e => ne_at hqn hqm (fun x => c66 (by rw [x])) e.2
         | exact fun e => ne_at hqn hqm (fun x => ne_at hkl hkm c85 (by rw [x])) e.2
    ·refine AL.nil (AK.seqN (AC.seq (AC.condF rfl (AC.exit (AK.seqX ?_)))))
     refine AK.seqX (AK.blkX (AK.seqN (AC.seq (AC.region (AL.go (AO.assign rfl rfl ?_))))))
     refine AL.nil (AK.seqN (AC.ret ?_))
     first | refine AK.ret (L' := L) (F' := F) Tryz.results16 rfl subA (hT ?_ ?_) | refine AK.ret (L' := L) (F' := F) Tryz.results16 rfl subA (hF ?_)
     first
     | (exact c13; exact all_of_take hok (by omega) (by omega))
     | exact fun e => c13 e.1
     | exact fun e => c22 (by rw [e.2])
     | exact fun e => ne_at hqn hqm (fun x => c44 (by rw [x])) e.2
     | exact fun e => ne_at hqn hqm (fun x => c50 (by rw [x])) e.2
     | exact fun e => ne_at hqn hqm (fun x => c59 (by rw [x])) e.2
     | exact fun e => ne_at hqn hqm (fun x => c66 (by rw [x])) e.2
     | exact fun e => ne_at hqn hqm (fun x => ne_at hkl hkm c85 (by rw [x])) e.2
  ·refine AL.go (AO.not rfl rfl (AL.go (AO.move rfl rfl (AL.no rfl rfl rfl rfl (AL.no rfl rfl rfl rfl (AL.no rfl rfl rfl rfl (AL.no rfl rfl rfl rfl ?_)))))))
   refine AL.no rfl rfl rfl rfl (AL.no rfl rfl rfl rfl (AL.no rfl rfl rfl rfl (AL.go (AO.pickT rfl rfl rfl (AL.nil (AK.seqN ?_))))))
   refine AC.condT rfl (AC.seq (AC.region (AL.go (AO.assign rfl rfl (AL.nil (AK.seqN ?_))))))
   refine AC.ret (AK.seqR ?_)
   first | refine AK.ret (L' := L) (F' := F) Tryz.results16 rfl subA (hT ?_ ?_) | refine AK.ret (L' := L) (F' := F) Tryz.results16 rfl subA (hF ?_)
   first
   | (exact c13; exact all_of_take hok (by omega) (by omega))
   | exact fun e => c13 e.1
   | exact fun e => c22 (by rw [e.2])
   | exact fun e => ne_at hqn hqm (fun x => c44 (by rw [x])) e.2
   | exact fun e => ne_at hqn hqm (fun x => c50 (by rw [x])) e.2
   | exact fun e => ne_at hqn hqm (fun x => c59 (by rw [x])) e.2
   | exact fun e => ne_at hqn hqm (fun x => c66 (by rw [x])) e.2
   | exact fun e => ne_at hqn hqm (fun x => ne_at hkl hkm c85 (by rw [x])) e.2
end
end Go.Sy
namespace Go.Sy
open Go Go.Proofs Go.RowKit
def oneS (t : Ty) : Ty := ⟨t.kind, t.name.take (min t.name.length 50), t.n, t.words.take (min t.words.length 18), t.kids.take (min t.kids.length 18)⟩
def fewS (l : List Ty) (most : Nat) : List Ty := (l.take (min l.length most)).map oneS
structure TyUp (t : Ty) : Prop where
  inn : TyIn t
  word : ∀ w ∈ t.words, w.length ≤ 1048576
theorem oneS_ok {t : Ty} (h : TyUp t) : TyOk (oneS t) := by
  refine ⟨h.inn.kind, h.inn.n, by simp [oneS]; omega, by simp [oneS]; omega, ?_, by simp [oneS]; omega, fun k hk => h.inn.kid k (List.mem_of_mem_take hk)⟩
  intro w hw
  exact h.word w (List.mem_of_mem_take hw)
theorem fewS_ok {l : List Ty} {m : Nat} (h : ∀ t ∈ l, TyUp t) : ∀ t ∈ fewS l m, TyOk t := by
  intro t ht
  unfold fewS at ht
  obtain ⟨x, hx, rfl⟩ := List.mem_map.1 ht
  exact oneS_ok (h x (List.mem_of_mem_take hx))
theorem fewS_step {l : List Ty} {q : Nat} (hq : q < l.length) : (l.take q).map oneS ++ [oneS l[q]] = (l.take (q + 1)).map oneS := by
  rw [List.take_succ_eq_append_getElem hq, List.map_append]; rfl
def paramT : Ty := ⟨9, [], 0, [], []⟩
def pslT : Ty := ⟨2, [], 0, [], [22]⟩
def aliveL : List Ty := startL ++ [paramT, pslT]
theorem param_right : rightP (startL ++ [paramT]) := right_snoc start_right (by decide) ⟨fun k hk => by simp [paramT] at hk, by decide, fun _ => rfl, fun _ _ => rfl, (madeK_9 rfl).2 ⟨by decide, by decide, rfl⟩⟩ (by rw [start_len]; decide)
theorem alive_right : rightP aliveL := by
  have h : aliveL = (startL ++ [paramT]) ++ [pslT] := by unfold aliveL; simp
  rw [h]
  refine right_snoc param_right (by decide) ⟨fun k hk => ?_, by decide, fun _ => rfl, fun _ _ => rfl, Or.inr (Or.inl ⟨rfl, rfl, rfl⟩)⟩ (by decide)
  have : k = 22 := by simpa [pslT] using hk
  rw [this]; decide
theorem ok_inj {a b : List Ty} {i j : Int} {x : Except Int (List Ty × Int)} (h1 : x = .ok (a, i)) (h2 : x = .ok (b, j)) : a = b ∧ i = j := by
  rw [h1] at h2; injection h2 with h; injection h with h h'; exact ⟨h, h'⟩
theorem err_ok {i j : Int} {b : List Ty} {x : Except Int (List Ty × Int)} (h1 : x = .error i) (h2 : x = .ok (b, j)) : False := by
  rw [h1] at h2; cases h2
attribute [local irreducible] AC AT AO AK AH ACalls Sub Res.cells Res.nix Res.own Res.map Exit.then Exit.inBlock bodyPost Code.wp Code.wpIn WL Next Post Kont
section
variable {W0 : World} {L : List Res} {F : List Fact} {R : Value → List Res → List Fact → Prop}
set_option maxRecDepth 100000
set_option maxHeartbeats 16000000
theorem rstartO_c (h : ∀ a k c, R (.slice a k c) (Res.own (.slice a k c) 29 5 (startL.map eTy) :: L) F) : ACalls Tryz.prog W0 50 #[] L F R := by
  refine ACalls.body Tryz.func50 rfl Tryz.ntmps50 rfl ?_
  refine AC.seq (AC.region (AL.go (AO.assign rfl rfl (AL.nil (AK.seqN (AC.seq ?_))))))
  refine AC.region ?_
  refine AL.go (AO.buildSlice0 rfl (fun b4 => ?_))
  refine AT.sub (Sub.trans (Sub.toOwn (i := 0) (k := 0) (sz := 5) (enc := eTy) [] rfl .nil (fun _ => rfl) rfl (by decide)) (Sub.nilF (sz := 1))) ?_
  refine AL.go (AO.assign rfl rfl (AL.nil (AK.seqN (AC.seq (AC.seq (AC.region ?_))))))
  refine AL.go (AO.call rfl rfl (rnames_c (fun b5 => ?_)))
  refine AL.go (AO.len rfl rfl (fun hl6 => ?_) (hm := by repeat (first | exact mem0 | assumption | refine memS ?_)))
  refine AL.go (AO.move rfl rfl (AL.nil (AK.seqN (AC.block ?_))))
  refine AC.loop (fun (i : Nat × Option Addr × Nat × Nat) => i.1 ≤ startNames.length) (fun i => [(1, .slice i.2.1 i.2.2.1 i.2.2.2), (5, .slice (some ⟨b5, 0, none⟩) 20 20), (6, .int .i64 startNames.length), (7, .int .i64 (i.1 : Int))]) (fun i => Res.own (.slice i.2.1 i.2.2.1 i.2.2.2) 29 5 (((startNames.take i.1).map basicT).map eTy) :: L) (fun _ => _) (fun i => startNames.length - i.1) (0, some ⟨b4, 0, none⟩, 0, 0) (by simp) srA (Sub.refl _ _) ?_
  rintro ⟨q, a1, k1, c1⟩ hq
  simp only at hq ⊢
  refine AC.seq (AC.region ?_)
  refine AL.go (AO.lss rfl rfl rfl (fun c8 => ?_) (fun c8 => ?_))
  ·refine AL.nil (AK.seqN (AC.seq (AC.condT rfl (AC.skip (AK.seqN ?_)))))
   refine AC.seq (AC.block (AC.seq (AC.region ?_)))
   have hql : q < startNames.length := by omega
   have hnl := names_len
   have htl : ((startNames.take q).map basicT).length = q := by simp; omega
   refine AL.go (AO.indexAddr rfl rfl rfl rfl memA hql (fun _ _ => ?_))
   refine AL.go (AO.loadF rfl rfl ?_)
   intros
   refine AL.go (AO.assign rfl rfl (AL.nil (AK.seqN (AC.region (AL.go (AO.move rfl rfl (AL.go (AO.move rfl rfl ?_))))))))
   refine AL.go (AO.build rfl rfl rfl ?_)
   refine AL.go (AO.buildSlice rfl rfl rfl rfl rfl (fun b13 => ?_))
   refine AL.go (AO.append (i := 0) (enc := eTy) (lst := (startNames.take q).map basicT) [basicT startNames[q]] rfl rfl rfl rfl (.val (.val (.val (.slc (.slc .nil memA) memA)))) rfl rfl (fun _ => rfl) (by rw [htl]; simp [maxLen]; omega) (by rw [htl]; omega) (fun a14 k14 c14 => ?_))
   rw [basic_step hql]
   refine AL.go (AO.assign rfl rfl (AL.nil (AK.blkN (AK.seqN (AC.region (AL.go (AO.add rfl rfl rfl (by omega) (by omega) ?_)))))))
   refine AL.go (AO.move rfl rfl (AL.nil ?_))
   refine AK.next (q + 1, a14, k14, c14) (by simp only; omega) (by simp only; omega) srA subF
  ·refine AL.nil (AK.seqN (AC.seq (AC.condF rfl (AC.exit (AK.seqX ?_)))))
   refine AK.seqX (AK.blkX (AK.seqN (AC.seq (AC.region ?_))))
   refine AL.go (AO.move rfl rfl ?_)
   have hall : startNames.take q = startNames := List.take_of_length_le (by omega)
   rw [hall]
   refine AL.go (AO.build rfl rfl rfl ?_)
   refine AL.go (AO.build rfl rfl rfl ?_)
   refine AL.go (AO.buildSlice rfl rfl rfl rfl rfl (fun b19 => ?_))
   refine AL.go (AO.append (i := 0) (enc := eTy) (lst := startNames.map basicT) [⟨7, [], 0, [], []⟩, ⟨7, [], 1, [], []⟩] rfl rfl rfl rfl (.val (.val (.val (.slc (.slc (.val (.val (.val (.slc (.slc .nil memA) memA)))) memA) memA)))) rfl rfl (fun _ => rfl) (by decide) (by decide) (fun a20 k20 c20 => ?_))
   refine AL.go (AO.assign rfl rfl (AL.nil (AK.seqN (AC.seq (AC.region (AL.go (AO.move rfl rfl ?_)))))))
   refine AL.go (AO.assign rfl rfl (AL.nil (AK.seqN (AC.ret ?_))))
   exact AK.ret (L' := Res.own (.slice a20 k20 c20) 29 5 (startL.map eTy) :: L) (F' := F) Tryz.results50 rfl subF (h _ _ _)
end
end Go.Sy
namespace Go.Sy
open Go Go.Proofs Go.RowKit
def oneN (n : Nmd) : Nmd := ⟨n.name.take (min n.name.length 50), n.bounds.take (min n.bounds.length 18), n.under, n.methods.take (min n.methods.length 18)⟩
def fewN (N : List Nmd) (most : Nat) : List Nmd := (N.take (min N.length most)).map oneN
structure NmUp (n : Nmd) : Prop where
  under : -9223372036854775808 ≤ n.under ∧ n.under ≤ 9223372036854775807
  bound : ∀ b ∈ n.bounds, -9223372036854775808 ≤ b ∧ b ≤ 9223372036854775807
  sig : ∀ m ∈ n.methods, -9223372036854775808 ≤ m.sig ∧ m.sig ≤ 9223372036854775807
  meth : ∀ m ∈ n.methods, m.name.length ≤ 1048576
theorem oneN_ok {n : Nmd} (h : NmUp n) : NmOk (oneN n) := by
  refine ⟨by simp [oneN]; omega, fun m hm => h.meth m (List.mem_of_mem_take hm)⟩
theorem fewN_ok {N : List Nmd} {m : Nat} (h : ∀ n ∈ N, NmUp n) : ∀ n ∈ fewN N m, NmOk n := by
  intro t ht
  unfold fewN at ht
  obtain ⟨x, hx, rfl⟩ := List.mem_map.1 ht
  exact oneN_ok (h x (List.mem_of_mem_take hx))
theorem fewN_step {N : List Nmd} {q : Nat} (hq : q < N.length) : (N.take q).map oneN ++ [oneN N[q]] = (N.take (q + 1)).map oneN := by
  rw [List.take_succ_eq_append_getElem hq, List.map_append]; rfl
attribute [local irreducible] AC AT AO AK AH ACalls Sub Res.cells Res.nix Res.own Res.map Exit.then Exit.inBlock bodyPost Code.wp Code.wpIn WL Next Post Kont
section
variable {W0 : World} {L : List Res} {F : List Fact} {R : Value → List Res → List Fact → Prop}
set_option maxRecDepth 100000
set_option maxHeartbeats 16000000
theorem ufew_c (l : List Ty) (N : List Nmd) {a a2 : Option Addr} {k c k2 c2 : Nat} (m1 : fL l a k c ∈ F) (m2 : fN N a2 k2 c2 ∈ F) (h : ∀ a k c a2 k2 c2, R (.agg #[.slice a k c, .slice a2 k2 c2]) L (fL (fewS l 402) a k c :: fN (fewN N 62) a2 k2 c2 :: F)) : ACalls Tryz.prog W0 9 #[.agg #[.slice a k c, .slice a2 k2 c2]] L F R := by
  refine ACalls.body Tryz.func9 rfl Tryz.ntmps9 rfl ?_
  refine AC.seq (AC.region (AL.go (AO.box rfl rfl (fun b1 => ?_))))
  refine AL.go (AO.alloc rfl (fun b2 => ?_))
  refine AL.nil (AK.seqN (AC.seq (AC.region (AL.go (AO.build rfl rfl rfl (AL.go (AO.alloc rfl (fun b3 => ?_))))))))
  refine AL.go (AO.storeBA rfl rfl rfl rfl ?_)
  refine AL.nil (AK.seqN (AC.seq (AC.seq (AC.region (AL.go (AO.field rfl rfl ?_))))))
  refine AL.go (AO.loadB rfl rfl ?_)
  refine AL.go (AO.field rfl rfl ?_)
  refine AL.go (AO.loadB rfl rfl ?_)
  refine AL.go (AO.len rfl rfl (fun hl13 => ?_) (enc := eTy) (lst := l) (hm := memA))
  refine AL.go (AO.min rfl rfl rfl ?_)
  refine AL.go (AO.sliceH (j' := min l.length 402) rfl rfl rfl (by omega) (enc := eTy) (lst := l) memA (by omega) (fun a15 k15 c15 => ?_))
  refine AL.go (AO.len rfl rfl (fun hl16 => ?_) (enc := eTy) (lst := l.take (min l.length 402)) (hm := memA))
  refine AL.go (AO.move rfl rfl (AL.nil (AK.seqN (AC.block ?_))))
  have hfew : fewS l 402 = (l.take (min l.length 402)).map oneS := rfl
  have hwl : (l.take (min l.length 402)).length ≤ 402 := by simp only [List.length_take]; omega
  generalize l.take (min l.length 402) = l' at hwl hfew ⊢
  refine AC.loop (fun (i : Nat × Option Addr × Nat × Nat) => i.1 ≤ l'.length) (fun i => [(1, .pointer (some ⟨b1, 0, none⟩)), (2, .pointer (some ⟨b2, 0, none⟩)), (3, .pointer (some ⟨b3, 0, none⟩)), (15, .slice a15 k15 c15), (16, .int .i64 l'.length), (17, .int .i64 (i.1 : Int))]) (fun i => Res.own (.slice i.2.1 i.2.2.1 i.2.2.2) 29 5 (((l'.take i.1).map oneS).map eTy) :: Res.cells b3 #[.slice i.2.1 i.2.2.1 i.2.2.2, .slice none 0 0] _ :: _) (fun _ => fL l' a15 k15 c15 :: F) (fun i => l'.length - i.1) (0, none, 0, 0) (by simp) srA Sub.ownNil ?_
  rintro ⟨q, a3, k3, c3⟩ hq
  simp only at hq ⊢
  refine AC.seq (AC.region ?_)
  refine AL.go (AO.lss rfl rfl rfl (fun c18 => ?_) (fun c18 => ?_))
  ·refine AL.nil (AK.seqN (AC.seq (AC.condT rfl (AC.skip (AK.seqN ?_)))))
   refine AC.seq (AC.block (AC.seq (AC.region ?_)))
   have hql : q < l'.length := by omega
   refine AL.go (AO.indexAddr rfl rfl rfl rfl (enc := eTy) (lst := l') memA hql (fun _ _ => ?_))
   refine AL.go (AO.loadFA rfl rfl ?_)
   intro a18 k18 z18 d18 e18 f18
   refine AL.go (AO.alloc rfl (fun b5 => ?_))
   refine AL.go (AO.storeBA rfl rfl rfl rfl ?_)
   refine AL.nil (AK.seqN (AC.seq ?_))
   refine AC.draw (fun i => Nat.beq i 22 || Nat.beq i 24 || Nat.beq i 26) [(b5, _, _)] bxA rfl (fun hx hX => ?_)
   have hk1 := (len_of_fact (hX (fW l'[q] a18 k18 z18) memA)).1
   have hk2 := (len_of_fact (hX (fK l'[q] d18 e18 f18) memA)).1
   have hc1 := (len_of_fact (hX (fW l'[q] a18 k18 z18) memA)).2
   have hc2 := (len_of_fact (hX (fK l'[q] d18 e18 f18) memA)).2
   subst hk1 hk2
   refine AH.weak (Sub.part (enc := eS) (lst := l'[q].words) 0 (min l'[q].words.length 18) z18 (show fW l'[q] _ _ z18 ∈ _ from memA) (by omega) (by omega) (by omega) (by omega)) ?_
   refine AH.weak (Sub.part (enc := eI) (lst := l'[q].kids) 0 (min l'[q].kids.length 18) f18 (show fK l'[q] _ _ f18 ∈ _ from memA) (by omega) (by omega) (by omega) (by omega)) ?_
   refine AH.takeW (i := 0) rfl (Y.field rfl) (by kernel_rfl) rfl rfl ?_
   refine AH.takeS (i := 1) rfl (Y.loadB rfl lmA (by rfl)) (by kernel_rfl) (by kernel_rfl) rfl rfl rfl ?_
   refine AH.takeW (i := 2) rfl (Y.field rfl) (by kernel_rfl) rfl rfl ?_
   refine AH.takeS (i := 3) rfl (Y.loadB rfl lmA (by rfl)) (by kernel_rfl) (by kernel_rfl) rfl rfl rfl ?_
   refine AH.takeW (i := 4) rfl (Y.lenS rfl) (by kernel_rfl) rfl rfl ?_
   refine AH.takeW (i := 5) rfl (Y.min rfl rfl) (by kernel_rfl) rfl rfl ?_
   refine AH.takeW (i := 6) rfl (Y.sliceSH (j' := min l'[q].name.length 50) rfl rfl (by omega) (by omega)) (by kernel_rfl) rfl rfl ?_
   refine AH.takeW (i := 7) rfl (Y.field rfl) (by kernel_rfl) rfl rfl ?_
   refine AH.takeS (i := 8) rfl (Y.loadB rfl lmA (by rfl)) (by kernel_rfl) (by kernel_rfl) rfl rfl rfl ?_
   refine AH.takeW (i := 9) rfl (Y.field rfl) (by kernel_rfl) rfl rfl ?_
   refine AH.takeS (i := 10) rfl (Y.loadB rfl lmA (by rfl)) (by kernel_rfl) (by kernel_rfl) rfl rfl rfl ?_
   refine AH.takeW (i := 11) rfl (Y.lenV rfl) (by kernel_rfl) rfl rfl ?_
   refine AH.takeW (i := 12) rfl (Y.min rfl rfl) (by kernel_rfl) rfl rfl ?_
   refine AH.takeW (i := 13) rfl (Y.sliceH (j' := min l'[q].words.length 18) rfl rfl (by omega) (by omega)) (by kernel_rfl) rfl rfl ?_
   refine AH.takeW (i := 14) rfl (Y.field rfl) (by kernel_rfl) rfl rfl ?_
   refine AH.takeS (i := 15) rfl (Y.loadB rfl lmA (by rfl)) (by kernel_rfl) (by kernel_rfl) rfl rfl rfl ?_
   refine AH.takeW (i := 16) rfl (Y.field rfl) (by kernel_rfl) rfl rfl ?_
   refine AH.takeS (i := 17) rfl (Y.loadB rfl lmA (by rfl)) (by kernel_rfl) (by kernel_rfl) rfl rfl rfl ?_
   refine AH.takeW (i := 18) rfl (Y.lenV rfl) (by kernel_rfl) rfl rfl ?_
   refine AH.takeW (i := 19) rfl (Y.min rfl rfl) (by kernel_rfl) rfl rfl ?_
   refine AH.takeW (i := 20) rfl (Y.sliceH (j' := min l'[q].kids.length 18) rfl rfl (by omega) (by omega)) (by kernel_rfl) rfl rfl ?_
   refine AH.takeW (i := 21) rfl (Y.field rfl) (by kernel_rfl) rfl rfl ?_
   refine AH.one (i := 22) (by kernel_rfl) rfl rfl (fun _ => ?_)
   refine AO.storeB rfl rfl rfl ?_
   refine AT.spoilt rfl ?_
   refine AH.takeW (i := 23) rfl (Y.field rfl) (by kernel_rfl) rfl rfl ?_
   refine AH.one (i := 24) (by kernel_rfl) rfl rfl (fun _ => ?_)
   refine AO.storeB rfl rfl rfl ?_
   refine AT.spoilt rfl ?_
   refine AH.takeW (i := 25) rfl (Y.field rfl) (by kernel_rfl) rfl rfl ?_
   refine AH.one (i := 26) (by kernel_rfl) rfl rfl (fun _ => ?_)
   refine AO.storeB rfl rfl rfl ?_
   refine AT.spoilt rfl ?_
   refine AH.done (by kernel_rfl) ?_
   refine AK.seqN (AC.region (AL.go (AO.field rfl rfl ?_)))
   refine AL.go (AO.loadB rfl rfl ?_)
   refine AL.go (AO.loadBA rfl rfl ?_)
   refine AL.go (AO.buildSlice rfl rfl rfl rfl rfl (fun b48 => ?_))
   have htl : ((l'.take q).map oneS).length = q := by rw [List.length_map, List.length_take]; omega
   refine AL.go (AO.append (i := 1) (enc := eTy) (lst := (l'.take q).map oneS) [oneS l'[q]] rfl rfl rfl rfl (.val (.val (.val (.slc (.slc .nil memA) memA)))) rfl rfl (fun _ => rfl) (by rw [htl]; simp only [maxLen]; omega) (by rw [htl]; omega) (fun a49 k49 c49 => ?_))
   rw [fewS_step hql]
   refine AL.go (AO.field rfl rfl ?_)
   refine AL.go (AO.storeB rfl rfl rfl ?_)
   refine AL.nil (AK.blkN (AK.seqN (AC.region (AL.go (AO.add rfl rfl rfl (by omega) (by omega) (AL.go (AO.move rfl rfl ?_)))))))
   refine AL.nil ?_
   refine AK.next (q + 1, a49, k49, c49) (by simp only; omega) (by simp only; omega) srA (Sub.drop.trans subF)
  ·refine AL.nil (AK.seqN (AC.seq (AC.condF rfl (AC.exit (AK.seqX ?_)))))
   refine AK.seqX (AK.blkX (AK.seqN (AC.seq (AC.seq (AC.region ?_)))))
   refine AL.go (AO.field rfl rfl ?_)
   have hall : l'.take q = l' := List.take_of_length_le (by omega)
   rw [hall]
   refine AT.sub ((Sub.commit (i := 0) rfl).trans Sub.drop) ?_
   refine AL.go (AO.loadB rfl rfl ?_)
   refine AL.go (AO.field rfl rfl ?_)
   refine AL.go (AO.loadB rfl rfl ?_)
   refine AL.go (AO.len rfl rfl (fun hl56 => ?_) (enc := eNm) (lst := N) (hm := memA))
   refine AL.go (AO.min rfl rfl rfl ?_)
   refine AL.go (AO.sliceH (j' := min N.length 62) rfl rfl rfl (by omega) (enc := eNm) (lst := N) memA (by omega) (fun a58 k58 c58 => ?_))
   refine AL.go (AO.len rfl rfl (fun hl59 => ?_) (enc := eNm) (lst := N.take (min N.length 62)) (hm := memA))
   refine AL.go (AO.move rfl rfl (AL.nil (AK.seqN (AC.block ?_))))
   have hfewN : fewN N 62 = (N.take (min N.length 62)).map oneN := rfl
   have hwN : (N.take (min N.length 62)).length ≤ 62 := by simp only [List.length_take]; omega
   generalize N.take (min N.length 62) = N' at hwN hfewN ⊢
   refine AC.loop (fun (i : Nat × Option Addr × Nat × Nat) => i.1 ≤ N'.length) (fun i => [(2, .pointer (some ⟨b2, 0, none⟩)), (3, .pointer (some ⟨b3, 0, none⟩)), (58, .slice a58 k58 c58), (59, .int .i64 N'.length), (60, .int .i64 (i.1 : Int))]) (fun i => Res.own (.slice i.2.1 i.2.2.1 i.2.2.2) 78 4 (((N'.take i.1).map oneN).map eNm) :: Res.cells b3 #[.slice a3 k3 c3, .slice i.2.1 i.2.2.1 i.2.2.2] _ :: _) (fun _ => fN N' a58 k58 c58 :: fL (l'.map oneS) a3 k3 c3 :: F) (fun i => N'.length - i.1) (0, none, 0, 0) (by simp) srA (Sub.ownNil.trans (Sub.facts (mem2 memA memA (fun x hx => by repeat (first | exact hx | refine List.mem_cons_of_mem _ ?_))))) ?_
   rintro ⟨w, a4, k4, c4⟩ hw
   simp only at hw ⊢
   refine AC.seq (AC.region ?_)
   refine AL.go (AO.lss rfl rfl rfl (fun c61 => ?_) (fun c61 => ?_))
   ·refine AL.nil (AK.seqN (AC.seq (AC.condT rfl (AC.skip (AK.seqN ?_)))))
    refine AC.seq (AC.block (AC.seq (AC.region ?_)))
    have hwl' : w < N'.length := by omega
    refine AL.go (AO.indexAddr rfl rfl rfl rfl (enc := eNm) (lst := N') memA hwl' (fun _ _ => ?_))
    refine AL.go (AO.loadFA rfl rfl ?_)
    intro a63 k63 z63 d63 e63 f63
    refine AL.go (AO.alloc rfl (fun b7 => ?_))
    refine AL.go (AO.storeBA rfl rfl rfl rfl ?_)
    refine AL.nil (AK.seqN (AC.seq ?_))
    refine AC.draw (fun i => Nat.beq i 22 || Nat.beq i 24 || Nat.beq i 26) [(b7, _, _)] bxA rfl (fun hx hX => ?_)
    have hk1 := (len_of_fact (hX (fBd N'[w] a63 k63 z63) memA)).1
    have hk2 := (len_of_fact (hX (fMs N'[w].methods d63 e63 f63) memA)).1
    have hc1 := (len_of_fact (hX (fBd N'[w] a63 k63 z63) memA)).2
    have hc2 := (len_of_fact (hX (fMs N'[w].methods d63 e63 f63) memA)).2
    subst hk1 hk2
    refine AH.weak (Sub.part (enc := eI) (lst := N'[w].bounds) 0 (min N'[w].bounds.length 18) z63 (show fBd N'[w] _ _ z63 ∈ _ from memA) (by omega) (by omega) (by omega) (by omega)) ?_
    refine AH.weak (Sub.part (enc := eMt) (lst := N'[w].methods) 0 (min N'[w].methods.length 18) f63 (show fMs N'[w].methods _ _ f63 ∈ _ from memA) (by omega) (by omega) (by omega) (by omega)) ?_
    refine AH.takeW (i := 0) rfl (Y.field rfl) (by kernel_rfl) rfl rfl ?_
    refine AH.takeS (i := 1) rfl (Y.loadB rfl lmA (by rfl)) (by kernel_rfl) (by kernel_rfl) rfl rfl rfl ?_
    refine AH.takeW (i := 2) rfl (Y.field rfl) (by kernel_rfl) rfl rfl ?_
    refine AH.takeS (i := 3) rfl (Y.loadB rfl lmA (by rfl)) (by kernel_rfl) (by kernel_rfl) rfl rfl rfl ?_
    refine AH.takeW (i := 4) rfl (Y.lenS rfl) (by kernel_rfl) rfl rfl ?_
    refine AH.takeW (i := 5) rfl (Y.min rfl rfl) (by kernel_rfl) rfl rfl ?_
    refine AH.takeW (i := 6) rfl (Y.sliceSH (j' := min N'[w].name.length 50) rfl rfl (by omega) (by omega)) (by kernel_rfl) rfl rfl ?_
    refine AH.takeW (i := 7) rfl (Y.field rfl) (by kernel_rfl) rfl rfl ?_
    refine AH.takeS (i := 8) rfl (Y.loadB rfl lmA (by rfl)) (by kernel_rfl) (by kernel_rfl) rfl rfl rfl ?_
    refine AH.takeW (i := 9) rfl (Y.field rfl) (by kernel_rfl) rfl rfl ?_
    refine AH.takeS (i := 10) rfl (Y.loadB rfl lmA (by rfl)) (by kernel_rfl) (by kernel_rfl) rfl rfl rfl ?_
    refine AH.takeW (i := 11) rfl (Y.lenV rfl) (by kernel_rfl) rfl rfl ?_
    refine AH.takeW (i := 12) rfl (Y.min rfl rfl) (by kernel_rfl) rfl rfl ?_
    refine AH.takeW (i := 13) rfl (Y.sliceH (j' := min N'[w].bounds.length 18) rfl rfl (by omega) (by omega)) (by kernel_rfl) rfl rfl ?_
    refine AH.takeW (i := 14) rfl (Y.field rfl) (by kernel_rfl) rfl rfl ?_
    refine AH.takeS (i := 15) rfl (Y.loadB rfl lmA (by rfl)) (by kernel_rfl) (by kernel_rfl) rfl rfl rfl ?_
    refine AH.takeW (i := 16) rfl (Y.field rfl) (by kernel_rfl) rfl rfl ?_
    refine AH.takeS (i := 17) rfl (Y.loadB rfl lmA (by rfl)) (by kernel_rfl) (by kernel_rfl) rfl rfl rfl ?_
    refine AH.takeW (i := 18) rfl (Y.lenV rfl) (by kernel_rfl) rfl rfl ?_
    refine AH.takeW (i := 19) rfl (Y.min rfl rfl) (by kernel_rfl) rfl rfl ?_
    refine AH.takeW (i := 20) rfl (Y.sliceH (j' := min N'[w].methods.length 18) rfl rfl (by omega) (by omega)) (by kernel_rfl) rfl rfl ?_
    refine AH.takeW (i := 21) rfl (Y.field rfl) (by kernel_rfl) rfl rfl ?_
    refine AH.one (i := 22) (by kernel_rfl) rfl rfl (fun _ => ?_)
    refine AO.storeB rfl rfl rfl ?_
    refine AT.spoilt rfl ?_
    refine AH.takeW (i := 23) rfl (Y.field rfl) (by kernel_rfl) rfl rfl ?_
    refine AH.one (i := 24) (by kernel_rfl) rfl rfl (fun _ => ?_)
    refine AO.storeB rfl rfl rfl ?_
    refine AT.spoilt rfl ?_
    refine AH.takeW (i := 25) rfl (Y.field rfl) (by kernel_rfl) rfl rfl ?_
    refine AH.one (i := 26) (by kernel_rfl) rfl rfl (fun _ => ?_)
    refine AO.storeB rfl rfl rfl ?_
    refine AT.spoilt rfl ?_
    refine AH.done (by kernel_rfl) ?_
    refine AK.seqN (AC.region (AL.go (AO.field rfl rfl ?_)))
    refine AL.go (AO.loadB rfl rfl ?_)
    refine AL.go (AO.loadBA rfl rfl ?_)
    refine AL.go (AO.buildSlice rfl rfl rfl rfl rfl (fun b91 => ?_))
    have htl : ((N'.take w).map oneN).length = w := by rw [List.length_map, List.length_take]; omega
    refine AL.go (AO.append (i := 1) (enc := eNm) (lst := (N'.take w).map oneN) [oneN N'[w]] rfl rfl rfl rfl (.val (.slc (.val (.slc .nil memA)) memA)) rfl rfl (fun _ => rfl) (by rw [htl]; simp only [maxLen]; omega) (by rw [htl]; omega) (fun a92 k92 c92 => ?_))
    rw [fewN_step hwl']
    refine AL.go (AO.field rfl rfl ?_)
    refine AL.go (AO.storeB rfl rfl rfl ?_)
    refine AL.nil (AK.blkN (AK.seqN (AC.region (AL.go (AO.add rfl rfl rfl (by omega) (by omega) (AL.go (AO.move rfl rfl ?_)))))))
    refine AL.nil ?_
    refine AK.next (w + 1, a92, k92, c92) (by simp only; omega) (by simp only; omega) srA (Sub.drop.trans subF)
   ·refine AL.nil (AK.seqN (AC.seq (AC.condF rfl (AC.exit (AK.seqX ?_)))))
    refine AK.seqX (AK.blkX (AK.seqN (AC.seq (AC.region ?_))))
    have hallN : N'.take w = N' := List.take_of_length_le (by omega)
    rw [hallN]
    refine AT.sub ((Sub.commit (i := 0) rfl).trans Sub.drop) ?_
    refine AL.go (AO.loadBA rfl rfl ?_)
    refine AL.go (AO.storeBA rfl rfl rfl rfl ?_)
    refine AL.nil (AK.seqN (AC.ret ?_))
    rw [hfew, hfewN] at h
    exact AK.retV (rs := [.cell 2 _]) (L' := L) (F' := fL (l'.map oneS) a3 k3 c3 :: fN (N'.map oneN) a4 k4 c4 :: F) Tryz.results9 (.agg (j := 1) rfl rfl rfl .nil) (Sub.drop.trans (Sub.drop.trans (Sub.drop.trans (Sub.facts (mem2 memA memA (fun x hx => by repeat (first | exact hx | refine List.mem_cons_of_mem _ ?_))))))) (h _ _ _ _ _ _)
end
end Go.Sy
namespace Go.Sy
open Go Go.Proofs Go.RowKit
theorem put_err {out : List Ty} {ins : List Int} {t : Ty} {e : Int} (h : putS out ins t = .error e) : e ≠ 0 := by
  unfold putS at h
  by_cases c : t.kind = 7 ∧ oddP out t
  · rw [if_pos c] at h; injection h with h; omega
  · rw [if_neg c] at h
    by_cases c2 : (addF out (if t.kind = 7 then termsT out.length t else t)).2.2 = 0
    · rw [if_pos c2] at h; cases h
    · rw [if_neg c2] at h
      injection h with h
      rw [← h]; exact c2
theorem subN_err {l : List Ty} {args A : List Int} {M : List Bool} {e : Int} : ∀ n, subN l args A M n = .error e → e ≠ 0
  | 0, h => by cases h
  | n + 1, h => by
    rw [subN] at h
    cases hs : subN l args A M n with
    | error e2 => rw [hs] at h; injection h with h; subst h; exact subN_err n hs
    | ok x =>
      obtain ⟨out, ins⟩ := x
      rw [hs] at h
      simp only at h
      unfold stepS at h
      split at h
      · cases h
      · split at h
        · cases h
        · exact put_err h
theorem subR_err {l : List Ty} {i : Nat} {args : List Int} {e : Int} (h : subR l i args = .error e) : e ≠ 0 := by
  unfold subR at h
  split at h
  · injection h with h; omega
  · cases hs : subN l args (asksL (l.take (i + 1))) (partsL l i) (i + 1) with
    | error e2 => rw [hs] at h; injection h with h; subst h; exact subN_err _ hs
    | ok x => obtain ⟨out, ins⟩ := x; rw [hs] at h; cases h
structure OwnS (l own : List Ty) (sf : List Int) (k : Nat) : Prop where
  right : rightP own
  pre : l <+: own
  len : own.length ≤ l.length + k
  many : sf.length = k
  each : ∀ j : Nat, j < k → ∃ q : Nat, ∃ hq : q < own.length, sf[j]? = some (q : Int) ∧ own[q] = paramN (j : Int)
theorem OwnS.step {l own m : List Ty} {self : List Int} {k q : Nat} (h : OwnS l own self k) (hr : rightP m) (hp : own <+: m) (hl : m.length ≤ own.length + 1) (hq : q < m.length) (he : m[q] = paramN (k : Int)) : OwnS l m (self ++ [(q : Int)]) (k + 1) := by
  have hml := hp.length_le
  have hmany := h.many
  refine ⟨hr, h.pre.trans hp, by have := h.len; omega, by rw [List.length_append, hmany]; rfl, fun j hj => ?_⟩
  by_cases e : j = k
  · subst e
    exact ⟨q, hq, by rw [List.getElem?_append_right (by omega), hmany]; simp, he⟩
  · obtain ⟨p, hpl, e1, e2⟩ := h.each j (by omega)
    exact ⟨p, by omega, by rw [List.getElem?_append_left (by omega)]; exact e1, by rw [get_pre hp hpl]; exact e2⟩
structure BothS (z now : List Ty) (args others both : List Int) (u : Nat) : Prop where
  right : rightP now
  pre : z <+: now
  many : both.length = u
  each : ∀ (j : Nat) (a : Int), j < u → args[j]? = some a → ∃ b : Nat, both[j]? = some (b : Int) ∧ SubS now others a.toNat b
theorem BothS.step {z now m : List Ty} {args others both : List Int} {u : Nat} (h : BothS z now args others both u) (hgood : ∀ a ∈ others, 0 ≤ a ∧ a < now.length) (hr : rightP m) (hp : now <+: m) {q : Nat} (hu : u < args.length) (hS : SubS m others args[u].toNat q) : BothS z m args others (both ++ [(q : Int)]) (u + 1) := by
  have hmany := h.many
  refine ⟨hr, h.pre.trans hp, by rw [List.length_append, hmany]; rfl, fun j a hj ha => ?_⟩
  by_cases e : j = u
  · subst e
    rw [List.getElem?_eq_getElem hu] at ha
    injection ha with ha
    subst ha
    exact ⟨q, by rw [List.getElem?_append_right (by omega), hmany]; simp, hS⟩
  · obtain ⟨b, e1, e2⟩ := h.each j a (by omega) ha
    exact ⟨b, by rw [List.getElem?_append_left (by omega)]; exact e1, e2.mono hp hgood⟩
attribute [local irreducible] AC AT AO AK AH ACalls Sub Res.cells Res.nix Res.own Res.map Exit.then Exit.inBlock bodyPost Code.wp Code.wpIn WL Next Post Kont
section
variable {W0 : World} {L : List Res} {F : List Fact} {R : Value → List Res → List Fact → Prop}
set_option maxRecDepth 100000
set_option maxHeartbeats 16000000
end
end Go.Sy
namespace Go.Sy
open Go Go.Proofs Go.RowKit
def nmT : Ty := ⟨8, [112, 46, 84], 0, [], [2]⟩
def aliveU : List Ty := aliveL ++ [nmT]
def nm0 : Nmd := ⟨[112, 46, 84], [20], 23, []⟩
def aliveN : List Nmd := [nm0]
theorem aliveU_len : aliveU.length = 25 := by decide
theorem aliveU_right : rightP aliveU := by
  refine right_snoc alive_right (by decide) ⟨fun k hk => ?_, by decide, fun e => absurd rfl e, fun _ _ => rfl, (madeK_8 rfl).2 ⟨rfl, by unfold namedP; decide⟩⟩ (by decide)
  have : k = 2 := by simpa [nmT] using hk
  rw [this]; decide
theorem aliveU_low : ∀ q, q ≤ 22 → subN aliveU [2] (asksL (aliveU.take 24)) (partsL aliveU 23) q = .ok (aliveU, (List.range q).map Int.ofNat)
  | 0, _ => rfl
  | q + 1, h => by
    have hM : ∀ q, q < 22 → (partsL aliveU 23).getD q false = false := by decide
    rw [sub_out (aliveU_low q (by omega)) (.inl (hM q (by omega))), List.range_succ, List.map_append]; rfl
theorem aliveU_new : sliceT ∉ aliveU := by decide
theorem aliveU_made : madeP aliveU sliceT := by
  refine ⟨fun k hk => ?_, by decide, fun _ => rfl, fun _ _ => rfl, Or.inr (Or.inl ⟨rfl, rfl, rfl⟩)⟩
  have : k = 2 := by simpa [sliceT] using hk
  rw [aliveU_len]; omega
theorem aliveU_sub : subR aliveU 23 [2] = .ok (aliveU ++ [sliceT], 25) := by
  have h22 := aliveU_low 22 (by omega)
  have h23 := sub_param (q := 22) h22 (by decide) (by decide) (by decide) (by decide)
  have h24 := sub_put (q := 23) h23 (by decide) (by decide) (by decide) (by decide)
  have hP : AddP aliveU (mapK ((List.range 22).map Int.ofNat ++ [([2] : List Int).getD (aliveU[22]'(by decide)).n.toNat 0]) (aliveU[23]'(by decide))) (aliveU ++ [sliceT]) 25 0 :=
    Or.inr ⟨aliveU_new, Or.inr (Or.inr ⟨aliveU_made, by decide, rfl, rfl, rfl⟩)⟩
  rw [put_plain aliveU_right (by decide) hP, if_pos rfl] at h24
  have hb : ¬ badArgs aliveU 23 [2] := not_bad (by decide) (by decide)
  rw [subR_ok hb h24]
  rfl
theorem aliveU_right2 : rightP (aliveU ++ [sliceT]) := right_snoc aliveU_right aliveU_new aliveU_made (by decide)
theorem nm0_named : namedU aliveU nm0 := by
  refine ⟨by unfold namedP; decide, ⟨by decide, fun b hb => ?_⟩, ⟨by unfold fewA; decide, by unfold isK; decide, by unfold isK; decide, by decide⟩, by decide, fun j hj => absurd hj (by simp [nm0]), fun e => absurd rfl e⟩
  have : b = 20 := by simpa [nm0] using hb
  subst this
  exact ⟨by unfold isK; decide, by unfold fewA; decide⟩
theorem aliveU_rightU : rightU aliveU aliveN := by
  refine ⟨aliveU_right, by decide, fun i hi => ?_, fun t ht h8 => ?_⟩
  · have h0 : i = 0 := by have : aliveN.length = 1 := rfl; omega
    subst h0
    exact ⟨nm0_named, fun h => absurd h (by decide)⟩
  · have hn : ∀ t ∈ aliveL, t.kind ≠ 8 := by decide
    rcases List.mem_append.1 ht with h | h
    · exact absurd h8 (hn t h)
    · have : t = nmT := by simpa using h
      subst this
      exact ⟨0, rfl, rfl⟩
theorem aliveN_ok : ∀ n ∈ aliveN, NmOk n := by
  intro n hn
  have : n = nm0 := by simpa [aliveN] using hn
  subst this
  exact ⟨by decide, fun m hm => by simp [nm0] at hm⟩
theorem at_und {T : List Ty} {N : List Nmd} (h : rightU T N) {j : Nat} (hj : j < N.length) : ∃ u : Nat, N[j].under = (u : Int) ∧ u < T.length := by
  obtain ⟨h1, h2, _⟩ := (h.2.2.1 j hj).1.2.2.1.1
  exact ⟨N[j].under.toNat, by omega, by omega⟩
attribute [local irreducible] AC AT AO AK AH ACalls Sub Res.cells Res.nix Res.own Res.map Exit.then Exit.inBlock bodyPost Code.wp Code.wpIn WL Next Post Kont
section
variable {W0 : World} {L : List Res} {F : List Fact} {R : Value → List Res → List Fact → Prop}
set_option maxRecDepth 100000
set_option maxHeartbeats 16000000
theorem uthere_c (g : Glob W0) (T : List Ty) (N : List Nmd) (hok : ∀ t ∈ T, TyOk t) (hno : ∀ n ∈ N, NmOk n) (i : Int) {a a2 : Option Addr} {k c k2 c2 : Nat} (mL : fL T a k c ∈ F) (mN : fN N a2 k2 c2 ∈ F)
    (h1 : ∀ e, (¬ rightU T N ∧ e = 1) ∨ (rightU T N ∧ ¬(0 ≤ i ∧ i < T.length) ∧ e = 8) → R (.int .i64 e) L F) (h3 : rightU T N → 0 ≤ i ∧ i < T.length → R (.int .i64 0) L F) : ACalls Tryz.prog W0 53 #[.agg #[.slice a k c, .slice a2 k2 c2], .int .i64 i] L F R := by
  refine ACalls.body Tryz.func53 rfl Tryz.ntmps53 rfl ?_
  refine AC.seq (AC.region (AL.go (AO.box rfl rfl (fun b2 => ?_))))
  refine AL.go (AO.assign rfl rfl (AL.nil (AK.seqN (AC.seq (AC.block (AC.seq ?_))))))
  refine AC.region ?_
  refine AL.go (AO.loadBA rfl rfl ?_)
  refine AL.go (AO.call rfl rfl (uright_c g T N hok hno mL mN (fun c7 => ?_) (fun c7 => ?_)))
  ·refine AL.go (AO.not rfl rfl (AL.go (AO.assign rfl rfl (AL.nil (AK.seqN (AC.condF rfl (AC.seq ?_)))))))
   refine AC.region (AL.go (AO.move rfl rfl ?_))
   refine AL.go (AO.lss rfl rfl rfl (fun c11 => ?_) (fun c11 => ?_))
   ·refine AL.go (AO.move rfl rfl (AL.no rfl rfl rfl rfl (AL.no rfl rfl rfl rfl (AL.no rfl rfl rfl rfl (AL.no rfl rfl rfl rfl (AL.no rfl rfl rfl rfl ?_))))))
    refine AL.go (AO.pickT rfl rfl rfl (AL.go (AO.assign rfl rfl (AL.nil (AK.seqN (AC.condT rfl (AC.seq ?_)))))))
    refine AC.region (AL.go (AO.assign rfl rfl (AL.nil (AK.seqN (AC.ret (AK.blkR ?_))))))
    refine AK.seqR ?_
    first | exact AK.ret (L' := L) (F' := F) Tryz.results53 rfl subA (h1 1 (.inl ⟨c7, rfl⟩)) | exact AK.ret (L' := L) (F' := F) Tryz.results53 rfl subA (h1 8 (.inr ⟨c7, by omega, rfl⟩)) | exact AK.ret (L' := L) (F' := F) Tryz.results53 rfl subA (h3 c7 (by omega))
   ·refine AL.go (AO.move rfl rfl (AL.yes rfl rfl (AO.move rfl rfl (AL.yes rfl rfl (AO.field rfl rfl ?_)))))
    refine AL.yes rfl rfl (AO.loadB rfl rfl ?_)
    refine AL.yes rfl rfl (AO.len rfl rfl (fun hl16 => ?_) (enc := eTy) (lst := T) (hm := memA))
    refine AL.yes rfl rfl (AO.geq rfl rfl rfl (fun c17 => ?_) (fun c17 => ?_))
    ·refine AL.go (AO.pickF rfl rfl rfl (AL.go (AO.assign rfl rfl (AL.nil (AK.seqN (AC.condT rfl (AC.seq ?_)))))))
     refine AC.region (AL.go (AO.assign rfl rfl (AL.nil (AK.seqN (AC.ret (AK.blkR ?_))))))
     refine AK.seqR ?_
     first | exact AK.ret (L' := L) (F' := F) Tryz.results53 rfl subA (h1 1 (.inl ⟨c7, rfl⟩)) | exact AK.ret (L' := L) (F' := F) Tryz.results53 rfl subA (h1 8 (.inr ⟨c7, by omega, rfl⟩)) | exact AK.ret (L' := L) (F' := F) Tryz.results53 rfl subA (h3 c7 (by omega))
    ·refine AL.go (AO.pickF rfl rfl rfl (AL.go (AO.assign rfl rfl (AL.nil (AK.seqN (AC.condF rfl (AC.skip ?_)))))))
     refine AK.blkN (AK.seqN (AC.seq (AC.region (AL.go (AO.assign rfl rfl (AL.nil ?_))))))
     refine AK.seqN (AC.ret ?_)
     first | exact AK.ret (L' := L) (F' := F) Tryz.results53 rfl subA (h1 1 (.inl ⟨c7, rfl⟩)) | exact AK.ret (L' := L) (F' := F) Tryz.results53 rfl subA (h1 8 (.inr ⟨c7, by omega, rfl⟩)) | exact AK.ret (L' := L) (F' := F) Tryz.results53 rfl subA (h3 c7 (by omega))
  ·refine AL.go (AO.not rfl rfl (AL.go (AO.assign rfl rfl (AL.nil (AK.seqN (AC.condT rfl (AC.seq ?_)))))))
   refine AC.region (AL.go (AO.assign rfl rfl (AL.nil (AK.seqN (AC.ret (AK.blkR ?_))))))
   refine AK.seqR ?_
   first | exact AK.ret (L' := L) (F' := F) Tryz.results53 rfl subA (h1 1 (.inl ⟨c7, rfl⟩)) | exact AK.ret (L' := L) (F' := F) Tryz.results53 rfl subA (h1 8 (.inr ⟨c7, by omega, rfl⟩)) | exact AK.ret (L' := L) (F' := F) Tryz.results53 rfl subA (h3 c7 (by omega))
theorem uwith_c (g : Glob W0) (l : List Ty) (hok : ∀ t ∈ l, TyOk t) (hr : rightP l) (n : Nat) (hn : n < l.length) (args : List Int) (hargs : args.length ≤ 1000) {a a2 a3 : Option Addr} {k c k2 c2 k3 c3 : Nat} (mL : fL l a k c ∈ F) (mA : fI args a3 k3 c3 ∈ F) (mN : Fact.slc (.slice none 0 0) 5 [] ∈ F)
    (h3 : ∀ e, e ≠ 0 → subR l n args = .error e → R (.tuple #[.agg #[.slice none 0 0, .slice none 0 0], .int .i64 0, .int .i64 e]) L F)
    (h4 : ∀ o q a k c, subR l n args = .ok (o, q) → R (.tuple #[.agg #[.slice a k c, .slice a2 k2 c2], .int .i64 q, .int .i64 0]) L (fL o a k c :: F)) :
    ACalls Tryz.prog W0 55 #[.agg #[.slice a k c, .slice a2 k2 c2], .int .i64 (n : Int), .slice a3 k3 c3] L F R := by
  refine ACalls.body Tryz.func55 rfl Tryz.ntmps55 rfl ?_
  refine AC.seq (AC.region (AL.go (AO.box rfl rfl (fun b3 => ?_))))
  refine AL.go (AO.alloc rfl (fun b6 => ?_))
  refine AL.go (AO.assign rfl rfl (AL.go (AO.assign rfl rfl (AL.nil (AK.seqN (AC.seq (AC.region ?_)))))))
  refine AL.go (AO.field rfl rfl ?_)
  refine AL.go (AO.loadB rfl rfl ?_)
  refine AL.go (AO.move rfl rfl (AL.go (AO.move rfl rfl ?_)))
  refine AL.go (AO.call rfl rfl (substIn_c g l hok hr n hn args hargs mL mA mN (fun e he => ?_) (fun o q a17 k17 c17 hq => ?_)))
  ·refine AL.go (AO.move rfl rfl (AL.go (AO.extract rfl rfl rfl (AL.go (AO.extract rfl rfl rfl (AL.go (AO.extract rfl rfl rfl (AL.go (AO.assign rfl rfl (AL.go (AO.assign rfl rfl ?_)))))))))))
   refine AL.go (AO.assign rfl rfl (AL.nil (AK.seqN (AC.seq (AC.seq (AC.region ?_))))))
   refine AL.go (AO.move rfl rfl ?_)
   refine AL.go (AO.neq rfl rfl rfl (fun c22 => ?_) (fun c22 => absurd c22 (subR_err he)))
   refine AL.nil (AK.seqN (AC.condT rfl (AC.seq (AC.region ?_))))
   refine AL.go (AO.build rfl rfl rfl ?_)
   refine AL.go (AO.move rfl rfl ?_)
   refine AL.go (AO.storeBA rfl rfl rfl rfl ?_)
   refine AL.go (AO.assign rfl rfl (AL.go (AO.assign rfl rfl (AL.nil (AK.seqN (AC.ret (AK.seqR ?_)))))))
   first
   | exact AK.retV (rs := [.cell 6 _, .tmp 7, .tmp 8]) (L' := L) (F' := F) Tryz.results55 (.agg (j := 0) rfl rfl rfl (.tmp rfl (.tmp rfl .nil))) subA (h3 e (subR_err he) he)
   | exact AK.retV (rs := [.cell 6 _, .tmp 7, .tmp 8]) (L' := L) (F' := fL o a17 k17 c17 :: F) Tryz.results55 (.agg (j := 0) rfl rfl rfl (.tmp rfl (.tmp rfl .nil))) (Sub.drop.trans Sub.drop) (h4 o q a17 k17 c17 hq)
  ·refine AL.go (AO.move rfl rfl (AL.go (AO.extract rfl rfl rfl (AL.go (AO.extract rfl rfl rfl (AL.go (AO.extract rfl rfl rfl (AL.go (AO.assign rfl rfl (AL.go (AO.assign rfl rfl ?_)))))))))))
   refine AL.go (AO.assign rfl rfl (AL.nil (AK.seqN (AC.seq (AC.seq (AC.region ?_))))))
   refine AL.go (AO.move rfl rfl ?_)
   refine AL.go (AO.neq rfl rfl rfl (fun c22 => absurd rfl c22) (fun _ => ?_))
   refine AL.nil (AK.seqN (AC.condF rfl (AC.skip (AK.seqN (AC.seq ?_)))))
   refine AC.region (AL.go (AO.move rfl rfl (AL.go (AO.field rfl rfl ?_))))
   refine AL.go (AO.storeB rfl rfl rfl ?_)
   refine AL.nil (AK.seqN (AC.seq (AC.region ?_)))
   refine AL.go (AO.loadBA rfl rfl ?_)
   refine AL.go (AO.move rfl rfl ?_)
   refine AL.go (AO.storeBA rfl rfl rfl rfl ?_)
   refine AL.go (AO.assign rfl rfl (AL.go (AO.assign rfl rfl (AL.nil (AK.seqN (AC.ret ?_))))))
   first
   | exact AK.retV (rs := [.cell 6 _, .tmp 7, .tmp 8]) (L' := L) (F' := F) Tryz.results55 (.agg (j := 0) rfl rfl rfl (.tmp rfl (.tmp rfl .nil))) subA (h3 e (subR_err he) he)
   | exact AK.retV (rs := [.cell 6 _, .tmp 7, .tmp 8]) (L' := L) (F' := fL o a17 k17 c17 :: F) Tryz.results55 (.agg (j := 0) rfl rfl rfl (.tmp rfl (.tmp rfl .nil))) (Sub.drop.trans Sub.drop) (h4 o q a17 k17 c17 hq)
theorem uunder_c (g : Glob W0) (T : List Ty) (N : List Nmd) (hok : ∀ t ∈ T, TyOk t) (hno : ∀ n ∈ N, NmOk n) (i : Int) {a a2 : Option Addr} {k c k2 c2 : Nat} (mL : fL T a k c ∈ F) (mN : fN N a2 k2 c2 ∈ F) (mE : Fact.slc (.slice none 0 0) 5 [] ∈ F)
    (h1 : ¬ rightU T N → R (.tuple #[.agg #[.slice none 0 0, .slice none 0 0], .int .i64 0, .int .i64 1]) L F)
    (h2 : rightU T N → ¬(0 ≤ i ∧ i < T.length) → R (.tuple #[.agg #[.slice none 0 0, .slice none 0 0], .int .i64 0, .int .i64 8]) L F)
    (h3 : rightU T N → ∀ n : Nat, i = n → ∀ hn : n < T.length, T[n].kind ≠ 8 → R (.tuple #[.agg #[.slice a k c, .slice a2 k2 c2], .int .i64 i, .int .i64 0]) L (fL T a k c :: F))
    (h4 : rightU T N → ∀ n : Nat, i = n → ∀ hn : n < T.length, T[n].kind = 8 → ∀ j (hj : j < N.length), atN N T[n].name = some j → ∀ u : Nat, N[j].under = u → u < T.length → ∀ e, e ≠ 0 → subR T u T[n].kids = .error e → R (.tuple #[.agg #[.slice none 0 0, .slice none 0 0], .int .i64 0, .int .i64 e]) L F)
    (h5 : rightU T N → ∀ n : Nat, i = n → ∀ hn : n < T.length, T[n].kind = 8 → ∀ j (hj : j < N.length), atN N T[n].name = some j → ∀ u : Nat, N[j].under = u → u < T.length → ∀ o q a k c, subR T u T[n].kids = .ok (o, q) → R (.tuple #[.agg #[.slice a k c, .slice a2 k2 c2], .int .i64 q, .int .i64 0]) L (fL o a k c :: F)) :
    ACalls Tryz.prog W0 15 #[.agg #[.slice a k c, .slice a2 k2 c2], .int .i64 i] L F R := by
  refine ACalls.body Tryz.func15 rfl Tryz.ntmps15 rfl ?_
  refine AC.seq (AC.region (AL.go (AO.box rfl rfl (fun b2 => ?_))))
  refine AL.go (AO.alloc rfl (fun b4 => ?_))
  refine AL.go (AO.assign rfl rfl (AL.go (AO.assign rfl rfl (AL.nil (AK.seqN (AC.seq (AC.seq ?_)))))))
  refine AC.region ?_
  refine AL.go (AO.loadBA rfl rfl ?_)
  refine AL.go (AO.move rfl rfl ?_)
  refine AL.go (AO.call rfl rfl (uthere_c g T N hok hno i mL mN (fun e he => ?_) (fun c13 d13 => ?_)))
  ·refine AL.go (AO.assign rfl rfl (AL.nil (AK.seqN (AC.seq (AC.region (AL.go (AO.move rfl rfl ?_)))))))
   refine AL.go (AO.neq rfl rfl rfl (fun _ => ?_) (fun c15 => absurd c15 (by rcases he with ⟨_, h⟩ | ⟨_, _, h⟩ <;> omega)))
   refine AL.nil (AK.seqN (AC.condT rfl (AC.seq (AC.region ?_))))
   refine AL.go (AO.build rfl rfl rfl ?_)
   refine AL.go (AO.move rfl rfl ?_)
   refine AL.go (AO.storeBA rfl rfl rfl rfl ?_)
   refine AL.go (AO.assign rfl rfl (AL.go (AO.assign rfl rfl (AL.nil (AK.seqN (AC.ret (AK.seqR ?_)))))))
   rcases he with ⟨h, rfl⟩ | ⟨h, h', rfl⟩
   · exact AK.retV (rs := [.cell 4 _, .tmp 5, .tmp 6]) (L' := L) (F' := F) Tryz.results15 (.agg (j := 0) rfl rfl rfl (.tmp rfl (.tmp rfl .nil))) subA (h1 h)
   · exact AK.retV (rs := [.cell 4 _, .tmp 5, .tmp 6]) (L' := L) (F' := F) Tryz.results15 (.agg (j := 0) rfl rfl rfl (.tmp rfl (.tmp rfl .nil))) subA (h2 h h')
  ·refine AL.go (AO.assign rfl rfl (AL.nil (AK.seqN (AC.seq (AC.region (AL.go (AO.move rfl rfl ?_)))))))
   refine AL.go (AO.neq rfl rfl rfl (fun c15 => absurd rfl c15) (fun _ => ?_))
   refine AL.nil (AK.seqN (AC.condF rfl (AC.skip (AK.seqN (AC.seq ?_)))))
   refine AC.region (AL.go (AO.field rfl rfl ?_))
   refine AL.go (AO.loadB rfl rfl ?_)
   refine AL.go (AO.move rfl rfl ?_)
   obtain ⟨n, rfl⟩ : ∃ n : Nat, i = (n : Int) := ⟨i.toNat, by omega⟩
   have hn : n < T.length := by omega
   have hkl := (hok _ (List.getElem_mem hn)).kids
   refine AL.go (AO.indexAddr rfl rfl rfl rfl (enc := eTy) (lst := T) memA hn (fun _ _ => ?_))
   refine AL.go (AO.loadFA rfl rfl ?_)
   intro a22 k22 z22 d22 e22 f22
   refine AL.go (AO.alloc rfl (fun b8 => ?_))
   refine AL.go (AO.storeBA rfl rfl rfl rfl ?_)
   refine AL.nil (AK.seqN (AC.seq (AC.seq (AC.region (AL.go (AO.field rfl rfl ?_))))))
   refine AL.go (AO.loadB rfl rfl ?_)
   refine AL.go (AO.neq rfl rfl rfl (fun c25 => ?_) (fun c25 => ?_))
   ·refine AL.nil (AK.seqN (AC.condT rfl (AC.seq (AC.region ?_))))
    refine AL.go (AO.loadBA rfl rfl ?_)
    refine AL.go (AO.move rfl rfl ?_)
    refine AL.go (AO.storeBA rfl rfl rfl rfl ?_)
    refine AL.go (AO.assign rfl rfl (AL.go (AO.assign rfl rfl (AL.nil (AK.seqN (AC.ret (AK.seqR ?_)))))))
    exact AK.retV (rs := [.cell 4 _, .tmp 5, .tmp 6]) (L' := L) (F' := fL T a k c :: F) Tryz.results15 (.agg (j := 1) rfl rfl rfl (.tmp rfl (.tmp rfl .nil))) (Sub.drop.trans (Sub.drop.trans (Sub.drop.trans (Sub.facts (mem1 memA (fun x hx => by repeat (first | exact hx | refine List.mem_cons_of_mem _ ?_))))))) (h3 c13 n rfl hn c25)
   ·refine AL.nil (AK.seqN (AC.condF rfl (AC.skip (AK.seqN (AC.seq ?_)))))
    refine AC.region ?_
    refine AL.go (AO.loadBA rfl rfl ?_)
    refine AL.go (AO.field rfl rfl ?_)
    refine AL.go (AO.loadB rfl rfl ?_)
    refine AL.go (AO.call rfl rfl (at_c N T[n].name memA (fun j c32 => ?_) (fun c32 => by obtain ⟨i, hi, _⟩ := c13.2.2.2 _ (List.getElem_mem hn) c25; rw [c32] at hi; exact absurd hi (by simp))))
    refine AL.go (AO.move rfl rfl (AL.go (AO.extract rfl rfl rfl (AL.go (AO.extract rfl rfl rfl (AL.go (AO.assign rfl rfl (AL.go (AO.assign rfl rfl (AL.nil ?_))))))))))
    refine AK.seqN (AC.seq ?_)
    refine AC.draw (fun i => Nat.beq i 13) [(b2, _, _), (b8, _, _)] bxA rfl (fun hx hX => ?_)
    obtain ⟨hjl, _⟩ := atN_some c32
    obtain ⟨u, hu, hul⟩ := at_und c13 hjl
    have hk2 := (len_of_fact (hX (fN N a2 k2 c2) memA)).1
    obtain ⟨p1, o1, e1, at1⟩ := row_of_fact (hX (fN N a2 k2 c2) memA) hjl
    cases e1
    obtain ⟨w1, x1, y1, w2, x2, y2, hv, hw1, hw2⟩ := nm_cells at1
    have hv2 := hv 2 _ rfl
    rw [hu] at hv2
    cases hk2
    refine AH.takeS (i := 0) rfl (Y.loadBA rfl lmA (by rfl)) (by kernel_rfl) (by kernel_rfl) rfl rfl rfl ?_
    refine AH.takeW (i := 1) rfl (Y.field rfl) (by kernel_rfl) rfl rfl ?_
    refine AH.takeS (i := 2) rfl (Y.loadB rfl lmA (by rfl)) (by kernel_rfl) (by kernel_rfl) rfl rfl rfl ?_
    refine AH.takeW (i := 3) rfl (Y.move rfl) (by kernel_rfl) rfl rfl ?_
    refine AH.takeW (i := 4) rfl (Y.indexAddr (k := j) rfl rfl (by omega) (by omega)) (by kernel_rfl) rfl rfl ?_
    refine AH.takeW (i := 5) rfl (Y.field rfl) (by kernel_rfl) rfl rfl ?_
    refine AH.takeS (i := 6) rfl (Y.loadF rfl hv2) (by kernel_rfl) (by kernel_rfl) rfl rfl rfl ?_
    refine AH.takeW (i := 7) rfl (Y.field rfl) (by kernel_rfl) rfl rfl ?_
    refine AH.takeS (i := 8) rfl (Y.loadB rfl lmA (by rfl)) (by kernel_rfl) (by kernel_rfl) rfl rfl rfl ?_
    refine AH.one (i := 9) (by kernel_rfl) rfl rfl (fun _ => ?_)
    refine AO.call rfl rfl (uwith_c g T hok c13.1 u hul T[n].kids (by omega) (show fL T a k c ∈ _ from memA) (show fK T[n] _ _ _ ∈ _ from memA) memA (fun e h0 he => ?_) (fun o q a44 k44 c44 hq => ?_))
    all_goals refine AT.held bxA memB ?_
    ·refine AH.takeW (i := 10) rfl (Y.extract rfl rfl) (by kernel_rfl) rfl rfl ?_
     refine AH.takeW (i := 11) rfl (Y.extract rfl rfl) (by kernel_rfl) rfl rfl ?_
     refine AH.takeW (i := 12) rfl (Y.extract rfl rfl) (by kernel_rfl) rfl rfl ?_
     refine AH.one (i := 13) (by kernel_rfl) rfl rfl (fun _ => ?_)
     refine AO.storeBA rfl rfl rfl rfl ?_
     refine AT.spoilt rfl ?_
     refine AH.takeW (i := 14) rfl (Y.assign rfl) (by kernel_rfl) rfl rfl ?_
     refine AH.takeW (i := 15) rfl (Y.assign rfl) (by kernel_rfl) rfl rfl ?_
     refine AH.done (by kernel_rfl) ?_
     refine AK.seqN (AC.ret ?_)
     exact AK.retV (rs := [.cell 4 _, .tmp 5, .tmp 6]) (L' := L) (F' := F) Tryz.results15 (.agg (j := 1) rfl rfl rfl (.tmp rfl (.tmp rfl .nil))) subA (h4 c13 n rfl hn c25 j hjl c32 u hu hul e h0 he)
    ·refine AH.takeW (i := 10) rfl (Y.extract rfl rfl) (by kernel_rfl) rfl rfl ?_
     refine AH.takeW (i := 11) rfl (Y.extract rfl rfl) (by kernel_rfl) rfl rfl ?_
     refine AH.takeW (i := 12) rfl (Y.extract rfl rfl) (by kernel_rfl) rfl rfl ?_
     refine AH.one (i := 13) (by kernel_rfl) rfl rfl (fun _ => ?_)
     refine AO.storeBA rfl rfl rfl rfl ?_
     refine AT.spoilt rfl ?_
     refine AH.takeW (i := 14) rfl (Y.assign rfl) (by kernel_rfl) rfl rfl ?_
     refine AH.takeW (i := 15) rfl (Y.assign rfl) (by kernel_rfl) rfl rfl ?_
     refine AH.done (by kernel_rfl) ?_
     refine AK.seqN (AC.ret ?_)
     exact AK.retV (rs := [.cell 4 _, .tmp 5, .tmp 6]) (L' := L) (F' := fL o a44 k44 c44 :: F) Tryz.results15 (.agg (j := 1) rfl rfl rfl (.tmp rfl (.tmp rfl .nil))) (Sub.drop.trans (Sub.drop.trans (Sub.drop.trans (Sub.headF (fun x hx => by repeat (first | exact hx | refine List.mem_cons_of_mem _ ?_)))))) (h5 c13 n rfl hn c25 j hjl c32 u hu hul o q a44 k44 c44 hq)
theorem ualive_c (g : Glob W0) (h : R (.bool true) L F) : ACalls Tryz.prog W0 11 #[] L F R := by
  refine ACalls.weak ((Sub.nilF (sz := 3)).trans ((Sub.nilF (sz := 1)).trans (Sub.nilF (sz := 5)))) ?_
  refine ACalls.body Tryz.func11 rfl Tryz.ntmps11 rfl ?_
  refine AC.seq (AC.region (AL.go (AO.assign rfl rfl (AL.nil (AK.seqN (AC.seq ?_))))))
  refine AC.region ?_
  refine AL.go (AO.call rfl rfl (rstartO_c (fun a7 k7 c7 => ?_)))
  refine AL.go (AO.build rfl rfl rfl ?_)
  refine AL.go (AO.buildSlice rfl rfl rfl rfl rfl (fun b9 => ?_))
  refine AT.sub (Sub.trans (Sub.lit (i := 0) (enc := eI) (sz := 1) [22] rfl (.val .nil) (fun _ => rfl) rfl (by decide)) Sub.drop) ?_
  refine AL.go (AO.build rfl rfl rfl ?_)
  refine AL.go (AO.buildSlice rfl rfl rfl rfl rfl (fun b11 => ?_))
  refine AT.sub (Sub.trans (Sub.lit (i := 0) (enc := eI) (sz := 1) [2] rfl (.val .nil) (fun _ => rfl) rfl (by decide)) Sub.drop) ?_
  refine AL.go (AO.build rfl rfl rfl ?_)
  refine AL.go (AO.buildSlice rfl rfl rfl rfl rfl (fun b13 => ?_))
  refine AL.go (AO.append (i := 0) (enc := eTy) (lst := startL) [paramT, pslT, nmT] rfl rfl rfl rfl (.val (.val (.val (.slc (.slc (.val (.val (.val (.slc (.slc (.val (.val (.val (.slc (.slc .nil memA) memA)))) memA) memA)))) memA) memA)))) rfl rfl (fun _ => rfl) (by decide) (by decide) (fun a14 k14 c14 => ?_))
  refine AT.sub ((Sub.commit (i := 0) rfl).trans Sub.drop) ?_
  refine AL.go (AO.assign rfl rfl (AL.nil (AK.seqN (AC.seq (AC.region (AL.go (AO.move rfl rfl ?_)))))))
  refine AL.go (AO.buildSlice rfl rfl rfl rfl rfl (fun b17 => ?_))
  refine AT.sub (Sub.trans (Sub.lit (i := 0) (enc := eI) (sz := 1) [20] rfl (.val .nil) (fun _ => rfl) rfl (by decide)) Sub.drop) ?_
  refine AL.go (AO.build rfl rfl rfl ?_)
  refine AL.go (AO.buildSlice rfl rfl rfl rfl rfl (fun b19 => ?_))
  refine AT.sub (Sub.trans (Sub.lit (i := 0) (enc := eNm) (sz := 4) aliveN rfl (.val (.slc (.val (.slc .nil memA)) memA)) (fun _ => rfl) rfl (by decide)) Sub.drop) ?_
  refine AL.go (AO.build rfl rfl rfl ?_)
  refine AL.go (AO.call rfl rfl (uunder_c g aliveU aliveN (right_ok aliveU_right) aliveN_ok 24 (show fL aliveU _ _ _ ∈ _ from memA) (show fN aliveN _ _ _ ∈ _ from memA) memA (fun c => absurd aliveU_rightU c) (fun _ c => absurd (by rw [aliveU_len]; decide) c) (fun _ n e hn hk => ?_) (fun _ n e hn hk j hj hat u hu hul e2 h0 he => ?_) (fun _ n e hn hk j hj hat u hu hul o q a21 k21 c21 hq => ?_)))
  rotate_left 2
  obtain rfl : n = 24 := by omega
  obtain rfl : j = 0 := by have : aliveN.length = 1 := rfl; omega
  obtain rfl : u = 23 := by have : (23 : Int) = u := hu; omega
  obtain ⟨rfl, rfl⟩ := ok_inj hq aliveU_sub
  rotate_left
  · obtain rfl : n = 24 := by omega
    exact absurd rfl hk
  · obtain rfl : n = 24 := by omega
    obtain rfl : j = 0 := by have : aliveN.length = 1 := rfl; omega
    obtain rfl : u = 23 := by have : (23 : Int) = u := hu; omega
    exact absurd (err_ok he aliveU_sub) id
  refine AL.go (AO.move rfl rfl (AL.go (AO.extract rfl rfl rfl (AL.go (AO.extract rfl rfl rfl (AL.go (AO.extract rfl rfl rfl (AL.go (AO.alloc rfl (fun b2 => ?_))))))))))
  refine AL.go (AO.storeBA rfl rfl rfl rfl ?_)
  refine AL.go (AO.assign rfl rfl (AL.go (AO.assign rfl rfl (AL.nil (AK.seqN (AC.seq (AC.region ?_)))))))
  refine AL.go (AO.field rfl rfl ?_)
  refine AL.go (AO.loadB rfl rfl ?_)
  refine AL.go (AO.move rfl rfl ?_)
  refine AL.go (AO.call rfl rfl (ptextS_c g (aliveU ++ [sliceT]) (right_ok aliveU_right2) aliveU_right2 25 2 (by decide) rfl (by decide) rfl rfl memA ?_))
  refine AL.go (AO.move rfl rfl (AL.go (AO.extract rfl rfl rfl (AL.go (AO.extract rfl rfl rfl (AL.go (AO.assign rfl rfl (AL.go (AO.assign rfl rfl (AL.nil ?_))))))))))
  refine AK.seqN (AC.seq (AC.region (AL.go (AO.move rfl rfl ?_))))
  refine AL.go (AO.eql rfl rfl rfl (fun c33 => ?_) (fun c33 => ?_))
  ·refine AL.go (AO.move rfl rfl (AL.yes rfl rfl (AO.move rfl rfl ?_)))
   refine AL.yes rfl rfl (AO.eql rfl rfl rfl (fun c36 => ?_) (fun c36 => ?_))
   ·refine AL.go (AO.pickT rfl rfl rfl (AL.go (AO.move rfl rfl (AL.yes rfl rfl (AO.move rfl rfl ?_)))))
    refine AL.yes rfl rfl (AO.eqlS rfl rfl rfl (fun c40 => ?_) (fun c40 => ?_))
    ·refine AL.go (AO.pickT rfl rfl rfl (AL.go (AO.assign rfl rfl (AL.nil (AK.seqN (AC.ret ?_))))))
     first | exact AK.ret (L' := L) (F' := F) Tryz.results11 rfl subA h | exact absurd rfl c33 | exact absurd rfl c36 | exact absurd (by decide) c40
    ·refine AL.go (AO.pickT rfl rfl rfl (AL.go (AO.assign rfl rfl (AL.nil (AK.seqN (AC.ret ?_))))))
     first | exact AK.ret (L' := L) (F' := F) Tryz.results11 rfl subA h | exact absurd rfl c33 | exact absurd rfl c36 | exact absurd (by decide) c40
   ·refine AL.go (AO.pickT rfl rfl rfl (AL.go (AO.move rfl rfl (AL.no rfl rfl rfl rfl (AL.no rfl rfl rfl rfl (AL.go (AO.pickF rfl rfl rfl (AL.go (AO.assign rfl rfl ?_)))))))))
    refine AL.nil (AK.seqN (AC.ret ?_))
    first | exact AK.ret (L' := L) (F' := F) Tryz.results11 rfl subA h | exact absurd rfl c33 | exact absurd rfl c36 | exact absurd (by decide) c40
  ·refine AL.go (AO.move rfl rfl (AL.no rfl rfl rfl rfl (AL.no rfl rfl rfl rfl (AL.go (AO.pickF rfl rfl rfl (AL.go (AO.move rfl rfl (AL.no rfl rfl rfl rfl ?_))))))))
   refine AL.no rfl rfl rfl rfl (AL.go (AO.pickF rfl rfl rfl (AL.go (AO.assign rfl rfl (AL.nil (AK.seqN (AC.ret ?_)))))))
   first | exact AK.ret (L' := L) (F' := F) Tryz.results11 rfl subA h | exact absurd rfl c33 | exact absurd rfl c36 | exact absurd (by decide) c40
end
end Go.Sy
namespace Go.Sy
open Go Go.Proofs
theorem kind_at {N : List Ty} {p : Nat} (hp : p < N.length) : kindAt N (p : Int) = N[p].kind := kind_get rfl hp
theorem kind_pre {N M : List Ty} (h : N <+: M) {p : Nat} (hp : p < N.length) : kindAt M (p : Int) = kindAt N (p : Int) := by
  rw [kind_at hp, kind_at (Nat.lt_of_lt_of_le hp h.length_le), get_pre h hp]
theorem subs_kind {N : List Ty} {args : List Int} {p q : Nat} (h : SubS N args p q) (h9 : kindAt N (p : Int) ≠ 9) : kindAt N (q : Int) = kindAt N (p : Int) := by
  cases h with
  | stay hp _ => rfl
  | param hp h _ => rw [kind_at hp] at h9; exact absurd h h9
  | made g hp _ _ _ _ hq hN => rw [kind_at hp, kind_at hq, hN, norm_kind]; rfl
open Classical in
theorem put_add {out : List Ty} {ins : List Int} {t m : Ty} (hm : m = normT out.length t) (hr : rightP out) {l' : List Ty} {i e : Int} (hP : AddP out m l' i e) :
    putS out ins t = if t.kind = 7 ∧ oddP out t then .error 11 else if e = 0 then .ok (l', ins ++ [i]) else .error e := by
  subst hm
  unfold putS
  by_cases c : t.kind = 7 ∧ oddP out t
  · rw [if_pos c, if_pos c]
  · rw [if_neg c, if_neg c]
    unfold normT at hP
    rw [addF_is hr hP]
theorem put_mem {out : List Ty} {ins : List Int} {t : Ty} (hr : rightP out) {o : List Ty} {ins2 : List Int} (h : putS out ins t = .ok (o, ins2)) : ∀ x ∈ o, x ∈ out ∨ x = normT out.length t := by
  obtain ⟨m, i, e, hP⟩ := add_has out (normT out.length t)
  rw [put_add rfl hr hP] at h
  split at h
  · cases h
  · split at h
    · rename_i he
      injection h with h; injection h with h h'
      subst h
      rcases hP with ⟨q, hq, h1, h2, h3, h4⟩ | ⟨n, ⟨_, h2, _, h4⟩ | ⟨_, _, h2, _, h4⟩ | ⟨hm, hl, h2, h3, h4⟩⟩
      · subst h2; exact fun x hx => .inl hx
      · omega
      · omega
      · subst h2
        intro x hx
        rcases List.mem_append.1 hx with h | h
        · exact .inl h
        · exact .inr (by simpa using h)
    · cases h
theorem put_not1 {out : List Ty} {ins : List Int} {t : Ty} (hr : rightP out) (hm : (t.kind = 7 → ¬ oddP out t) → madeP out (normT out.length t)) {e : Int} (h : putS out ins t = .error e) : e ≠ 1 := by
  obtain ⟨m, i, e2, hP⟩ := add_has out (normT out.length t)
  rw [put_add rfl hr hP] at h
  split at h
  · injection h with h; omega
  · rename_i c
    have hmade := hm (fun h7 ho => c ⟨h7, ho⟩)
    split at h
    · cases h
    · injection h with h
      subst h
      rcases hP with ⟨q, hq, h1, h2, h3, h4⟩ | ⟨n, ⟨h1, h2, _, h4⟩ | ⟨_, _, h2, _, h4⟩ | ⟨_, hl, h2, h3, h4⟩⟩
      · omega
      · exact absurd hmade h1
      · omega
      · omega
theorem zips_mapK (ins : List Int) (t : Ty) : zips (mapK ins t) = (zips t).map fun z => (z.1, ins.getD z.2.toNat 0) := by
  unfold zips mapK; simp only; rw [List.zip_map_right]; rfl
theorem declsR_all {ds : List Tm} (h : ∀ z ∈ ds, ¬ markP z.1) : declsR ds = ds := by
  unfold declsR
  rw [List.filter_eq_self]
  intro z hz
  simpa using h z hz
theorem elems_sub {l out : List Ty} {t : Ty} {ins : List Int} (hE : elemsP l t) (hK : ∀ k ∈ t.kids, kindAt l k = 5 → kindAt out (ins.getD k.toNat 0) = 5) (ho : ¬ oddP out (mapK ins t)) : elemsP out (termsT out.length (mapK ins t)) := by
  obtain ⟨hlen, hn0, hn3, hall⟩ := hE
  obtain ⟨ds, ms, hz, hd, hm, _⟩ := elems_parts (l := l) ⟨hlen, hn0, hn3, hall⟩
  have hzl := zips_kids hlen
  generalize hf : (fun z : Tm => (z.1, ins.getD z.2.toNat 0)) = f
  have hdz : declsR (zips (mapK ins t)) = ds.map f := by
    rw [zips_mapK, hf, hz, List.map_append, declsR_app, declsR_all (fun z hz => ?_), declsR_marks (fun z hz => ?_), List.append_nil]
    · obtain ⟨x, hx, rfl⟩ := List.mem_map.1 hz
      subst hf; exact hm x hx
    · obtain ⟨x, hx, rfl⟩ := List.mem_map.1 hz
      subst hf; exact hd x hx
  have hdl : ds.length ≤ t.words.length := by
    have : (zips t).length = ds.length + ms.length := by rw [hz, List.length_append]
    omega
  have hdg : ∀ j (hj : j < ds.length), ds[j] = (t.words[j]'(by omega), t.kids[j]'(by omega)) := by
    intro j hj
    have h1 : (zips t)[j]'(by omega) = ds[j] := by
      simp only [hz]; rw [List.getElem_append_left hj]
    rw [← h1]; simp [zips]
  refine ⟨by simp [termsT], hn0, hn3, ?_⟩
  intro i hi
  generalize hD : declsR (zips (mapK ins t)) ++ termsR out.length (zips (mapK ins t)) = D
  have hTw : (termsT out.length (mapK ins t)).words = D.map (·.1) := by unfold termsT; simp only [hD]
  have hTk : (termsT out.length (mapK ins t)).kids = D.map (·.2) := by unfold termsT; simp only [hD]
  have hTn : (termsT out.length (mapK ins t)).n = t.n := rfl
  have hiD : i < D.length := by rw [hTw, List.length_map] at hi; exact hi
  have hw : (termsT out.length (mapK ins t)).words[i] = D[i].1 := by simp only [hTw, List.getElem_map]
  have hk : kidAt (termsT out.length (mapK ins t)) i = D[i].2 := by
    unfold kidAt; rw [hTk, getD_eq _ (by rw [List.length_map]; exact hiD), List.getElem_map]
  have hwp : 0 < i → (termsT out.length (mapK ins t)).words.getD (i - 1) [] = (D[i - 1]'(by omega)).1 := fun h0 => by
    rw [hTw, getD_eq _ (by rw [List.length_map]; omega), List.getElem_map]
  have hkp : 0 < i → kidAt (termsT out.length (mapK ins t)) (i - 1) = (D[i - 1]'(by omega)).2 := fun h0 => by
    unfold kidAt; rw [hTk, getD_eq _ (by rw [List.length_map]; omega), List.getElem_map]
  have hDd : ∀ j (hj : j < ds.length), D[j]'(by rw [← hD, List.length_append, hdz, List.length_map]; omega) = f ds[j] := by
    intro j hj
    simp only [← hD]
    rw [List.getElem_append_left (by rw [hdz, List.length_map]; exact hj)]
    simp only [hdz, List.getElem_map]
  have hDm : ∀ j (hj : j < D.length), ds.length ≤ j → ∃ h : j - ds.length < (termsR out.length (zips (mapK ins t))).length, D[j] = (termsR out.length (zips (mapK ins t)))[j - ds.length] := by
    intro j hj hge
    have hl9 : (declsR (zips (mapK ins t))).length = ds.length := by rw [hdz, List.length_map]
    have hl8 : D.length = ds.length + (termsR out.length (zips (mapK ins t))).length := by rw [← hD, List.length_append, hl9]
    refine ⟨by omega, ?_⟩
    simp only [← hD]
    rw [List.getElem_append_right (by omega)]
    simp only [hl9]
  unfold elemAtP
  rw [hw, hk]
  by_cases c : i < ds.length
  · right
    have hEi := hall i (by omega)
    have hdi := hd _ (List.getElem_mem c)
    rw [hdg i c] at hdi
    have hki : kidAt t i = t.kids[i]'(by omega) := by unfold kidAt; exact getD_eq _ _
    rcases hEi with h | ⟨h1, h2, h3, h4⟩
    · exact absurd h.1 hdi
    · rw [hDd i c, hdg i c]
      subst hf
      simp only
      rw [hki] at h3
      refine ⟨h1, h2, hK _ (List.getElem_mem _) h3, fun h0 => ?_⟩
      rw [hwp h0, hDd (i - 1) (by omega), hdg (i - 1) (by omega)]
      have := h4 h0
      rw [getD_eq _ (by omega)] at this
      exact this
  · left
    obtain ⟨hx, hDi⟩ := hDm i hiD (by omega)
    have hzm : D[i] ∈ termsR out.length (zips (mapK ins t)) := hDi ▸ List.getElem_mem hx
    have hmk := termsR_mark hzm
    obtain ⟨e1, e2, e3, e4⟩ := (termsR_mem _ _ _).1 hzm
    obtain ⟨z0, hz0, hm0, hk0⟩ := markOf_kid _ _ (by rw [← e1]; exact e2)
    have hodd : ¬ (kindAt out D[i].2 = 7 ∨ kindAt out D[i].2 = 9 ∨ (14 ≤ D[i].2 ∧ D[i].2 ≤ 19)) := fun h => ho ⟨z0, hz0, hm0, by rw [hk0]; exact h⟩
    have hn2 : 2 ≤ t.n := by
      rw [zips_mapK] at hz0
      obtain ⟨y, hy, rfl⟩ := List.mem_map.1 hz0
      obtain ⟨j, hj, rfl⟩ := List.getElem_of_mem hy
      have hg : (zips t)[j].1 = t.words[j]'(by omega) := by simp [zips]
      rcases hall j (by omega) with h | h
      · exact h.2.1
      · simp only [hg] at hm0; exact absurd hm0 h.1
    refine ⟨hmk, hn2, fun h => hodd (.inl h), fun h => hodd (.inr (.inl h)), fun h => hodd (.inr (.inr h)), fun h0 hmp => ?_⟩
    rw [hwp h0] at hmp
    rw [hkp h0]
    by_cases c2 : i - 1 < ds.length
    · rw [hDd _ c2] at hmp
      subst hf
      exact absurd hmp (hd ds[i - 1] (List.getElem_mem c2))
    · obtain ⟨hx2, hDp⟩ := hDm (i - 1) (by omega) (by omega)
      rw [hDi, hDp]
      exact List.pairwise_iff_getElem.1 (termsR_sorted out.length (zips (mapK ins t))) _ _ hx2 hx (by omega)
theorem made_sub {l out : List Ty} {t : Ty} {ins : List Int} (hM : madeP l t) (h9 : t.kind ≠ 9) (hin : ∀ k ∈ t.kids, 0 ≤ ins.getD k.toNat 0 ∧ ins.getD k.toNat 0 < out.length) (hK : ∀ k ∈ t.kids, kindAt l k = 5 → kindAt out (ins.getD k.toNat 0) = 5) (ho : t.kind = 7 → ¬ oddP out (mapK ins t)) :
    madeP out (normT out.length (mapK ins t)) := by
  obtain ⟨hkids, h16, hname, hwords, hm⟩ := hM
  have hmk : ∀ k ∈ (mapK ins t).kids, 0 ≤ k ∧ k < out.length := by
    intro k hk
    obtain ⟨x, hx, rfl⟩ := List.mem_map.1 hk
    exact hin x hx
  have hml : (mapK ins t).kids.length = t.kids.length := by simp [mapK]
  by_cases h7 : t.kind = 7
  · have hE := (madeK_7 h7).1 hm
    have hn : normT out.length (mapK ins t) = termsT out.length (mapK ins t) := by unfold normT; rw [if_pos (show (mapK ins t).kind = 7 from h7)]
    have hwl : (mapK ins t).words.length = (mapK ins t).kids.length := by rw [hml]; exact hE.1
    rw [hn]
    refine ⟨fun k hk => ?_, by have := (termsT_len hwl hmk).1; omega, fun _ => rfl, fun _ e => absurd h7 e, (madeK_7 (show (termsT out.length (mapK ins t)).kind = 7 from h7)).2 (elems_sub hE hK (ho h7))⟩
    have := (terms_kids hwl hmk k).1 hk
    exact hmk k this
  · have hn : normT out.length (mapK ins t) = mapK ins t := by unfold normT; rw [if_neg (show ¬ (mapK ins t).kind = 7 from h7)]
    rw [hn]
    refine ⟨hmk, by omega, hname, hwords, ?_⟩
    unfold madeK at hm ⊢
    simp only [mapK, List.length_map] at hm ⊢
    rcases hm with h | h | h | h | h | h | h | h | h
    · exact .inl h
    · exact .inr (.inl h)
    · exact .inr (.inr (.inl h))
    · exact .inr (.inr (.inr (.inl h)))
    · exact .inr (.inr (.inr (.inr (.inl h))))
    · exact .inr (.inr (.inr (.inr (.inr (.inl h)))))
    · exact absurd h.1 h7
    · exact .inr (.inr (.inr (.inr (.inr (.inr (.inr (.inl h)))))))
    · exact absurd h.1 h9
section
variable {l : List Ty} {args : List Int} {i : Nat}
theorem ask_start {l : List Ty} (hr : rightP l) {q : Nat} (hq : q < l.length) (h22 : q < 22) : askAt l q = 0 := by
  have h := hr.2.2 q hq
  unfold rowAt at h
  rw [if_pos h22] at h
  have hql : q < startL.length := by rw [start_len]; exact h22
  rw [start_get hql] at h
  obtain ⟨h1, _, h3, _⟩ := start_plain _ (List.getElem_mem hql)
  rw [ask_one hq, h]
  unfold ask1 ask0
  rw [h1, if_neg h3]; rfl
theorem right_made {l : List Ty} (hr : rightP l) {q : Nat} (hq : q < l.length) (h : askAt l q ≠ 0) : madeP (l.take q) l[q] := by
  have h2 := hr.2.2 q hq
  unfold rowAt at h2
  by_cases c : q < 22
  · exact absurd (ask_start hr hq c) h
  · rw [if_neg c] at h2; exact h2.1
theorem sub_made (hr : rightP l) (hi : i < l.length) (hgood : ∀ a ∈ args, 0 ≤ a ∧ a < l.length) (hlen : (asksL (l.take (i + 1))).getD i 0 ≤ args.length) {q : Nat} (hq : q < i + 1) {out : List Ty} {ins : List Int} (hs : subN l args (asksL (l.take (i + 1))) (partsL l i) q = .ok (out, ins))
    (hM : (partsL l i).getD q false = true) (hA : (asksL (l.take (i + 1))).getD q 0 ≠ 0) (hql : q < l.length) (h9 : l[q].kind ≠ 9) : ((mapK ins l[q]).kind = 7 → ¬ oddP out (mapK ins l[q])) → madeP out (normT out.length (mapK ins l[q])) := by
  intro ho
  obtain ⟨hso, hS⟩ := sub_sound hr hi hgood hlen q (by omega) out ins hs
  have hmade := right_made hr hql (by rw [← ask_in hi (by omega)]; exact hA)
  have hrt := rt_of_right hr hql
  have hol := hso.pre.length_le
  refine made_sub hmade h9 (fun k hk => ?_) (fun k hk h5 => ?_) ho
  · have := hrt.kids k hk
    exact hso.ins k.toNat (by omega)
  · have hb := hrt.kids k hk
    have hkl : k.toNat < l.length := by omega
    have e : ((k.toNat : Nat) : Int) = k := by omega
    have hSk := hS k.toNat (by omega) (parts_kid hr hi (by omega) hM hk)
    have h5' : kindAt out ((k.toNat : Nat) : Int) = 5 := by
      rw [kind_pre hso.pre hkl, e, ← h5]
      unfold kindAt
      rw [List.getElem?_take_of_lt (by omega)]
    have hin := hso.ins k.toNat (by omega)
    have := subs_kind hSk (by rw [h5']; decide)
    rw [h5'] at this
    have e2 : (((ins.getD k.toNat 0).toNat : Nat) : Int) = ins.getD k.toNat 0 := by omega
    rwa [e2] at this
theorem sub_not1 (hr : rightP l) (hi : i < l.length) (hgood : ∀ a ∈ args, 0 ≤ a ∧ a < l.length) (hlen : (asksL (l.take (i + 1))).getD i 0 ≤ args.length) {e : Int} : ∀ q, q ≤ i + 1 → subN l args (asksL (l.take (i + 1))) (partsL l i) q = .error e → e ≠ 1
  | 0, _, h => by cases h
  | q + 1, hq, h => by
    cases hs : subN l args (asksL (l.take (i + 1))) (partsL l i) q with
    | error e2 =>
      rw [subN, hs] at h
      injection h with h
      subst h
      exact sub_not1 hr hi hgood hlen q (by omega) hs
    | ok x =>
      obtain ⟨out, ins⟩ := x
      obtain ⟨hso, _⟩ := sub_sound hr hi hgood hlen q (by omega) out ins hs
      have hql : q < l.length := by omega
      by_cases c : (partsL l i).getD q false = false ∨ (asksL (l.take (i + 1))).getD q 0 = 0
      · rw [sub_out hs c] at h; cases h
      · have hM1 : (partsL l i).getD q false = true := by
          cases hx : (partsL l i).getD q false
          · exact absurd (.inl hx) c
          · rfl
        have hA : (asksL (l.take (i + 1))).getD q 0 ≠ 0 := fun h0 => c (.inr h0)
        by_cases h9 : l[q].kind = 9
        · rw [sub_param hs hM1 hA hql h9] at h; cases h
        · rw [sub_put hs hM1 hA hql h9] at h
          exact put_not1 hso.right (sub_made hr hi hgood hlen (by omega) hs hM1 hA hql h9) h
theorem subR_not1 (hr : rightP l) (hi : i < l.length) (hb : ¬ badArgs l i args) {e : Int} (h : subR l i args = .error e) : e ≠ 1 := by
  obtain ⟨hgood, hlen⟩ := good_args hb
  cases hs : subN l args (asksL (l.take (i + 1))) (partsL l i) (i + 1) with
  | error e2 =>
    rw [subR_error hb (Nat.le_refl _) hs] at h
    injection h with h
    subst h
    exact sub_not1 hr hi hgood hlen (i + 1) (Nat.le_refl _) hs
  | ok x => obtain ⟨out, ins⟩ := x; rw [subR_ok hb hs] at h; cases h
theorem fits_sub {N : List Nmd} {t : Ty} (ins : List Int) (m : Nat) (h : fitsU N t) : fitsU N (normT m (mapK ins t)) := by
  intro h8
  rw [norm_kind] at h8
  have hn : normT m (mapK ins t) = mapK ins t := by unfold normT; rw [if_neg (by rw [h8]; decide)]
  rw [hn]
  obtain ⟨j, h1, h2⟩ := h h8
  exact ⟨j, h1, by rw [h2]; simp [mapK]⟩
theorem sub_fits {N : List Nmd} (hr : rightP l) (hi : i < l.length) (hgood : ∀ a ∈ args, 0 ≤ a ∧ a < l.length) (hlen : (asksL (l.take (i + 1))).getD i 0 ≤ args.length) (hf : ∀ t ∈ l, fitsU N t) : ∀ q, q ≤ i + 1 → ∀ out ins, subN l args (asksL (l.take (i + 1))) (partsL l i) q = .ok (out, ins) → ∀ t ∈ out, fitsU N t
  | 0, _, out, ins, h => by
    injection h with h; injection h with h h'
    subst h; exact hf
  | q + 1, hq, out2, ins2, h => by
    cases hs : subN l args (asksL (l.take (i + 1))) (partsL l i) q with
    | error e => rw [subN, hs] at h; cases h
    | ok x =>
      obtain ⟨out, ins⟩ := x
      have ih := sub_fits hr hi hgood hlen hf q (by omega) out ins hs
      obtain ⟨hso, _⟩ := sub_sound hr hi hgood hlen q (by omega) out ins hs
      have hql : q < l.length := by omega
      by_cases c : (partsL l i).getD q false = false ∨ (asksL (l.take (i + 1))).getD q 0 = 0
      · rw [sub_out hs c] at h
        injection h with h; injection h with h h'
        subst h; exact ih
      · have hM1 : (partsL l i).getD q false = true := by
          cases hx : (partsL l i).getD q false
          · exact absurd (.inl hx) c
          · rfl
        have hA : (asksL (l.take (i + 1))).getD q 0 ≠ 0 := fun h0 => c (.inr h0)
        by_cases h9 : l[q].kind = 9
        · rw [sub_param hs hM1 hA hql h9] at h
          injection h with h; injection h with h h'
          subst h; exact ih
        · rw [sub_put hs hM1 hA hql h9] at h
          intro t ht
          rcases put_mem hso.right h t ht with e | e
          · exact ih t e
          · rw [e]; exact fits_sub ins _ (hf _ (List.getElem_mem hql))
theorem subR_fits {N : List Nmd} (hr : rightP l) (hi : i < l.length) (hf : ∀ t ∈ l, fitsU N t) {o : List Ty} {q : Int} (h : subR l i args = .ok (o, q)) : ∀ t ∈ o, fitsU N t := by
  by_cases hb : badArgs l i args
  · rw [subR_bad hb] at h; cases h
  · obtain ⟨hgood, hlen⟩ := good_args hb
    cases hs : subN l args (asksL (l.take (i + 1))) (partsL l i) (i + 1) with
    | error e => rw [subR_error hb (Nat.le_refl _) hs] at h; cases h
    | ok x =>
      obtain ⟨out, ins⟩ := x
      rw [subR_ok hb hs] at h
      injection h with h; injection h with h h'
      subst h
      exact sub_fits hr hi hgood hlen hf (i + 1) (Nat.le_refl _) out ins hs
end
theorem isK_pre {N M : List Ty} (h : N <+: M) {i x : Int} (h0 : 0 ≤ i) (hi : i < N.length) : isK M i x ↔ isK N i x := by
  have hl := h.length_le
  obtain ⟨n, rfl⟩ : ∃ n : Nat, i = (n : Int) := ⟨i.toNat, by omega⟩
  unfold isK
  rw [kind_pre h (by omega)]
  constructor
  · rintro ⟨a, b, c⟩; exact ⟨a, hi, c⟩
  · rintro ⟨a, b, c⟩; exact ⟨a, by omega, c⟩
theorem isK_up {N M : List Ty} (h : N <+: M) {i x : Int} (hk : isK N i x) : isK M i x := (isK_pre h hk.1 hk.2.1).2 hk
theorem few_up {N M : List Ty} (h : N <+: M) {i x : Int} (hk : fewA N i x) : fewA M i x := by
  have hl := h.length_le
  obtain ⟨h1, h2, h3⟩ := hk
  exact ⟨h1, by omega, by rw [ask_pre h (by omega)]; exact h3⟩
theorem named_up {T M : List Ty} (h : T <+: M) {n : Nmd} (hn : namedU T n) : namedU M n := by
  obtain ⟨h1, ⟨h2, h3⟩, ⟨h4, h5, h6, h7⟩, h8, h9, h10⟩ := hn
  have hu := h4
  refine ⟨h1, ⟨h2, fun b hb => ⟨isK_up h (h3 b hb).1, few_up h (h3 b hb).2⟩⟩, ⟨few_up h h4, fun e => h5 ((isK_pre h hu.1 hu.2.1).1 e), fun e => h6 ((isK_pre h hu.1 hu.2.1).1 e), h7⟩, h8, fun i hi => ?_, fun hne => ⟨fun e => (h10 hne).1 ((isK_pre h hu.1 hu.2.1).1 e), fun e => (h10 hne).2 ((isK_pre h hu.1 hu.2.1).1 e)⟩⟩
  obtain ⟨a, b, c, d⟩ := h9 i hi
  exact ⟨a, isK_up h b, few_up h c, d⟩
theorem rightU_up {T M : List Ty} {N : List Nmd} (h : T <+: M) (hu : rightU T N) (hr : rightP M) (hf : ∀ t ∈ M, fitsU N t) : rightU M N :=
  ⟨hr, hu.2.1, fun i hi => ⟨named_up h (hu.2.2.1 i hi).1, (hu.2.2.1 i hi).2⟩, hf⟩
theorem rightU_snoc {T : List Ty} {N : List Nmd} (hu : rightU T N) {t : Ty} (hn : t ∉ T) (hm : madeP T t) (hl : T.length < 400) (hf : fitsU N t) : rightU (T ++ [t]) N := by
  refine rightU_up (List.prefix_append _ _) hu (right_snoc hu.1 hn hm hl) (fun x hx => ?_)
  rcases List.mem_append.1 hx with h | h
  · exact hu.2.2.2 x h
  · have : x = t := by simpa using h
    subst this; exact hf
theorem rightU_sub {T : List Ty} {N : List Nmd} (hu : rightU T N) {u : Nat} (hul : u < T.length) {args : List Int} {o : List Ty} {q : Int} (h : subR T u args = .ok (o, q)) : rightU o N ∧ T <+: o ∧ 0 ≤ q ∧ q < o.length ∧ SubS o args u q.toNat := by
  obtain ⟨_, h1, h2, h3, h4, h5⟩ := subR_sound hu.1 hul h
  exact ⟨rightU_up h2 hu h1 (subR_fits hu.1 hul hu.2.2.2 h), h2, h3, h4, h5⟩
theorem args_good {T M : List Ty} {N : List Nmd} (hu : rightU T N) (hp : T <+: M) {n : Nat} (hn : n < T.length) (h8 : T[n].kind = 8) {j : Nat} (hj : j < N.length) (hat : atN N T[n].name = some j) {u : Nat} (hul : u < T.length) (hask : askAt T u ≤ N[j].bounds.length) : ¬ badArgs M u T[n].kids := by
  have hl := hp.length_le
  obtain ⟨i, hi, hb⟩ := hu.2.2.2 _ (List.getElem_mem hn) h8
  rw [hat] at hi
  injection hi with hi
  subst hi
  rw [getD_eq default hj] at hb
  refine not_bad (fun a ha => ?_) ?_
  · have := (rt_of_right hu.1 hn).kids a ha
    omega
  · rw [ask_in (by omega) (Nat.le_refl _), ask_pre hp hul]
    omega
end Go.Sy
