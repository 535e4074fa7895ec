/- Joined of my own texts: UnC, UnD, SubI, SubJ, UnE, SubL. -/
import Derived.Test.YtinolpaapcpijaaGreatDoorJ16
namespace Go.Sy
open Go Go.Proofs Go.RowKit
structure NmOk (n : Nmd) : Prop where
  name : n.name.length ≤ 1048576
  meth : ∀ m ∈ n.methods, m.name.length ≤ 1048576
attribute [local irreducible] AC AT AO AK AH ACalls Sub Res.cells Res.nix Res.own Res.map Exit.then Exit.inBlock bodyPost Code.wp Next Post Kont
section
variable {W0 : World} {L : List Res} {F : List Fact} {R : Value → List Res → List Fact → Prop}
set_option maxRecDepth 100000
set_option maxHeartbeats 16000000
theorem containsFuncT_c (l : List Ty) (hok0 : ∀ t ∈ l, TyOk t) {a : Option Addr} {k c : Nat} (m1 : fL l a k c ∈ F) (g : FuncId) [FnT Tryz.prog g] (cs : List Value) (p : Ty → Prop) (hg : TellsT W0 L F g cs p)
    (hT : (¬ ∀ j (hj : j < l.length), ¬ p l[j]) → R (.bool true) L F) (hF : (∀ j (hj : j < l.length), ¬ p l[j]) → R (.bool false) L F) : ACalls Tryz.prog W0 47 #[.slice a k c, .func (.func g) #[] cs.toArray] L F R := by
  refine ACalls.body Tryz.func47 rfl Tryz.ntmps47 rfl ?_
  refine AC.seq (AC.region (AL.go (AO.assign rfl rfl (AL.nil (AK.seqN (AC.seq ?_))))))
  refine AC.region (AL.go (AO.move rfl rfl (AL.go (AO.move rfl rfl ?_))))
  refine AL.go (AO.call rfl rfl (indexFuncT_c l hok0 m1 g cs p hg (fun j7 hj7 c7 => ?_) (fun c7 => ?_)))
  ·refine AL.go (AO.geq rfl rfl rfl (fun c8 => ?_) (fun c8 => absurd c8 (by omega)))
   refine AL.go (AO.assign rfl rfl (AL.nil (AK.seqN (AC.ret ?_))))
   first | exact AK.ret (L' := L) (F' := F) Tryz.results47 rfl subF (hT (fun e => e j7 hj7 c7)) | exact AK.ret (L' := L) (F' := F) Tryz.results47 rfl subF (hF c7)
  ·refine AL.go (AO.geq rfl rfl rfl (fun c8 => absurd c8 (by omega)) (fun c8 => ?_))
   refine AL.go (AO.assign rfl rfl (AL.nil (AK.seqN (AC.ret ?_))))
   first | exact AK.ret (L' := L) (F' := F) Tryz.results47 rfl subF (hT (fun e => e j7 hj7 c7)) | exact AK.ret (L' := L) (F' := F) Tryz.results47 rfl subF (hF c7)
theorem uright1_c (N : List Nmd) (t : Ty) {b j : Nat} {e : TypeId} {a a2 a3 a4 : Option Addr} {k c k2 c2 k3 c3 k4 c4 : Nat} (m2 : fN N a2 k2 c2 ∈ F) (m4 : fK t a4 k4 c4 ∈ F) (hj : L[j]? = some (Res.cells b #[.slice a k c, .slice a2 k2 c2] e))
    (hT : ¬ fitsU N t → R (.bool true) L F) (hF : ¬ ¬ fitsU N t → R (.bool false) L F) : ACalls Tryz.prog W0 48 #[vTy t a3 k3 c3 a4 k4 c4, .pointer (some ⟨b, 0, none⟩)] L F R := by
  refine ACalls.body Tryz.func48 rfl Tryz.ntmps48 rfl ?_
  refine AC.seq (AC.region (AL.go (AO.box rfl rfl (fun b2 => ?_))))
  refine AL.go (AO.assign rfl rfl (AL.nil (AK.seqN (AC.seq (AC.region ?_)))))
  refine AL.go (AO.loadBA (cs := [.slice a k c, .slice a2 k2 c2]) rfl rfl ?_ (i := j + 1) (hi := hj))
  refine AL.go (AO.loadBA rfl rfl ?_)
  refine AL.go (AO.call rfl rfl (fits_c N t memA memA (fun c6 => ?_) (fun c6 => ?_)))
  ·refine AL.go (AO.not rfl rfl (AL.go (AO.assign rfl rfl (AL.nil (AK.seqN (AC.ret ?_))))))
   first | exact AK.ret (L' := L) (F' := F) Tryz.results48 rfl subA (hF (fun e => e c6)) | exact AK.ret (L' := L) (F' := F) Tryz.results48 rfl subA (hT c6)
  ·refine AL.go (AO.not rfl rfl (AL.go (AO.assign rfl rfl (AL.nil (AK.seqN (AC.ret ?_))))))
   first | exact AK.ret (L' := L) (F' := F) Tryz.results48 rfl subA (hF (fun e => e c6)) | exact AK.ret (L' := L) (F' := F) Tryz.results48 rfl subA (hT c6)
theorem uright_c (g : Glob W0) (T : List Ty) (N : List Nmd) (hok : ∀ t ∈ T, TyOk t) (hno : ∀ n ∈ N, NmOk n) {a a2 : Option Addr} {k c k2 c2 : Nat} (mL : fL T a k c ∈ F) (mN : fN N a2 k2 c2 ∈ F)
    (hT : rightU T N → R (.bool true) L F) (hF : ¬ rightU T N → R (.bool false) L F) : ACalls Tryz.prog W0 10 #[.agg #[.slice a k c, .slice a2 k2 c2]] L F R := by
  refine ACalls.body Tryz.func10 rfl Tryz.ntmps10 rfl ?_
  refine AC.seq (AC.region (AL.go (AO.box rfl rfl (fun b1 => ?_))))
  refine AL.go (AO.assign rfl rfl (AL.nil (AK.seqN (AC.seq (AC.seq (AC.region ?_))))))
  refine AL.go (AO.field rfl rfl ?_)
  refine AL.go (AO.loadB rfl rfl ?_)
  refine AL.go (AO.call rfl rfl (right_c g T hok mL (fun c8 => ?_) (fun c8 => ?_)))
  ·refine AL.go (AO.not rfl rfl (AL.go (AO.move rfl rfl (AL.yes rfl rfl (AO.field rfl rfl ?_)))))
   refine AL.yes rfl rfl (AO.loadB rfl rfl ?_)
   refine AL.yes rfl rfl (AO.len rfl rfl (fun hl13 => ?_) (enc := eNm) (lst := N) (hm := mN))
   refine AL.yes rfl rfl (AO.gtr rfl rfl rfl (fun c14 => ?_) (fun c14 => ?_))
   ·refine AL.go (AO.pickF rfl rfl rfl (AL.nil (AK.seqN (AC.condT rfl (AC.seq (AC.region ?_))))))
    refine AL.go (AO.assign rfl rfl (AL.nil (AK.seqN (AC.ret (AK.seqR ?_)))))
    exact AK.ret (L' := L) (F' := F) Tryz.results10 rfl subA (hF (fun e => absurd e.2.1 (by omega)))
   ·refine AL.go (AO.pickF rfl rfl rfl (AL.nil (AK.seqN (AC.condF rfl (AC.skip (AK.seqN ?_))))))
    refine AC.seq (AC.region (AL.go (AO.field rfl rfl ?_)))
    refine AL.go (AO.loadB rfl rfl ?_)
    refine AL.go (AO.call rfl rfl (uasks_c T c8 mL (fun a18 k18 z18 => ?_)))
    refine AL.go (AO.assign rfl rfl (AL.nil (AK.seqN (AC.seq (AC.seq (AC.region ?_))))))
    refine AL.go (AO.field rfl rfl ?_)
    refine AL.go (AO.loadB rfl rfl ?_)
    refine AL.go (AO.len rfl rfl (fun hl21 => ?_) (enc := eNm) (lst := N) (hm := memA))
    refine AL.go (AO.move rfl rfl (AL.nil (AK.seqN (AC.block ?_))))
    refine AC.loop (fun (q : Nat) => q ≤ N.length ∧ ∀ j (hj : j < N.length), j < q → nameAt T N j hj) (fun q => [(1, .pointer (some ⟨b1, 0, none⟩)), (3, .slice a18 k18 z18), (20, .slice a2 k2 c2), (21, .int .i64 N.length), (22, .int .i64 (q : Int))]) (fun _ => _) (fun _ => _) (fun q => N.length - q) 0 ⟨Nat.zero_le _, by omega⟩ srA (Sub.refl _ _) ?_
    rintro q ⟨hq, hin⟩
    refine AC.seq (AC.region ?_)
    refine AL.go (AO.lss rfl rfl rfl (fun c23 => ?_) (fun c23 => ?_))
    ·refine AL.nil (AK.seqN (AC.seq (AC.condT rfl (AC.skip (AK.seqN ?_)))))
     refine AC.seq (AC.block (AC.seq (AC.region (AL.go (AO.move rfl rfl ?_)))))
     have hql : q < N.length := by omega
     refine AL.go (AO.indexAddr rfl rfl rfl rfl (enc := eNm) (lst := N) memA hql (fun _ _ => ?_))
     refine AL.go (AO.loadFA rfl rfl ?_)
     intro a26 k26 z26 d26 e26 f26
     refine AL.go (AO.alloc rfl (fun b5 => ?_))
     refine AL.go (AO.assign rfl rfl ?_)
     refine AL.go (AO.storeBA rfl rfl rfl rfl ?_)
     refine AL.nil (AK.seqN (AC.seq ?_))
     refine AC.draw (fun _ => false) [(b5, _, _), (b1, _, _)] bxA rfl (fun hx hX => ?_)
     have hk2 := (len_of_fact (hX (fN N a2 k2 c2) memA)).1
     obtain ⟨p1, o1, e1, at1⟩ := row_of_fact (hX (fN N a2 k2 c2) memA) hql
     cases e1
     cases hk2
     refine AH.takeW (i := 0) rfl (Y.field rfl) (by kernel_rfl) rfl rfl ?_
     refine AH.takeS (i := 1) rfl (Y.loadB rfl lmA (by rfl)) (by kernel_rfl) (by kernel_rfl) rfl rfl rfl ?_
     refine AH.one (i := 2) (by kernel_rfl) rfl rfl (fun _ => ?_)
     refine AO.call rfl rfl (twofold_c g N[q].name (by have := (hno _ (List.getElem_mem hql)).name; omega) (fun c29 => ?_) (fun c29 => ?_))
     all_goals refine AT.held bxA memB ?_
     ·refine AH.takeW (i := 3) rfl (Y.not rfl) (by kernel_rfl) rfl rfl ?_
      refine AH.takeW (i := 4) rfl (Y.move rfl) (by kernel_rfl) rfl rfl ?_
      refine AH.takeW (i := 5) rfl (Y.move rfl) (by kernel_rfl) rfl rfl ?_
      refine AH.takeB (i := 6) rfl (Y.gtr rfl rfl) (by kernel_rfl) rfl rfl (fun c33 => ?_) (fun c33 => ?_)
      ·replace c33 := of_decide_eq_true c33
       refine AH.takeW (i := 7) rfl (Y.move rfl) (by kernel_rfl) rfl rfl ?_
       refine AH.takeW (i := 8) rfl (Y.field rfl) (by kernel_rfl) rfl rfl ?_
       refine AH.takeS (i := 9) rfl (Y.loadB rfl lmA (by rfl)) (by kernel_rfl) (by kernel_rfl) rfl rfl rfl ?_
       refine AH.takeW (i := 10) rfl (Y.move rfl) (by kernel_rfl) rfl rfl ?_
       refine AH.takeW (i := 11) rfl (Y.sub rfl rfl (by omega) (by omega)) (by kernel_rfl) rfl rfl ?_
       obtain ⟨p2, o2, e2, at2⟩ := row_of_fact (i := q - 1) (hX (fN N (some ⟨p1, o1, none⟩) _ c2) memA) (by omega)
       cases e2
       obtain ⟨w1, x1, y1, w2, x2, y2, hv, hw1, hw2⟩ := nm_cells at2
       have hv2 := hv 0 _ rfl
       refine AH.takeW (i := 12) rfl (Y.indexAddr (k := q - 1) rfl rfl (by omega) (by omega)) (by kernel_rfl) rfl rfl ?_
       refine AH.takeW (i := 13) rfl (Y.field rfl) (by kernel_rfl) rfl rfl ?_
       refine AH.takeS (i := 14) rfl (Y.loadF rfl hv2) (by kernel_rfl) (by kernel_rfl) rfl rfl rfl ?_
       refine AH.takeW (i := 15) rfl (Y.field rfl) (by kernel_rfl) rfl rfl ?_
       refine AH.takeS (i := 16) rfl (Y.loadB rfl lmA (by rfl)) (by kernel_rfl) (by kernel_rfl) rfl rfl rfl ?_
       refine AH.takeB (i := 17) rfl (Y.geqS rfl rfl) (by kernel_rfl) rfl rfl (fun c44 => ?_) (fun c44 => ?_)
       ·refine AH.takeW (i := 18) rfl (Y.pickT rfl rfl) (by kernel_rfl) rfl rfl ?_
        refine AH.takeW (i := 19) rfl (Y.pickF rfl rfl) (by kernel_rfl) rfl rfl ?_
        refine AH.takeW (i := 20) rfl (Y.move rfl) (by kernel_rfl) rfl rfl ?_
        refine AH.skip (i := 21) rfl (by kernel_rfl) rfl rfl ?_
        refine AH.skip (i := 22) rfl (by kernel_rfl) rfl rfl ?_
        refine AH.skip (i := 23) rfl (by kernel_rfl) rfl rfl ?_
        refine AH.skip (i := 24) rfl (by kernel_rfl) rfl rfl ?_
        refine AH.skip (i := 25) rfl (by kernel_rfl) rfl rfl ?_
        refine AH.takeW (i := 26) rfl (Y.pickT rfl rfl) (by kernel_rfl) rfl rfl ?_
        refine AH.takeW (i := 27) rfl (Y.move rfl) (by kernel_rfl) rfl rfl ?_
        refine AH.skip (i := 28) rfl (by kernel_rfl) rfl rfl ?_
        refine AH.skip (i := 29) rfl (by kernel_rfl) rfl rfl ?_
        refine AH.skip (i := 30) rfl (by kernel_rfl) rfl rfl ?_
        refine AH.skip (i := 31) rfl (by kernel_rfl) rfl rfl ?_
        refine AH.skip (i := 32) rfl (by kernel_rfl) rfl rfl ?_
        refine AH.takeW (i := 33) rfl (Y.pickT rfl rfl) (by kernel_rfl) rfl rfl ?_
        refine AH.takeW (i := 34) rfl (Y.move rfl) (by kernel_rfl) rfl rfl ?_
        refine AH.skip (i := 35) rfl (by kernel_rfl) rfl rfl ?_
        refine AH.skip (i := 36) rfl (by kernel_rfl) rfl rfl ?_
        refine AH.skip (i := 37) rfl (by kernel_rfl) rfl rfl ?_
        refine AH.skip (i := 38) rfl (by kernel_rfl) rfl rfl ?_
        refine AH.skip (i := 39) rfl (by kernel_rfl) rfl rfl ?_
        refine AH.takeW (i := 40) rfl (Y.pickT rfl rfl) (by kernel_rfl) rfl rfl ?_
        refine AH.done (by kernel_rfl) ?_
        refine AK.seqN (AC.condT rfl (AC.seq (AC.region (AL.go (AO.assign rfl rfl (AL.nil ?_))))))
        refine AK.seqN (AC.ret (AK.blkR (AK.seqR (AK.seqR (AK.blkR ?_)))))
        refine AK.seqR ?_
        exact AK.ret (L' := L) (F' := F) Tryz.results10 rfl subA (hF (fun e => by have h9 := (e.2.2.1 q hql).2 (by omega); rw [getD_eq default (by omega)] at h9; simp [h9] at c44))
       ·refine AH.takeW (i := 18) rfl (Y.pickT rfl rfl) (by kernel_rfl) rfl rfl ?_
        refine AH.takeW (i := 19) rfl (Y.pickF rfl rfl) (by kernel_rfl) rfl rfl ?_
        refine AH.takeW (i := 20) rfl (Y.move rfl) (by kernel_rfl) rfl rfl ?_
        refine AH.takeS (i := 21) rfl (Y.loadBA rfl lmA (by rfl)) (by kernel_rfl) (by kernel_rfl) rfl rfl rfl ?_
        refine AH.takeW (i := 22) rfl (Y.move rfl) (by kernel_rfl) rfl rfl ?_
        refine AH.takeS (i := 23) rfl (Y.loadBA rfl lmA (by rfl)) (by kernel_rfl) (by kernel_rfl) rfl rfl rfl ?_
        refine AH.one (i := 24) (by kernel_rfl) rfl rfl (fun _ => ?_)
        refine AO.call rfl rfl (bounds_c T N[q] (show fL T a k c ∈ _ from memA) (show fI (asksL T) _ _ _ ∈ _ from memA) (show fBd N[q] _ _ _ ∈ _ from memA) (fun c51 => ?_) (fun c51 => ?_))
        all_goals refine AT.held bxA memB ?_
        ·refine AH.takeW (i := 25) rfl (Y.not rfl) (by kernel_rfl) rfl rfl ?_
         refine AH.takeW (i := 26) rfl (Y.pickF rfl rfl) (by kernel_rfl) rfl rfl ?_
         refine AH.takeW (i := 27) rfl (Y.move rfl) (by kernel_rfl) rfl rfl ?_
         refine AH.takeS (i := 28) rfl (Y.loadBA rfl lmA (by rfl)) (by kernel_rfl) (by kernel_rfl) rfl rfl rfl ?_
         refine AH.takeW (i := 29) rfl (Y.move rfl) (by kernel_rfl) rfl rfl ?_
         refine AH.takeS (i := 30) rfl (Y.loadBA rfl lmA (by rfl)) (by kernel_rfl) (by kernel_rfl) rfl rfl rfl ?_
         refine AH.one (i := 31) (by kernel_rfl) rfl rfl (fun _ => ?_)
         refine AO.call rfl rfl (under_c T N[q] (show fL T a k c ∈ _ from memA) (show fI (asksL T) _ _ _ ∈ _ from memA) (show fBd N[q] _ _ _ ∈ _ from memA) (fun c58 => ?_) (fun c58 => ?_))
         all_goals refine AT.held bxA memB ?_
         ·refine AH.takeW (i := 32) rfl (Y.not rfl) (by kernel_rfl) rfl rfl ?_
          refine AH.takeW (i := 33) rfl (Y.pickF rfl rfl) (by kernel_rfl) rfl rfl ?_
          refine AH.takeW (i := 34) rfl (Y.move rfl) (by kernel_rfl) rfl rfl ?_
          refine AH.takeS (i := 35) rfl (Y.loadBA rfl lmA (by rfl)) (by kernel_rfl) (by kernel_rfl) rfl rfl rfl ?_
          refine AH.takeW (i := 36) rfl (Y.move rfl) (by kernel_rfl) rfl rfl ?_
          refine AH.takeS (i := 37) rfl (Y.loadBA rfl lmA (by rfl)) (by kernel_rfl) (by kernel_rfl) rfl rfl rfl ?_
          refine AH.one (i := 38) (by kernel_rfl) rfl rfl (fun _ => ?_)
          refine AO.call rfl rfl (methods_c T N[q] (show fL T a k c ∈ _ from memA) (show fI (asksL T) _ _ _ ∈ _ from memA) (show fBd N[q] _ _ _ ∈ _ from memA) (show fMs N[q].methods _ _ _ ∈ _ from memA) (fun c65 => ?_) (fun c65 => ?_))
          all_goals refine AT.held bxA memB ?_
          ·refine AH.takeW (i := 39) rfl (Y.not rfl) (by kernel_rfl) rfl rfl ?_
           refine AH.takeW (i := 40) rfl (Y.pickF rfl rfl) (by kernel_rfl) rfl rfl ?_
           refine AH.done (by kernel_rfl) ?_
           refine AK.seqN (AC.condF rfl (AC.skip (AK.blkN (AK.seqN (AC.region ?_)))))
           refine AL.go (AO.add rfl rfl rfl (by omega) (by omega) (AL.go (AO.move rfl rfl (AL.nil ?_))))
           refine AK.next (q + 1) ⟨by omega, fun j hj hjq => ?_⟩ (by omega) srA (Sub.drop.trans subF)
           rcases Nat.lt_succ_iff_lt_or_eq.1 hjq with k9 | rfl
           · exact hin j hj k9
           · exact ⟨⟨c29, c51, c58, c65⟩, fun _ => by rw [getD_eq default (by omega)]; simpa using c44⟩
          ·refine AH.takeW (i := 39) rfl (Y.not rfl) (by kernel_rfl) rfl rfl ?_
           refine AH.takeW (i := 40) rfl (Y.pickF rfl rfl) (by kernel_rfl) rfl rfl ?_
           refine AH.done (by kernel_rfl) ?_
           refine AK.seqN (AC.condT rfl (AC.seq (AC.region (AL.go (AO.assign rfl rfl (AL.nil ?_))))))
           refine AK.seqN (AC.ret (AK.blkR (AK.seqR (AK.seqR (AK.blkR ?_)))))
           refine AK.seqR ?_
           exact AK.ret (L' := L) (F' := F) Tryz.results10 rfl subA (hF (fun e => c65 (e.2.2.1 q hql).1.2.2.2))
         ·refine AH.takeW (i := 32) rfl (Y.not rfl) (by kernel_rfl) rfl rfl ?_
          refine AH.takeW (i := 33) rfl (Y.pickF rfl rfl) (by kernel_rfl) rfl rfl ?_
          refine AH.takeW (i := 34) rfl (Y.move rfl) (by kernel_rfl) rfl rfl ?_
          refine AH.skip (i := 35) rfl (by kernel_rfl) rfl rfl ?_
          refine AH.skip (i := 36) rfl (by kernel_rfl) rfl rfl ?_
          refine AH.skip (i := 37) rfl (by kernel_rfl) rfl rfl ?_
          refine AH.skip (i := 38) rfl (by kernel_rfl) rfl rfl ?_
          refine AH.skip (i := 39) rfl (by kernel_rfl) rfl rfl ?_
          refine AH.takeW (i := 40) rfl (Y.pickT rfl rfl) (by kernel_rfl) rfl rfl ?_
          refine AH.done (by kernel_rfl) ?_
          refine AK.seqN (AC.condT rfl (AC.seq (AC.region (AL.go (AO.assign rfl rfl (AL.nil ?_))))))
          refine AK.seqN (AC.ret (AK.blkR (AK.seqR (AK.seqR (AK.blkR ?_)))))
          refine AK.seqR ?_
          exact AK.ret (L' := L) (F' := F) Tryz.results10 rfl subA (hF (fun e => c58 (e.2.2.1 q hql).1.2.2.1))
        ·refine AH.takeW (i := 25) rfl (Y.not rfl) (by kernel_rfl) rfl rfl ?_
         refine AH.takeW (i := 26) rfl (Y.pickF rfl rfl) (by kernel_rfl) rfl rfl ?_
         refine AH.takeW (i := 27) rfl (Y.move rfl) (by kernel_rfl) rfl rfl ?_
         refine AH.skip (i := 28) rfl (by kernel_rfl) rfl rfl ?_
         refine AH.skip (i := 29) rfl (by kernel_rfl) rfl rfl ?_
         refine AH.skip (i := 30) rfl (by kernel_rfl) rfl rfl ?_
         refine AH.skip (i := 31) rfl (by kernel_rfl) rfl rfl ?_
         refine AH.skip (i := 32) rfl (by kernel_rfl) rfl rfl ?_
         refine AH.takeW (i := 33) rfl (Y.pickT rfl rfl) (by kernel_rfl) rfl rfl ?_
         refine AH.takeW (i := 34) rfl (Y.move rfl) (by kernel_rfl) rfl rfl ?_
         refine AH.skip (i := 35) rfl (by kernel_rfl) rfl rfl ?_
         refine AH.skip (i := 36) rfl (by kernel_rfl) rfl rfl ?_
         refine AH.skip (i := 37) rfl (by kernel_rfl) rfl rfl ?_
         refine AH.skip (i := 38) rfl (by kernel_rfl) rfl rfl ?_
         refine AH.skip (i := 39) rfl (by kernel_rfl) rfl rfl ?_
         refine AH.takeW (i := 40) rfl (Y.pickT rfl rfl) (by kernel_rfl) rfl rfl ?_
         refine AH.done (by kernel_rfl) ?_
         refine AK.seqN (AC.condT rfl (AC.seq (AC.region (AL.go (AO.assign rfl rfl (AL.nil ?_))))))
         refine AK.seqN (AC.ret (AK.blkR (AK.seqR (AK.seqR (AK.blkR ?_)))))
         refine AK.seqR ?_
         exact AK.ret (L' := L) (F' := F) Tryz.results10 rfl subA (hF (fun e => c51 (e.2.2.1 q hql).1.2.1))
      ·replace c33 := of_decide_eq_false c33
       refine AH.takeW (i := 7) rfl (Y.move rfl) (by kernel_rfl) rfl rfl ?_
       refine AH.skip (i := 8) rfl (by kernel_rfl) rfl rfl ?_
       refine AH.skip (i := 9) rfl (by kernel_rfl) rfl rfl ?_
       refine AH.skip (i := 10) rfl (by kernel_rfl) rfl rfl ?_
       refine AH.skip (i := 11) rfl (by kernel_rfl) rfl rfl ?_
       refine AH.skip (i := 12) rfl (by kernel_rfl) rfl rfl ?_
       refine AH.skip (i := 13) rfl (by kernel_rfl) rfl rfl ?_
       refine AH.skip (i := 14) rfl (by kernel_rfl) rfl rfl ?_
       refine AH.skip (i := 15) rfl (by kernel_rfl) rfl rfl ?_
       refine AH.skip (i := 16) rfl (by kernel_rfl) rfl rfl ?_
       refine AH.skip (i := 17) rfl (by kernel_rfl) rfl rfl ?_
       refine AH.takeW (i := 18) rfl (Y.pickF rfl rfl) (by kernel_rfl) rfl rfl ?_
       refine AH.takeW (i := 19) rfl (Y.pickF rfl rfl) (by kernel_rfl) rfl rfl ?_
       refine AH.takeW (i := 20) rfl (Y.move rfl) (by kernel_rfl) rfl rfl ?_
       refine AH.takeS (i := 21) rfl (Y.loadBA rfl lmA (by rfl)) (by kernel_rfl) (by kernel_rfl) rfl rfl rfl ?_
       refine AH.takeW (i := 22) rfl (Y.move rfl) (by kernel_rfl) rfl rfl ?_
       refine AH.takeS (i := 23) rfl (Y.loadBA rfl lmA (by rfl)) (by kernel_rfl) (by kernel_rfl) rfl rfl rfl ?_
       refine AH.one (i := 24) (by kernel_rfl) rfl rfl (fun _ => ?_)
       refine AO.call rfl rfl (bounds_c T N[q] (show fL T a k c ∈ _ from memA) (show fI (asksL T) _ _ _ ∈ _ from memA) (show fBd N[q] _ _ _ ∈ _ from memA) (fun c51 => ?_) (fun c51 => ?_))
       all_goals refine AT.held bxA memB ?_
       ·refine AH.takeW (i := 25) rfl (Y.not rfl) (by kernel_rfl) rfl rfl ?_
        refine AH.takeW (i := 26) rfl (Y.pickF rfl rfl) (by kernel_rfl) rfl rfl ?_
        refine AH.takeW (i := 27) rfl (Y.move rfl) (by kernel_rfl) rfl rfl ?_
        refine AH.takeS (i := 28) rfl (Y.loadBA rfl lmA (by rfl)) (by kernel_rfl) (by kernel_rfl) rfl rfl rfl ?_
        refine AH.takeW (i := 29) rfl (Y.move rfl) (by kernel_rfl) rfl rfl ?_
        refine AH.takeS (i := 30) rfl (Y.loadBA rfl lmA (by rfl)) (by kernel_rfl) (by kernel_rfl) rfl rfl rfl ?_
        refine AH.one (i := 31) (by kernel_rfl) rfl rfl (fun _ => ?_)
        refine AO.call rfl rfl (under_c T N[q] (show fL T a k c ∈ _ from memA) (show fI (asksL T) _ _ _ ∈ _ from memA) (show fBd N[q] _ _ _ ∈ _ from memA) (fun c58 => ?_) (fun c58 => ?_))
        all_goals refine AT.held bxA memB ?_
        ·refine AH.takeW (i := 32) rfl (Y.not rfl) (by kernel_rfl) rfl rfl ?_
         refine AH.takeW (i := 33) rfl (Y.pickF rfl rfl) (by kernel_rfl) rfl rfl ?_
         refine AH.takeW (i := 34) rfl (Y.move rfl) (by kernel_rfl) rfl rfl ?_
         refine AH.takeS (i := 35) rfl (Y.loadBA rfl lmA (by rfl)) (by kernel_rfl) (by kernel_rfl) rfl rfl rfl ?_
         refine AH.takeW (i := 36) rfl (Y.move rfl) (by kernel_rfl) rfl rfl ?_
         refine AH.takeS (i := 37) rfl (Y.loadBA rfl lmA (by rfl)) (by kernel_rfl) (by kernel_rfl) rfl rfl rfl ?_
         refine AH.one (i := 38) (by kernel_rfl) rfl rfl (fun _ => ?_)
         refine AO.call rfl rfl (methods_c T N[q] (show fL T a k c ∈ _ from memA) (show fI (asksL T) _ _ _ ∈ _ from memA) (show fBd N[q] _ _ _ ∈ _ from memA) (show fMs N[q].methods _ _ _ ∈ _ from memA) (fun c65 => ?_) (fun c65 => ?_))
         all_goals refine AT.held bxA memB ?_
         ·refine AH.takeW (i := 39) rfl (Y.not rfl) (by kernel_rfl) rfl rfl ?_
          refine AH.takeW (i := 40) rfl (Y.pickF rfl rfl) (by kernel_rfl) rfl rfl ?_
          refine AH.done (by kernel_rfl) ?_
          refine AK.seqN (AC.condF rfl (AC.skip (AK.blkN (AK.seqN (AC.region ?_)))))
          refine AL.go (AO.add rfl rfl rfl (by omega) (by omega) (AL.go (AO.move rfl rfl (AL.nil ?_))))
          refine AK.next (q + 1) ⟨by omega, fun j hj hjq => ?_⟩ (by omega) srA (Sub.drop.trans subF)
          rcases Nat.lt_succ_iff_lt_or_eq.1 hjq with k9 | rfl
          · exact hin j hj k9
          · exact ⟨⟨c29, c51, c58, c65⟩, fun h0 => absurd h0 (by omega)⟩
         ·refine AH.takeW (i := 39) rfl (Y.not rfl) (by kernel_rfl) rfl rfl ?_
          refine AH.takeW (i := 40) rfl (Y.pickF rfl rfl) (by kernel_rfl) rfl rfl ?_
          refine AH.done (by kernel_rfl) ?_
          refine AK.seqN (AC.condT rfl (AC.seq (AC.region (AL.go (AO.assign rfl rfl (AL.nil ?_))))))
          refine AK.seqN (AC.ret (AK.blkR (AK.seqR (AK.seqR (AK.blkR ?_)))))
          refine AK.seqR ?_
          exact AK.ret (L' := L) (F' := F) Tryz.results10 rfl subA (hF (fun e => c65 (e.2.2.1 q hql).1.2.2.2))
        ·refine AH.takeW (i := 32) rfl (Y.not rfl) (by kernel_rfl) rfl rfl ?_
         refine AH.takeW (i := 33) rfl (Y.pickF rfl rfl) (by kernel_rfl) rfl rfl ?_
         refine AH.takeW (i := 34) rfl (Y.move rfl) (by kernel_rfl) rfl rfl ?_
         refine AH.skip (i := 35) rfl (by kernel_rfl) rfl rfl ?_
         refine AH.skip (i := 36) rfl (by kernel_rfl) rfl rfl ?_
         refine AH.skip (i := 37) rfl (by kernel_rfl) rfl rfl ?_
         refine AH.skip (i := 38) rfl (by kernel_rfl) rfl rfl ?_
         refine AH.skip (i := 39) rfl (by kernel_rfl) rfl rfl ?_
         refine AH.takeW (i := 40) rfl (Y.pickT rfl rfl) (by kernel_rfl) rfl rfl ?_
         refine AH.done (by kernel_rfl) ?_
         refine AK.seqN (AC.condT rfl (AC.seq (AC.region (AL.go (AO.assign rfl rfl (AL.nil ?_))))))
         refine AK.seqN (AC.ret (AK.blkR (AK.seqR (AK.seqR (AK.blkR ?_)))))
         refine AK.seqR ?_
         exact AK.ret (L' := L) (F' := F) Tryz.results10 rfl subA (hF (fun e => c58 (e.2.2.1 q hql).1.2.2.1))
       ·refine AH.takeW (i := 25) rfl (Y.not rfl) (by kernel_rfl) rfl rfl ?_
        refine AH.takeW (i := 26) rfl (Y.pickF rfl rfl) (by kernel_rfl) rfl rfl ?_
        refine AH.takeW (i := 27) rfl (Y.move rfl) (by kernel_rfl) rfl rfl ?_
        refine AH.skip (i := 28) rfl (by kernel_rfl) rfl rfl ?_
        refine AH.skip (i := 29) rfl (by kernel_rfl) rfl rfl ?_
        refine AH.skip (i := 30) rfl (by kernel_rfl) rfl rfl ?_
        refine AH.skip (i := 31) rfl (by kernel_rfl) rfl rfl ?_
        refine AH.skip (i := 32) rfl (by kernel_rfl) rfl rfl ?_
        refine AH.takeW (i := 33) rfl (Y.pickT rfl rfl) (by kernel_rfl) rfl rfl ?_
        refine AH.takeW (i := 34) rfl (Y.move rfl) (by kernel_rfl) rfl rfl ?_
        refine AH.skip (i := 35) rfl (by kernel_rfl) rfl rfl ?_
        refine AH.skip (i := 36) rfl (by kernel_rfl) rfl rfl ?_
        refine AH.skip (i := 37) rfl (by kernel_rfl) rfl rfl ?_
        refine AH.skip (i := 38) rfl (by kernel_rfl) rfl rfl ?_
        refine AH.skip (i := 39) rfl (by kernel_rfl) rfl rfl ?_
        refine AH.takeW (i := 40) rfl (Y.pickT rfl rfl) (by kernel_rfl) rfl rfl ?_
        refine AH.done (by kernel_rfl) ?_
        refine AK.seqN (AC.condT rfl (AC.seq (AC.region (AL.go (AO.assign rfl rfl (AL.nil ?_))))))
        refine AK.seqN (AC.ret (AK.blkR (AK.seqR (AK.seqR (AK.blkR ?_)))))
        refine AK.seqR ?_
        exact AK.ret (L' := L) (F' := F) Tryz.results10 rfl subA (hF (fun e => c51 (e.2.2.1 q hql).1.2.1))
     ·refine AH.takeW (i := 3) rfl (Y.not rfl) (by kernel_rfl) rfl rfl ?_
      refine AH.takeW (i := 4) rfl (Y.move rfl) (by kernel_rfl) rfl rfl ?_
      refine AH.skip (i := 5) rfl (by kernel_rfl) rfl rfl ?_
      refine AH.skip (i := 6) rfl (by kernel_rfl) rfl rfl ?_
      refine AH.skip (i := 7) rfl (by kernel_rfl) rfl rfl ?_
      refine AH.skip (i := 8) rfl (by kernel_rfl) rfl rfl ?_
      refine AH.skip (i := 9) rfl (by kernel_rfl) rfl rfl ?_
      refine AH.skip (i := 10) rfl (by kernel_rfl) rfl rfl ?_
      refine AH.skip (i := 11) rfl (by kernel_rfl) rfl rfl ?_
      refine AH.skip (i := 12) rfl (by kernel_rfl) rfl rfl ?_
      refine AH.skip (i := 13) rfl (by kernel_rfl) rfl rfl ?_
      refine AH.skip (i := 14) rfl (by kernel_rfl) rfl rfl ?_
      refine AH.skip (i := 15) rfl (by kernel_rfl) rfl rfl ?_
      refine AH.skip (i := 16) rfl (by kernel_rfl) rfl rfl ?_
      refine AH.skip (i := 17) rfl (by kernel_rfl) rfl rfl ?_
      refine AH.skip (i := 18) rfl (by kernel_rfl) rfl rfl ?_
      refine AH.takeW (i := 19) rfl (Y.pickT rfl rfl) (by kernel_rfl) rfl rfl ?_
      refine AH.takeW (i := 20) rfl (Y.move rfl) (by kernel_rfl) rfl rfl ?_
      refine AH.skip (i := 21) rfl (by kernel_rfl) rfl rfl ?_
      refine AH.skip (i := 22) rfl (by kernel_rfl) rfl rfl ?_
      refine AH.skip (i := 23) rfl (by kernel_rfl) rfl rfl ?_
      refine AH.skip (i := 24) rfl (by kernel_rfl) rfl rfl ?_
      refine AH.skip (i := 25) rfl (by kernel_rfl) rfl rfl ?_
      refine AH.takeW (i := 26) rfl (Y.pickT rfl rfl) (by kernel_rfl) rfl rfl ?_
      refine AH.takeW (i := 27) rfl (Y.move rfl) (by kernel_rfl) rfl rfl ?_
      refine AH.skip (i := 28) rfl (by kernel_rfl) rfl rfl ?_
      refine AH.skip (i := 29) rfl (by kernel_rfl) rfl rfl ?_
      refine AH.skip (i := 30) rfl (by kernel_rfl) rfl rfl ?_
      refine AH.skip (i := 31) rfl (by kernel_rfl) rfl rfl ?_
      refine AH.skip (i := 32) rfl (by kernel_rfl) rfl rfl ?_
      refine AH.takeW (i := 33) rfl (Y.pickT rfl rfl) (by kernel_rfl) rfl rfl ?_
      refine AH.takeW (i := 34) rfl (Y.move rfl) (by kernel_rfl) rfl rfl ?_
      refine AH.skip (i := 35) rfl (by kernel_rfl) rfl rfl ?_
      refine AH.skip (i := 36) rfl (by kernel_rfl) rfl rfl ?_
      refine AH.skip (i := 37) rfl (by kernel_rfl) rfl rfl ?_
      refine AH.skip (i := 38) rfl (by kernel_rfl) rfl rfl ?_
      refine AH.skip (i := 39) rfl (by kernel_rfl) rfl rfl ?_
      refine AH.takeW (i := 40) rfl (Y.pickT rfl rfl) (by kernel_rfl) rfl rfl ?_
      refine AH.done (by kernel_rfl) ?_
      refine AK.seqN (AC.condT rfl (AC.seq (AC.region (AL.go (AO.assign rfl rfl (AL.nil ?_))))))
      refine AK.seqN (AC.ret (AK.blkR (AK.seqR (AK.seqR (AK.blkR ?_)))))
      refine AK.seqR ?_
      exact AK.ret (L' := L) (F' := F) Tryz.results10 rfl subA (hF (fun e => c29 (e.2.2.1 q hql).1.1))
    ·refine AL.nil (AK.seqN (AC.seq (AC.condF rfl (AC.exit (AK.seqX ?_)))))
     refine AK.seqX (AK.blkX (AK.seqN (AC.seq (AC.region (AL.go (AO.field rfl rfl ?_))))))
     refine AL.go (AO.loadB rfl rfl ?_)
     refine AL.go (AO.makeFunc rfl rfl ?_)
     refine AL.go (AO.call rfl rfl (containsFuncT_c T hok memA _ [.pointer (some ⟨b1, 0, none⟩)] (fun t => ¬ fitsU N t) (fun x hx y1 y2 y3 y4 y5 y6 F' hF' n1 n2 R hT hF => uright1_c N x (j := 0) (hF' _ memA) n2 rfl hT hF) (fun c72 => ?_) (fun c72 => ?_)))
     ·refine AL.go (AO.not rfl rfl (AL.go (AO.assign rfl rfl (AL.nil (AK.seqN (AC.ret ?_))))))
      exact AK.ret (L' := L) (F' := F) Tryz.results10 rfl subA (hF (fun e => c72 (fun j hj hn => hn (e.2.2.2 _ (List.getElem_mem hj)))))
     ·refine AL.go (AO.not rfl rfl (AL.go (AO.assign rfl rfl (AL.nil (AK.seqN (AC.ret ?_))))))
      refine AK.ret (L' := L) (F' := F) Tryz.results10 rfl subA (hT ⟨c8, by omega, fun i hi => hin i hi (by omega), fun t ht => ?_⟩)
      obtain ⟨j, hj, rfl⟩ := List.getElem_of_mem ht
      exact Classical.byContradiction (c72 j hj)
  ·refine AL.go (AO.not rfl rfl (AL.go (AO.move rfl rfl (AL.no rfl rfl rfl rfl (AL.no rfl rfl rfl rfl (AL.no rfl rfl rfl rfl (AL.no rfl rfl rfl rfl ?_)))))))
   refine AL.go (AO.pickT rfl rfl rfl (AL.nil (AK.seqN (AC.condT rfl (AC.seq (AC.region ?_))))))
   refine AL.go (AO.assign rfl rfl (AL.nil (AK.seqN (AC.ret (AK.seqR ?_)))))
   exact AK.ret (L' := L) (F' := F) Tryz.results10 rfl subA (hF (fun e => c8 e.1))
theorem find_c (g : Glob W0) (T : List Ty) (N : List Nmd) (hok : ∀ t ∈ T, TyOk t) (hno : ∀ n ∈ N, NmOk n) (s : List UInt8) {a a2 : Option Addr} {k c k2 c2 : Nat} (mL : fL T a k c ∈ F) (mN : fN N a2 k2 c2 ∈ F)
    (h1 : ¬ rightU T N → R (.tuple #[.int .i64 0, .int .i64 1]) L F) (h2 : rightU T N → atN N s = none → R (.tuple #[.int .i64 0, .int .i64 8]) L F) (h3 : rightU T N → ∀ q : Nat, atN N s = some q → R (.tuple #[.int .i64 (q : Int), .int .i64 0]) L F) :
    ACalls Tryz.prog W0 26 #[.agg #[.slice a k c, .slice a2 k2 c2], S s] L F R := by
  refine ACalls.body Tryz.func26 rfl Tryz.ntmps26 rfl ?_
  refine AC.seq (AC.region (AL.go (AO.box rfl rfl (fun b2 => ?_))))
  refine AL.go (AO.assign rfl rfl (AL.go (AO.assign rfl rfl (AL.nil (AK.seqN (AC.seq (AC.seq ?_)))))))
  refine AC.region ?_
  refine AL.go (AO.loadBA rfl rfl ?_)
  refine AL.go (AO.call rfl rfl (uright_c g T N hok hno mL mN (fun c9 => ?_) (fun c9 => ?_)))
  ·refine AL.go (AO.not rfl rfl (AL.nil (AK.seqN (AC.condF rfl (AC.skip (AK.seqN ?_))))))
   refine AC.seq (AC.region ?_)
   refine AL.go (AO.loadBA rfl rfl ?_)
   refine AL.go (AO.move rfl rfl ?_)
   refine AL.go (AO.call rfl rfl (at_c N s mN (fun q c14 => ?_) (fun c14 => ?_)))
   ·refine AL.go (AO.move rfl rfl (AL.go (AO.extract rfl rfl rfl (AL.go (AO.extract rfl rfl rfl (AL.go (AO.assign rfl rfl (AL.go (AO.assign rfl rfl (AL.nil ?_))))))))))
    refine AK.seqN (AC.seq (AC.seq (AC.region (AL.go (AO.move rfl rfl (AL.go (AO.not rfl rfl ?_)))))))
    refine AL.nil (AK.seqN (AC.condF rfl (AC.skip (AK.seqN (AC.seq ?_)))))
    refine AC.region (AL.go (AO.move rfl rfl (AL.go (AO.assign rfl rfl (AL.go (AO.assign rfl rfl (AL.nil (AK.seqN ?_))))))))
    refine AC.ret ?_
    first | exact AK.ret2 (L' := L) (F' := F) Tryz.results26 rfl rfl subA (h1 c9) | exact AK.ret2 (L' := L) (F' := F) Tryz.results26 rfl rfl subA (h2 c9 c14) | exact AK.ret2 (L' := L) (F' := F) Tryz.results26 rfl rfl subA (h3 c9 q c14)
   ·refine AL.go (AO.move rfl rfl (AL.go (AO.extract rfl rfl rfl (AL.go (AO.extract rfl rfl rfl (AL.go (AO.assign rfl rfl (AL.go (AO.assign rfl rfl (AL.nil ?_))))))))))
    refine AK.seqN (AC.seq (AC.seq (AC.region (AL.go (AO.move rfl rfl (AL.go (AO.not rfl rfl ?_)))))))
    refine AL.nil (AK.seqN (AC.condT rfl (AC.seq (AC.region (AL.go (AO.assign rfl rfl ?_))))))
    refine AL.go (AO.assign rfl rfl (AL.nil (AK.seqN (AC.ret (AK.seqR ?_)))))
    first | exact AK.ret2 (L' := L) (F' := F) Tryz.results26 rfl rfl subA (h1 c9) | exact AK.ret2 (L' := L) (F' := F) Tryz.results26 rfl rfl subA (h2 c9 c14) | exact AK.ret2 (L' := L) (F' := F) Tryz.results26 rfl rfl subA (h3 c9 q c14)
  ·refine AL.go (AO.not rfl rfl (AL.nil (AK.seqN (AC.condT rfl (AC.seq (AC.region ?_))))))
   refine AL.go (AO.assign rfl rfl (AL.go (AO.assign rfl rfl (AL.nil (AK.seqN (AC.ret (AK.seqR ?_)))))))
   first | exact AK.ret2 (L' := L) (F' := F) Tryz.results26 rfl rfl subA (h1 c9) | exact AK.ret2 (L' := L) (F' := F) Tryz.results26 rfl rfl subA (h2 c9 c14) | exact AK.ret2 (L' := L) (F' := F) Tryz.results26 rfl rfl subA (h3 c9 q c14)
end
end Go.Sy
namespace Go.Sy
open Go Go.Proofs Go.RowKit
theorem less_ne {a b : List UInt8} (h : Op.bytesLess a b = true) : a ≠ b := fun e => by
  subst e
  have := bytes_asym a a h
  simp [h] at this
theorem nm_ext {n m : Nmd} (h1 : n.name = m.name) (h2 : n.bounds = m.bounds) (h3 : n.under = m.under) (h4 : n.methods = m.methods) : n = m := by
  cases n; cases m; simp_all
theorem mt_ext {n m : Mth} (h1 : n.name = m.name) (h2 : n.ptr = m.ptr) (h3 : n.sig = m.sig) : n = m := by
  cases n; cases m; simp_all
def mtB (x y : Mth) : Bool := x.name == y.name && (x.ptr == y.ptr && x.sig == y.sig)
theorem mtB_iff (x y : Mth) : mtB x y = true ↔ x = y := by
  cases x; cases y; simp [mtB]
theorem eqF_last {P : Program} {w : World} {d : Nat} {xs ys : Array Value} {f : Field} {a b : Value} {r : Bool} (hn : (f.name != "_") = true) (ha : (part f.type xs f.offset).run P w = .ok a w) (hb : (part f.type ys f.offset).run P w = .ok b w)
    (hr : (Op.equalIn d f.type a b).run P w = .ok r w) : (Op.eqFields d xs ys [f]).run P w = .ok r w := by
  have := eqF_step (fs := []) (s := true) hn ha hb hr (by rw [Op.eqFields]; rfl)
  rwa [Bool.and_true] at this
abbrev fS (l : List (List UInt8)) (a : Option Addr) (k c : Nat) : Fact := .slc (.slice a k c) 1 (l.map eS)
theorem mt_equalIn (x y : Mth) (w : World) : (Op.equalIn 10000 44 (vMt x) (vMt y)).run Tryz.prog w = .ok (mtB x y) w := by
  have hu : Tryz.prog.underlying 44 = some (.struct (Tryz.prog.fieldsOf 44)) := by rw [Program.fieldsOf, Tryz.underlying44]
  have hp : Tryz.prog.stoodInHeld 44 = false := by decide +kernel
  rw [show (10000 : Nat) = 9998 + 1 + 1 from rfl, run_equalIn_struct w (9998 + 1) _ _ _ hu hp]
  rw [Program.fieldsOf, Tryz.underlying44]
  have hi := Tryz.underlying3
  have hs := Tryz.underlying9
  have hb := Tryz.underlying4
  refine eqF_step rfl (part_get w (isAgg_str w hs) rfl) (part_get w (isAgg_str w hs) rfl) ((run_equalIn_string w _ _ _ _ hs).trans (by rw [S_eq])) ?_
  refine eqF_step rfl (part_get w (by simp [isAgg, run_underlying hb]) rfl) (part_get w (by simp [isAgg, run_underlying hb]) rfl) (run_equalIn_bool w _ _ _ _ hb) ?_
  exact eqF_last rfl (part_get w (isAgg_int w hi) rfl) (part_get w (isAgg_int w hi) rfl) (run_equalIn_int w _ _ _ _ _ _ hi)
theorem mt_guard : Tryz.prog.eqGuardType Tryz.prog.depth 44 = false := by decide +kernel
attribute [local irreducible] AC AT AO AK AH ACalls Sub Res.cells Res.nix Res.own Res.map Exit.then Exit.inBlock bodyPost Code.wp Next Post Kont
section
variable {W0 : World} {L : List Res} {F : List Fact} {R : Value → List Res → List Fact → Prop}
set_option maxRecDepth 100000
set_option maxHeartbeats 16000000
theorem Y.neqMt {n : Nat} {ρ : Rho} {T : World → Prop} {a b : Mth} {x y : Operand} {d : Option Tmp} {yt ty : TypeId} {pos : String} {af : Array Edge} {g : Option (Nat × Bool)} (hx : ev ρ x = some (vMt a)) (hy : ev ρ y = some (vMt b)) : Yd Tryz.prog n ρ T ⟨d, .binOp .neq 44 x y yt, ty, pos, af, g⟩ (.bool (!(mtB a b))) := ⟨fun s w st _ => by
  simp only [execOp, ev_eval st hx, ev_eval st hy, Sem.run_bind, run_eqGuard_agg w _ _ _ _ _ _ mt_guard, run_neq_struct, mt_equalIn, Result.andThen, Sem.run_pure]⟩
theorem nan_c (s : List UInt8) (h : R (.bool false) L F) : ACalls Tryz.prog W0 184 #[S s] L F R := by
  refine ACalls.body Tryz.func184 rfl Tryz.ntmps184 rfl ?_
  refine AC.seq (AC.region (AL.go (AO.assign rfl rfl (AL.nil (AK.seqN (AC.seq ?_))))))
  refine AC.region (AL.go (AO.move rfl rfl (AL.go (AO.move rfl rfl ?_))))
  refine AL.go (AO.neqS rfl rfl rfl (fun c5 => absurd rfl c5) (fun _ => ?_))
  refine AL.go (AO.assign rfl rfl (AL.nil (AK.seqN (AC.ret ?_))))
  exact AK.ret (L' := L) (F' := F) Tryz.results184 rfl subA h
theorem compare_c (a b : List UInt8) (h : ∀ v : Int, (v = 0 ↔ a = b) → R (.int .i64 v) L F) : ACalls Tryz.prog W0 126 #[S a, S b] L F R := by
  refine ACalls.body Tryz.func126 rfl Tryz.ntmps126 rfl ?_
  refine AC.seq (AC.region (AL.go (AO.assign rfl rfl (AL.nil (AK.seqN (AC.seq ?_))))))
  refine AC.region (AL.go (AO.move rfl rfl ?_))
  refine AL.go (AO.call rfl rfl (nan_c a ?_))
  refine AL.go (AO.assign rfl rfl (AL.nil (AK.seqN (AC.seq (AC.region (AL.go (AO.move rfl rfl ?_)))))))
  refine AL.go (AO.call rfl rfl (nan_c b ?_))
  refine AL.go (AO.assign rfl rfl (AL.nil (AK.seqN (AC.seq (AC.seq (AC.region ?_))))))
  refine AL.go (AO.move rfl rfl (AL.nil (AK.seqN (AC.condF rfl (AC.skip (AK.seqN ?_))))))
  refine AC.seq (AC.seq (AC.region (AL.go (AO.move rfl rfl (AL.nil (AK.seqN ?_))))))
  refine AC.condF rfl (AC.skip (AK.seqN (AC.seq (AC.seq (AC.region ?_)))))
  refine AL.go (AO.move rfl rfl (AL.go (AO.move rfl rfl ?_)))
  refine AL.go (AO.lssS rfl rfl rfl (fun c16 => ?_) (fun c16 => ?_))
  ·refine AL.nil (AK.seqN (AC.condT rfl (AC.seq (AC.region (AL.go (AO.assign rfl rfl ?_))))))
   refine AL.nil (AK.seqN (AC.ret (AK.seqR ?_)))
   exact AK.ret (L' := L) (F' := F) Tryz.results126 rfl subA (h _ ⟨fun e => absurd e (by decide), fun e => absurd e (less_ne c16)⟩)
  ·refine AL.nil (AK.seqN (AC.condF rfl (AC.skip (AK.seqN (AC.seq ?_)))))
   refine AC.seq (AC.region (AL.go (AO.move rfl rfl (AL.go (AO.move rfl rfl ?_)))))
   refine AL.go (AO.gtrS rfl rfl rfl (fun c19 => ?_) (fun c19 => ?_))
   ·refine AL.nil (AK.seqN (AC.condT rfl (AC.seq (AC.region (AL.go (AO.assign rfl rfl ?_))))))
    refine AL.nil (AK.seqN (AC.ret (AK.seqR ?_)))
    exact AK.ret (L' := L) (F' := F) Tryz.results126 rfl subA (h _ ⟨fun e => absurd e (by decide), fun e => by subst e; simp at c19⟩)
   ·refine AL.nil (AK.seqN (AC.condF rfl (AC.skip (AK.seqN (AC.seq ?_)))))
    refine AC.region (AL.go (AO.assign rfl rfl (AL.nil (AK.seqN (AC.ret ?_)))))
    exact AK.ret (L' := L) (F' := F) Tryz.results126 rfl subA (h _ ⟨fun _ => by simpa [c16] using c19, fun _ => rfl⟩)
theorem equalI_c (l m : List Int) {a1 a2 : Option Addr} {k1 c1 k2 c2 : Nat} (m1 : fI l a1 k1 c1 ∈ F) (m2 : fI m a2 k2 c2 ∈ F) (hT : l = m → R (.bool true) L F) (hF : l ≠ m → R (.bool false) L F) :
    ACalls Tryz.prog W0 62 #[.slice a1 k1 c1, .slice a2 k2 c2] L F R := by
  refine ACalls.body Tryz.func62 rfl Tryz.ntmps62 rfl ?_
  refine AC.seq (AC.region (AL.go (AO.assign rfl rfl (AL.nil (AK.seqN (AC.seq ?_))))))
  refine AC.seq (AC.region (AL.go (AO.move rfl rfl ?_)))
  refine AL.go (AO.len rfl rfl (fun hl1 => ?_) (enc := eI) (lst := l) (hm := m1))
  refine AL.go (AO.move rfl rfl ?_)
  refine AL.go (AO.len rfl rfl (fun hl2 => ?_) (enc := eI) (lst := m) (hm := m2))
  refine AL.go (AO.neq rfl rfl rfl (fun c10 => ?_) (fun c10 => ?_))
  ·refine AL.nil (AK.seqN (AC.condT rfl (AC.seq (AC.region (AL.go (AO.assign rfl rfl ?_))))))
   refine AL.nil (AK.seqN (AC.ret (AK.seqR ?_)))
   first | refine AK.ret Tryz.results62 rfl subA (hT ?_) | refine AK.ret Tryz.results62 rfl subA (hF ?_)
   first
   | exact ne_at hkl hkm c24
   | exact fun e => c10 (by rw [e])
   | exact all_of_take hok (by omega) (by omega)
  ·refine AL.nil (AK.seqN (AC.condF rfl (AC.skip (AK.seqN (AC.seq ?_)))))
   refine AC.seq (AC.region (AL.go (AO.move rfl rfl ?_)))
   refine AL.go (AO.len rfl rfl (fun hl3 => ?_) (enc := eI) (lst := l) (hm := m1))
   refine AL.go (AO.move rfl rfl (AL.nil (AK.seqN (AC.block ?_))))
   refine AC.loop (fun k => k ≤ l.length ∧ l.take k = m.take k) (fun k => [(0, .slice a1 k1 c1), (1, .slice a2 k2 c2), (12, .int .i64 l.length), (13, .int .i64 (k : Int))]) (fun _ => L) (fun _ => F) (fun k => l.length - k) 0 ⟨by omega, by simp⟩ srA (Sub.refl _ _) ?_
   rintro k ⟨hk, hok⟩
   refine AC.seq (AC.region ?_)
   refine AL.go (AO.lss rfl rfl rfl (fun c14 => ?_) (fun c14 => ?_))
   ·refine AL.nil (AK.seqN (AC.seq (AC.condT rfl (AC.skip (AK.seqN ?_)))))
    refine AC.seq (AC.block (AC.seq (AC.region (AL.go (AO.move rfl rfl (AL.go (AO.assign rfl rfl ?_)))))))
    refine AL.nil (AK.seqN (AC.seq ?_))
    refine AC.draw (fun _ => false) [] bxA rfl (fun hx hX => ?_)
    have hkl : k < l.length := by omega
    have hkm : k < m.length := by omega
    have hkk1 := (len_of_fact (hX _ m1)).1
    have hkk3 := (len_of_fact (hX _ m2)).1
    obtain ⟨p1, o1, rfl, at1⟩ := row_of_fact (hX _ m1) hkl
    obtain ⟨p2, o2, rfl, at2⟩ := row_of_fact (hX _ m2) hkm
    obtain ⟨v1, hv1, hc1⟩ := at1 0 _ rfl
    obtain ⟨v2, hv2, hc2⟩ := at2 0 _ rfl
    cases hc1
    cases hc2
    refine AH.takeW (i := 0) rfl (Y.move rfl) (by kernel_rfl) rfl rfl ?_
    refine AH.takeW (i := 1) rfl (Y.move rfl) (by kernel_rfl) rfl rfl ?_
    refine AH.takeW (i := 2) rfl (Y.indexAddr rfl rfl rfl (by omega)) (by kernel_rfl) rfl rfl ?_
    refine AH.takeS (i := 3) rfl (Y.loadF rfl (by assumption)) (by kernel_rfl) (by kernel_rfl) rfl rfl rfl ?_
    refine AH.takeW (i := 4) rfl (Y.move rfl) (by kernel_rfl) rfl rfl ?_
    refine AH.takeW (i := 5) rfl (Y.move rfl) (by kernel_rfl) rfl rfl ?_
    refine AH.takeW (i := 6) rfl (Y.indexAddr rfl rfl rfl (by omega)) (by kernel_rfl) rfl rfl ?_
    refine AH.takeS (i := 7) rfl (Y.loadF rfl (by assumption)) (by kernel_rfl) (by kernel_rfl) rfl rfl rfl ?_
    refine AH.takeB (i := 8) rfl (Y.neq rfl rfl) (by kernel_rfl) rfl rfl (fun c24 => ?_) (fun c24 => ?_)
    ·replace c24 := ne_of_bne c24
     refine AH.done (by kernel_rfl) ?_
     refine AK.seqN (AC.condT rfl (AC.seq (AC.region (AL.go (AO.assign rfl rfl (AL.nil ?_))))))
     refine AK.seqN (AC.ret (AK.blkR (AK.seqR (AK.seqR (AK.blkR ?_)))))
     refine AK.seqR ?_
     first | refine AK.ret Tryz.results62 rfl subA (hT ?_) | refine AK.ret Tryz.results62 rfl subA (hF ?_)
     first
     | exact ne_at hkl hkm c24
     | exact fun e => c10 (by rw [e])
     | exact all_of_take hok (by omega) (by omega)
    ·replace c24 := eq_of_bneF c24
     refine AH.done (by kernel_rfl) ?_
     refine AK.seqN (AC.condF rfl (AC.skip (AK.blkN (AK.seqN (AC.region ?_)))))
     refine AL.go (AO.add rfl rfl rfl (by omega) (by omega) (AL.go (AO.move rfl rfl (AL.nil ?_))))
     refine AK.next (k + 1) ⟨by omega, take_step hok hkl hkm c24⟩ (by omega) srA subF
   ·refine AL.nil (AK.seqN (AC.seq (AC.condF rfl (AC.exit (AK.seqX ?_)))))
    refine AK.seqX (AK.blkX (AK.seqN (AC.seq (AC.region (AL.go (AO.assign rfl rfl ?_))))))
    refine AL.nil (AK.seqN (AC.ret ?_))
    first | refine AK.ret Tryz.results62 rfl subA (hT ?_) | refine AK.ret Tryz.results62 rfl subA (hF ?_)
    first
    | exact ne_at hkl hkm c24
    | exact fun e => c10 (by rw [e])
    | exact all_of_take hok (by omega) (by omega)
theorem equalS_c (l m : List (List UInt8)) {a1 a2 : Option Addr} {k1 c1 k2 c2 : Nat} (m1 : fS l a1 k1 c1 ∈ F) (m2 : fS m a2 k2 c2 ∈ F) (hT : l = m → R (.bool true) L F) (hF : l ≠ m → R (.bool false) L F) :
    ACalls Tryz.prog W0 125 #[.slice a1 k1 c1, .slice a2 k2 c2] L F R := by
  refine ACalls.body Tryz.func125 rfl Tryz.ntmps125 rfl ?_
  refine AC.seq (AC.region (AL.go (AO.assign rfl rfl (AL.nil (AK.seqN (AC.seq ?_))))))
  refine AC.seq (AC.region (AL.go (AO.move rfl rfl ?_)))
  refine AL.go (AO.len rfl rfl (fun hl1 => ?_) (enc := eS) (lst := l) (hm := m1))
  refine AL.go (AO.move rfl rfl ?_)
  refine AL.go (AO.len rfl rfl (fun hl2 => ?_) (enc := eS) (lst := m) (hm := m2))
  refine AL.go (AO.neq rfl rfl rfl (fun c10 => ?_) (fun c10 => ?_))
  ·refine AL.nil (AK.seqN (AC.condT rfl (AC.seq (AC.region (AL.go (AO.assign rfl rfl ?_))))))
   refine AL.nil (AK.seqN (AC.ret (AK.seqR ?_)))
   first | refine AK.ret Tryz.results125 rfl subA (hT ?_) | refine AK.ret Tryz.results125 rfl subA (hF ?_)
   first
   | exact ne_at hkl hkm c24
   | exact fun e => c10 (by rw [e])
   | exact all_of_take hok (by omega) (by omega)
  ·refine AL.nil (AK.seqN (AC.condF rfl (AC.skip (AK.seqN (AC.seq ?_)))))
   refine AC.seq (AC.region (AL.go (AO.move rfl rfl ?_)))
   refine AL.go (AO.len rfl rfl (fun hl3 => ?_) (enc := eS) (lst := l) (hm := m1))
   refine AL.go (AO.move rfl rfl (AL.nil (AK.seqN (AC.block ?_))))
   refine AC.loop (fun k => k ≤ l.length ∧ l.take k = m.take k) (fun k => [(0, .slice a1 k1 c1), (1, .slice a2 k2 c2), (12, .int .i64 l.length), (13, .int .i64 (k : Int))]) (fun _ => L) (fun _ => F) (fun k => l.length - k) 0 ⟨by omega, by simp⟩ srA (Sub.refl _ _) ?_
   rintro k ⟨hk, hok⟩
   refine AC.seq (AC.region ?_)
   refine AL.go (AO.lss rfl rfl rfl (fun c14 => ?_) (fun c14 => ?_))
   ·refine AL.nil (AK.seqN (AC.seq (AC.condT rfl (AC.skip (AK.seqN ?_)))))
    refine AC.seq (AC.block (AC.seq (AC.region (AL.go (AO.move rfl rfl (AL.go (AO.assign rfl rfl ?_)))))))
    refine AL.nil (AK.seqN (AC.seq ?_))
    refine AC.draw (fun _ => false) [] bxA rfl (fun hx hX => ?_)
    have hkl : k < l.length := by omega
    have hkm : k < m.length := by omega
    have hkk1 := (len_of_fact (hX _ m1)).1
    have hkk3 := (len_of_fact (hX _ m2)).1
    obtain ⟨p1, o1, rfl, at1⟩ := row_of_fact (hX _ m1) hkl
    obtain ⟨p2, o2, rfl, at2⟩ := row_of_fact (hX _ m2) hkm
    obtain ⟨v1, hv1, hc1⟩ := at1 0 _ rfl
    obtain ⟨v2, hv2, hc2⟩ := at2 0 _ rfl
    cases hc1
    cases hc2
    refine AH.takeW (i := 0) rfl (Y.move rfl) (by kernel_rfl) rfl rfl ?_
    refine AH.takeW (i := 1) rfl (Y.move rfl) (by kernel_rfl) rfl rfl ?_
    refine AH.takeW (i := 2) rfl (Y.indexAddr rfl rfl rfl (by omega)) (by kernel_rfl) rfl rfl ?_
    refine AH.takeS (i := 3) rfl (Y.loadF rfl (by assumption)) (by kernel_rfl) (by kernel_rfl) rfl rfl rfl ?_
    refine AH.takeW (i := 4) rfl (Y.move rfl) (by kernel_rfl) rfl rfl ?_
    refine AH.takeW (i := 5) rfl (Y.move rfl) (by kernel_rfl) rfl rfl ?_
    refine AH.takeW (i := 6) rfl (Y.indexAddr rfl rfl rfl (by omega)) (by kernel_rfl) rfl rfl ?_
    refine AH.takeS (i := 7) rfl (Y.loadF rfl (by assumption)) (by kernel_rfl) (by kernel_rfl) rfl rfl rfl ?_
    refine AH.takeB (i := 8) rfl (Y.neqS rfl rfl) (by kernel_rfl) rfl rfl (fun c24 => ?_) (fun c24 => ?_)
    ·replace c24 := ne_of_nbeq c24
     refine AH.done (by kernel_rfl) ?_
     refine AK.seqN (AC.condT rfl (AC.seq (AC.region (AL.go (AO.assign rfl rfl (AL.nil ?_))))))
     refine AK.seqN (AC.ret (AK.blkR (AK.seqR (AK.seqR (AK.blkR ?_)))))
     refine AK.seqR ?_
     first | refine AK.ret Tryz.results125 rfl subA (hT ?_) | refine AK.ret Tryz.results125 rfl subA (hF ?_)
     first
     | exact ne_at hkl hkm c24
     | exact fun e => c10 (by rw [e])
     | exact all_of_take hok (by omega) (by omega)
    ·replace c24 := eq_of_nbeqF c24
     refine AH.done (by kernel_rfl) ?_
     refine AK.seqN (AC.condF rfl (AC.skip (AK.blkN (AK.seqN (AC.region ?_)))))
     refine AL.go (AO.add rfl rfl rfl (by omega) (by omega) (AL.go (AO.move rfl rfl (AL.nil ?_))))
     refine AK.next (k + 1) ⟨by omega, take_step hok hkl hkm c24⟩ (by omega) srA subF
   ·refine AL.nil (AK.seqN (AC.seq (AC.condF rfl (AC.exit (AK.seqX ?_)))))
    refine AK.seqX (AK.blkX (AK.seqN (AC.seq (AC.region (AL.go (AO.assign rfl rfl ?_))))))
    refine AL.nil (AK.seqN (AC.ret ?_))
    first | refine AK.ret Tryz.results125 rfl subA (hT ?_) | refine AK.ret Tryz.results125 rfl subA (hF ?_)
    first
    | exact ne_at hkl hkm c24
    | exact fun e => c10 (by rw [e])
    | exact all_of_take hok (by omega) (by omega)
theorem equalM_c (l m : List Mth) {a1 a2 : Option Addr} {k1 c1 k2 c2 : Nat} (m1 : fMs l a1 k1 c1 ∈ F) (m2 : fMs m a2 k2 c2 ∈ F) (hT : l = m → R (.bool true) L F) (hF : l ≠ m → R (.bool false) L F) :
    ACalls Tryz.prog W0 127 #[.slice a1 k1 c1, .slice a2 k2 c2] L F R := by
  refine ACalls.body Tryz.func127 rfl Tryz.ntmps127 rfl ?_
  refine AC.seq (AC.region (AL.go (AO.assign rfl rfl (AL.nil (AK.seqN (AC.seq ?_))))))
  refine AC.seq (AC.region (AL.go (AO.move rfl rfl ?_)))
  refine AL.go (AO.len rfl rfl (fun hl1 => ?_) (enc := eMt) (lst := l) (hm := m1))
  refine AL.go (AO.move rfl rfl ?_)
  refine AL.go (AO.len rfl rfl (fun hl2 => ?_) (enc := eMt) (lst := m) (hm := m2))
  refine AL.go (AO.neq rfl rfl rfl (fun c10 => ?_) (fun c10 => ?_))
  ·refine AL.nil (AK.seqN (AC.condT rfl (AC.seq (AC.region (AL.go (AO.assign rfl rfl ?_))))))
   refine AL.nil (AK.seqN (AC.ret (AK.seqR ?_)))
   first | refine AK.ret Tryz.results127 rfl subA (hT ?_) | refine AK.ret Tryz.results127 rfl subA (hF ?_)
   first
   | exact ne_at hkl hkm (fun e => by rw [(mtB_iff _ _).2 e] at c24; exact absurd c24 (by decide))
   | exact fun e => c10 (by rw [e])
   | exact all_of_take hok (by omega) (by omega)
  ·refine AL.nil (AK.seqN (AC.condF rfl (AC.skip (AK.seqN (AC.seq ?_)))))
   refine AC.seq (AC.region (AL.go (AO.move rfl rfl ?_)))
   refine AL.go (AO.len rfl rfl (fun hl3 => ?_) (enc := eMt) (lst := l) (hm := m1))
   refine AL.go (AO.move rfl rfl (AL.nil (AK.seqN (AC.block ?_))))
   refine AC.loop (fun k => k ≤ l.length ∧ l.take k = m.take k) (fun k => [(0, .slice a1 k1 c1), (1, .slice a2 k2 c2), (12, .int .i64 l.length), (13, .int .i64 (k : Int))]) (fun _ => L) (fun _ => F) (fun k => l.length - k) 0 ⟨by omega, by simp⟩ srA (Sub.refl _ _) ?_
   rintro k ⟨hk, hok⟩
   refine AC.seq (AC.region ?_)
   refine AL.go (AO.lss rfl rfl rfl (fun c14 => ?_) (fun c14 => ?_))
   ·refine AL.nil (AK.seqN (AC.seq (AC.condT rfl (AC.skip (AK.seqN ?_)))))
    refine AC.seq (AC.block (AC.seq (AC.region (AL.go (AO.move rfl rfl (AL.go (AO.assign rfl rfl ?_)))))))
    refine AL.nil (AK.seqN (AC.seq ?_))
    refine AC.draw (fun _ => false) [] bxA rfl (fun hx hX => ?_)
    have hkl : k < l.length := by omega
    have hkm : k < m.length := by omega
    have hkk1 := (len_of_fact (hX _ m1)).1
    have hkk3 := (len_of_fact (hX _ m2)).1
    obtain ⟨p1, o1, rfl, at1⟩ := row_of_fact (hX _ m1) hkl
    obtain ⟨p2, o2, rfl, at2⟩ := row_of_fact (hX _ m2) hkm
    have hv1 := mt_cells at1
    have hv2 := mt_cells at2
    refine AH.takeW (i := 0) rfl (Y.move rfl) (by kernel_rfl) rfl rfl ?_
    refine AH.takeW (i := 1) rfl (Y.move rfl) (by kernel_rfl) rfl rfl ?_
    refine AH.takeW (i := 2) rfl (Y.indexAddr rfl rfl rfl (by omega)) (by kernel_rfl) rfl rfl ?_
    refine AH.takeS (i := 3) rfl (Y.loadFA rfl rfl hv1) (by kernel_rfl) (by kernel_rfl) rfl rfl rfl ?_
    refine AH.takeW (i := 4) rfl (Y.move rfl) (by kernel_rfl) rfl rfl ?_
    refine AH.takeW (i := 5) rfl (Y.move rfl) (by kernel_rfl) rfl rfl ?_
    refine AH.takeW (i := 6) rfl (Y.indexAddr rfl rfl rfl (by omega)) (by kernel_rfl) rfl rfl ?_
    refine AH.takeS (i := 7) rfl (Y.loadFA rfl rfl hv2) (by kernel_rfl) (by kernel_rfl) rfl rfl rfl ?_
    refine AH.takeB (i := 8) rfl (Y.neqMt (a := l[k]) (b := m[k]) rfl rfl) (by kernel_rfl) rfl rfl (fun c24 => ?_) (fun c24 => ?_)
    ·refine AH.done (by kernel_rfl) ?_
     refine AK.seqN (AC.condT rfl (AC.seq (AC.region (AL.go (AO.assign rfl rfl (AL.nil ?_))))))
     refine AK.seqN (AC.ret (AK.blkR (AK.seqR (AK.seqR (AK.blkR ?_)))))
     refine AK.seqR ?_
     first | refine AK.ret Tryz.results127 rfl subA (hT ?_) | refine AK.ret Tryz.results127 rfl subA (hF ?_)
     first
     | exact ne_at hkl hkm (fun e => by rw [(mtB_iff _ _).2 e] at c24; exact absurd c24 (by decide))
     | exact fun e => c10 (by rw [e])
     | exact all_of_take hok (by omega) (by omega)
    ·refine AH.done (by kernel_rfl) ?_
     refine AK.seqN (AC.condF rfl (AC.skip (AK.blkN (AK.seqN (AC.region ?_)))))
     refine AL.go (AO.add rfl rfl rfl (by omega) (by omega) (AL.go (AO.move rfl rfl (AL.nil ?_))))
     refine AK.next (k + 1) ⟨by omega, take_step hok hkl hkm ((mtB_iff _ _).1 (by simpa using c24))⟩ (by omega) srA subF
   ·refine AL.nil (AK.seqN (AC.seq (AC.condF rfl (AC.exit (AK.seqX ?_)))))
    refine AK.seqX (AK.blkX (AK.seqN (AC.seq (AC.region (AL.go (AO.assign rfl rfl ?_))))))
    refine AL.nil (AK.seqN (AC.ret ?_))
    first | refine AK.ret Tryz.results127 rfl subA (hT ?_) | refine AK.ret Tryz.results127 rfl subA (hF ?_)
    first
    | exact ne_at hkl hkm (fun e => by rw [(mtB_iff _ _).2 e] at c24; exact absurd c24 (by decide))
    | exact fun e => c10 (by rw [e])
    | exact all_of_take hok (by omega) (by omega)
theorem likeType_c (t u : Ty) {a1 a2 a3 a4 : Option Addr} {k1 c1 k2 c2 k3 c3 k4 c4 : Nat} (m1 : fW t a1 k1 c1 ∈ F) (m2 : fK t a2 k2 c2 ∈ F) (m3 : fW u a3 k3 c3 ∈ F) (m4 : fK u a4 k4 c4 ∈ F) (hT : t = u → R (.bool true) L F) (hF : t ≠ u → R (.bool false) L F) :
    ACalls Tryz.prog W0 71 #[vTy t a1 k1 c1 a2 k2 c2, vTy u a3 k3 c3 a4 k4 c4] L F R := by
  refine ACalls.body Tryz.func71 rfl Tryz.ntmps71 rfl ?_
  refine AC.seq (AC.region (AL.go (AO.box rfl rfl (fun b2 => ?_))))
  refine AL.go (AO.box rfl rfl (fun b3 => ?_))
  refine AL.go (AO.assign rfl rfl (AL.nil (AK.seqN (AC.seq (AC.region (AL.go (AO.field rfl rfl ?_)))))))
  refine AL.go (AO.loadB rfl rfl ?_)
  refine AL.go (AO.field rfl rfl ?_)
  refine AL.go (AO.loadB rfl rfl ?_)
  refine AL.go (AO.eql rfl rfl rfl (fun c9 => ?_) (fun c9 => ?_))
  ·refine AL.go (AO.move rfl rfl (AL.yes rfl rfl (AO.field rfl rfl ?_)))
   refine AL.yes rfl rfl (AO.loadB rfl rfl ?_)
   refine AL.yes rfl rfl (AO.field rfl rfl ?_)
   refine AL.yes rfl rfl (AO.loadB rfl rfl ?_)
   refine AL.yes rfl rfl (AO.eqlS rfl rfl rfl (fun c15 => ?_) (fun c15 => ?_))
   ·refine AL.go (AO.pickT rfl rfl rfl (AL.go (AO.move rfl rfl (AL.yes rfl rfl (AO.field rfl rfl ?_)))))
    refine AL.yes rfl rfl (AO.loadB rfl rfl ?_)
    refine AL.yes rfl rfl (AO.field rfl rfl ?_)
    refine AL.yes rfl rfl (AO.loadB rfl rfl ?_)
    refine AL.yes rfl rfl (AO.eql rfl rfl rfl (fun c22 => ?_) (fun c22 => ?_))
    ·refine AL.go (AO.pickT rfl rfl rfl (AL.go (AO.move rfl rfl (AL.yes rfl rfl (AO.field rfl rfl ?_)))))
     refine AL.yes rfl rfl (AO.loadB rfl rfl ?_)
     refine AL.yes rfl rfl (AO.field rfl rfl ?_)
     refine AL.yes rfl rfl (AO.loadB rfl rfl ?_)
     refine AL.yes rfl rfl (AO.call rfl rfl (equalS_c t.words u.words memA memA (fun c29 => ?_) (fun c29 => ?_)))
     ·refine AL.go (AO.pickT rfl rfl rfl (AL.go (AO.move rfl rfl (AL.yes rfl rfl (AO.field rfl rfl ?_)))))
      refine AL.yes rfl rfl (AO.loadB rfl rfl ?_)
      refine AL.yes rfl rfl (AO.field rfl rfl ?_)
      refine AL.yes rfl rfl (AO.loadB rfl rfl ?_)
      refine AL.yes rfl rfl (AO.call rfl rfl (equalI_c t.kids u.kids memA memA (fun c36 => ?_) (fun c36 => ?_)))
      ·refine AL.go (AO.pickT rfl rfl rfl (AL.go (AO.assign rfl rfl (AL.nil (AK.seqN (AC.ret ?_))))))
       first | refine AK.ret (L' := L) (F' := F) Tryz.results71 rfl subA (hT ?_) | refine AK.ret (L' := L) (F' := F) Tryz.results71 rfl subA (hF ?_)
       first
       | exact ty_ext c9 c15 c22 c29 c36
       | exact fun e => c9 (by rw [e])
       | exact fun e => c15 (by rw [e])
       | exact fun e => c22 (by rw [e])
       | exact fun e => c29 (by rw [e])
       | exact fun e => c36 (by rw [e])
      ·refine AL.go (AO.pickT rfl rfl rfl (AL.go (AO.assign rfl rfl (AL.nil (AK.seqN (AC.ret ?_))))))
       first | refine AK.ret (L' := L) (F' := F) Tryz.results71 rfl subA (hT ?_) | refine AK.ret (L' := L) (F' := F) Tryz.results71 rfl subA (hF ?_)
       first
       | exact ty_ext c9 c15 c22 c29 c36
       | exact fun e => c9 (by rw [e])
       | exact fun e => c15 (by rw [e])
       | exact fun e => c22 (by rw [e])
       | exact fun e => c29 (by rw [e])
       | exact fun e => c36 (by rw [e])
     ·refine AL.go (AO.pickT rfl rfl rfl (AL.go (AO.move rfl rfl (AL.no rfl rfl rfl rfl (AL.no rfl rfl rfl rfl (AL.no rfl rfl rfl rfl (AL.no rfl rfl rfl rfl ?_)))))))
      refine AL.no rfl rfl rfl rfl (AL.go (AO.pickF rfl rfl rfl (AL.go (AO.assign rfl rfl (AL.nil (AK.seqN (AC.ret ?_)))))))
      first | refine AK.ret (L' := L) (F' := F) Tryz.results71 rfl subA (hT ?_) | refine AK.ret (L' := L) (F' := F) Tryz.results71 rfl subA (hF ?_)
      first
      | exact ty_ext c9 c15 c22 c29 c36
      | exact fun e => c9 (by rw [e])
      | exact fun e => c15 (by rw [e])
      | exact fun e => c22 (by rw [e])
      | exact fun e => c29 (by rw [e])
      | exact fun e => c36 (by rw [e])
    ·refine AL.go (AO.pickT rfl rfl rfl (AL.go (AO.move rfl rfl (AL.no rfl rfl rfl rfl (AL.no rfl rfl rfl rfl (AL.no rfl rfl rfl rfl (AL.no rfl rfl rfl rfl ?_)))))))
     refine AL.no rfl rfl rfl rfl (AL.go (AO.pickF rfl rfl rfl (AL.go (AO.move rfl rfl (AL.no rfl rfl rfl rfl (AL.no rfl rfl rfl rfl (AL.no rfl rfl rfl rfl ?_)))))))
     refine AL.no rfl rfl rfl rfl (AL.no rfl rfl rfl rfl (AL.go (AO.pickF rfl rfl rfl (AL.go (AO.assign rfl rfl (AL.nil (AK.seqN ?_)))))))
     refine AC.ret ?_
     first | refine AK.ret (L' := L) (F' := F) Tryz.results71 rfl subA (hT ?_) | refine AK.ret (L' := L) (F' := F) Tryz.results71 rfl subA (hF ?_)
     first
     | exact ty_ext c9 c15 c22 c29 c36
     | exact fun e => c9 (by rw [e])
     | exact fun e => c15 (by rw [e])
     | exact fun e => c22 (by rw [e])
     | exact fun e => c29 (by rw [e])
     | exact fun e => c36 (by rw [e])
   ·refine AL.go (AO.pickT rfl rfl rfl (AL.go (AO.move rfl rfl (AL.no rfl rfl rfl rfl (AL.no rfl rfl rfl rfl (AL.no rfl rfl rfl rfl (AL.no rfl rfl rfl rfl ?_)))))))
    refine AL.no rfl rfl rfl rfl (AL.go (AO.pickF rfl rfl rfl (AL.go (AO.move rfl rfl (AL.no rfl rfl rfl rfl (AL.no rfl rfl rfl rfl (AL.no rfl rfl rfl rfl ?_)))))))
    refine AL.no rfl rfl rfl rfl (AL.no rfl rfl rfl rfl (AL.go (AO.pickF rfl rfl rfl (AL.go (AO.move rfl rfl (AL.no rfl rfl rfl rfl (AL.no rfl rfl rfl rfl ?_)))))))
    refine AL.no rfl rfl rfl rfl (AL.no rfl rfl rfl rfl (AL.no rfl rfl rfl rfl (AL.go (AO.pickF rfl rfl rfl (AL.go (AO.assign rfl rfl (AL.nil ?_)))))))
    refine AK.seqN (AC.ret ?_)
    first | refine AK.ret (L' := L) (F' := F) Tryz.results71 rfl subA (hT ?_) | refine AK.ret (L' := L) (F' := F) Tryz.results71 rfl subA (hF ?_)
    first
    | exact ty_ext c9 c15 c22 c29 c36
    | exact fun e => c9 (by rw [e])
    | exact fun e => c15 (by rw [e])
    | exact fun e => c22 (by rw [e])
    | exact fun e => c29 (by rw [e])
    | exact fun e => c36 (by rw [e])
  ·refine AL.go (AO.move rfl rfl (AL.no rfl rfl rfl rfl (AL.no rfl rfl rfl rfl (AL.no rfl rfl rfl rfl (AL.no rfl rfl rfl rfl (AL.no rfl rfl rfl rfl ?_))))))
   refine AL.go (AO.pickF rfl rfl rfl (AL.go (AO.move rfl rfl (AL.no rfl rfl rfl rfl (AL.no rfl rfl rfl rfl (AL.no rfl rfl rfl rfl (AL.no rfl rfl rfl rfl ?_)))))))
   refine AL.no rfl rfl rfl rfl (AL.go (AO.pickF rfl rfl rfl (AL.go (AO.move rfl rfl (AL.no rfl rfl rfl rfl (AL.no rfl rfl rfl rfl (AL.no rfl rfl rfl rfl ?_)))))))
   refine AL.no rfl rfl rfl rfl (AL.no rfl rfl rfl rfl (AL.go (AO.pickF rfl rfl rfl (AL.go (AO.move rfl rfl (AL.no rfl rfl rfl rfl (AL.no rfl rfl rfl rfl ?_)))))))
   refine AL.no rfl rfl rfl rfl (AL.no rfl rfl rfl rfl (AL.no rfl rfl rfl rfl (AL.go (AO.pickF rfl rfl rfl (AL.go (AO.assign rfl rfl (AL.nil ?_)))))))
   refine AK.seqN (AC.ret ?_)
   first | refine AK.ret (L' := L) (F' := F) Tryz.results71 rfl subA (hT ?_) | refine AK.ret (L' := L) (F' := F) Tryz.results71 rfl subA (hF ?_)
   first
   | exact ty_ext c9 c15 c22 c29 c36
   | exact fun e => c9 (by rw [e])
   | exact fun e => c15 (by rw [e])
   | exact fun e => c22 (by rw [e])
   | exact fun e => c29 (by rw [e])
   | exact fun e => c36 (by rw [e])
theorem likeNamed_c (n m : Nmd) {a1 a2 a3 a4 : Option Addr} {k1 c1 k2 c2 k3 c3 k4 c4 : Nat} (m1 : fBd n a1 k1 c1 ∈ F) (m2 : fMs n.methods a2 k2 c2 ∈ F) (m3 : fBd m a3 k3 c3 ∈ F) (m4 : fMs m.methods a4 k4 c4 ∈ F) (hT : n = m → R (.bool true) L F) (hF : n ≠ m → R (.bool false) L F) :
    ACalls Tryz.prog W0 73 #[vNm n a1 k1 c1 a2 k2 c2, vNm m a3 k3 c3 a4 k4 c4] L F R := by
  refine ACalls.body Tryz.func73 rfl Tryz.ntmps73 rfl ?_
  refine AC.seq (AC.region (AL.go (AO.box rfl rfl (fun b2 => ?_))))
  refine AL.go (AO.box rfl rfl (fun b3 => ?_))
  refine AL.go (AO.assign rfl rfl (AL.nil (AK.seqN (AC.seq (AC.region (AL.go (AO.field rfl rfl ?_)))))))
  refine AL.go (AO.loadB rfl rfl ?_)
  refine AL.go (AO.field rfl rfl ?_)
  refine AL.go (AO.loadB rfl rfl ?_)
  refine AL.go (AO.call rfl rfl (compare_c n.name m.name (fun v9 c9 => ?_)))
  refine AL.go (AO.eql rfl rfl rfl (fun c10 => ?_) (fun c10 => ?_))
  ·refine AL.go (AO.move rfl rfl (AL.yes rfl rfl (AO.field rfl rfl ?_)))
   refine AL.yes rfl rfl (AO.loadB rfl rfl ?_)
   refine AL.yes rfl rfl (AO.field rfl rfl ?_)
   refine AL.yes rfl rfl (AO.loadB rfl rfl ?_)
   refine AL.yes rfl rfl (AO.call rfl rfl (equalI_c n.bounds m.bounds memA memA (fun c16 => ?_) (fun c16 => ?_)))
   ·refine AL.go (AO.pickT rfl rfl rfl (AL.go (AO.move rfl rfl (AL.yes rfl rfl (AO.field rfl rfl ?_)))))
    refine AL.yes rfl rfl (AO.loadB rfl rfl ?_)
    refine AL.yes rfl rfl (AO.field rfl rfl ?_)
    refine AL.yes rfl rfl (AO.loadB rfl rfl ?_)
    refine AL.yes rfl rfl (AO.eql rfl rfl rfl (fun c23 => ?_) (fun c23 => ?_))
    ·refine AL.go (AO.pickT rfl rfl rfl (AL.go (AO.move rfl rfl (AL.yes rfl rfl (AO.field rfl rfl ?_)))))
     refine AL.yes rfl rfl (AO.loadB rfl rfl ?_)
     refine AL.yes rfl rfl (AO.field rfl rfl ?_)
     refine AL.yes rfl rfl (AO.loadB rfl rfl ?_)
     refine AL.yes rfl rfl (AO.call rfl rfl (equalM_c n.methods m.methods memA memA (fun c30 => ?_) (fun c30 => ?_)))
     ·refine AL.go (AO.pickT rfl rfl rfl (AL.go (AO.assign rfl rfl (AL.nil (AK.seqN (AC.ret ?_))))))
      first | refine AK.ret (L' := L) (F' := F) Tryz.results73 rfl subA (hT ?_) | refine AK.ret (L' := L) (F' := F) Tryz.results73 rfl subA (hF ?_)
      first
      | exact nm_ext (c9.1 c10) c16 c23 c30
      | exact fun e => c10 (c9.2 (by rw [e]))
      | exact fun e => c16 (by rw [e])
      | exact fun e => c23 (by rw [e])
      | exact fun e => c30 (by rw [e])
     ·refine AL.go (AO.pickT rfl rfl rfl (AL.go (AO.assign rfl rfl (AL.nil (AK.seqN (AC.ret ?_))))))
      first | refine AK.ret (L' := L) (F' := F) Tryz.results73 rfl subA (hT ?_) | refine AK.ret (L' := L) (F' := F) Tryz.results73 rfl subA (hF ?_)
      first
      | exact nm_ext (c9.1 c10) c16 c23 c30
      | exact fun e => c10 (c9.2 (by rw [e]))
      | exact fun e => c16 (by rw [e])
      | exact fun e => c23 (by rw [e])
      | exact fun e => c30 (by rw [e])
    ·refine AL.go (AO.pickT rfl rfl rfl (AL.go (AO.move rfl rfl (AL.no rfl rfl rfl rfl (AL.no rfl rfl rfl rfl (AL.no rfl rfl rfl rfl (AL.no rfl rfl rfl rfl ?_)))))))
     refine AL.no rfl rfl rfl rfl (AL.go (AO.pickF rfl rfl rfl (AL.go (AO.assign rfl rfl (AL.nil (AK.seqN (AC.ret ?_)))))))
     first | refine AK.ret (L' := L) (F' := F) Tryz.results73 rfl subA (hT ?_) | refine AK.ret (L' := L) (F' := F) Tryz.results73 rfl subA (hF ?_)
     first
     | exact nm_ext (c9.1 c10) c16 c23 c30
     | exact fun e => c10 (c9.2 (by rw [e]))
     | exact fun e => c16 (by rw [e])
     | exact fun e => c23 (by rw [e])
     | exact fun e => c30 (by rw [e])
   ·refine AL.go (AO.pickT rfl rfl rfl (AL.go (AO.move rfl rfl (AL.no rfl rfl rfl rfl (AL.no rfl rfl rfl rfl (AL.no rfl rfl rfl rfl (AL.no rfl rfl rfl rfl ?_)))))))
    refine AL.no rfl rfl rfl rfl (AL.go (AO.pickF rfl rfl rfl (AL.go (AO.move rfl rfl (AL.no rfl rfl rfl rfl (AL.no rfl rfl rfl rfl (AL.no rfl rfl rfl rfl ?_)))))))
    refine AL.no rfl rfl rfl rfl (AL.no rfl rfl rfl rfl (AL.go (AO.pickF rfl rfl rfl (AL.go (AO.assign rfl rfl (AL.nil (AK.seqN ?_)))))))
    refine AC.ret ?_
    first | refine AK.ret (L' := L) (F' := F) Tryz.results73 rfl subA (hT ?_) | refine AK.ret (L' := L) (F' := F) Tryz.results73 rfl subA (hF ?_)
    first
    | exact nm_ext (c9.1 c10) c16 c23 c30
    | exact fun e => c10 (c9.2 (by rw [e]))
    | exact fun e => c16 (by rw [e])
    | exact fun e => c23 (by rw [e])
    | exact fun e => c30 (by rw [e])
  ·refine AL.go (AO.move rfl rfl (AL.no rfl rfl rfl rfl (AL.no rfl rfl rfl rfl (AL.no rfl rfl rfl rfl (AL.no rfl rfl rfl rfl (AL.no rfl rfl rfl rfl ?_))))))
   refine AL.go (AO.pickF rfl rfl rfl (AL.go (AO.move rfl rfl (AL.no rfl rfl rfl rfl (AL.no rfl rfl rfl rfl (AL.no rfl rfl rfl rfl (AL.no rfl rfl rfl rfl ?_)))))))
   refine AL.no rfl rfl rfl rfl (AL.go (AO.pickF rfl rfl rfl (AL.go (AO.move rfl rfl (AL.no rfl rfl rfl rfl (AL.no rfl rfl rfl rfl (AL.no rfl rfl rfl rfl ?_)))))))
   refine AL.no rfl rfl rfl rfl (AL.no rfl rfl rfl rfl (AL.go (AO.pickF rfl rfl rfl (AL.go (AO.assign rfl rfl (AL.nil (AK.seqN ?_)))))))
   refine AC.ret ?_
   first | refine AK.ret (L' := L) (F' := F) Tryz.results73 rfl subA (hT ?_) | refine AK.ret (L' := L) (F' := F) Tryz.results73 rfl subA (hF ?_)
   first
   | exact nm_ext (c9.1 c10) c16 c23 c30
   | exact fun e => c10 (c9.2 (by rw [e]))
   | exact fun e => c16 (by rw [e])
   | exact fun e => c23 (by rw [e])
   | exact fun e => c30 (by rw [e])
theorem equalFuncT_c (l m : List Ty) {a1 a2 : Option Addr} {k1 c1 k2 c2 : Nat} (m1 : fL l a1 k1 c1 ∈ F) (m2 : fL m a2 k2 c2 ∈ F) (hT : l = m → R (.bool true) L F) (hF : l ≠ m → R (.bool false) L F) :
    ACalls Tryz.prog W0 70 #[.slice a1 k1 c1, .slice a2 k2 c2, .func (.func 71) #[] #[]] L F R := by
  refine ACalls.body Tryz.func70 rfl Tryz.ntmps70 rfl ?_
  refine AC.seq (AC.region (AL.go (AO.assign rfl rfl (AL.nil (AK.seqN (AC.seq ?_))))))
  refine AC.seq (AC.region (AL.go (AO.move rfl rfl ?_)))
  refine AL.go (AO.len rfl rfl (fun hl1 => ?_) (enc := eTy) (lst := l) (hm := m1))
  refine AL.go (AO.move rfl rfl ?_)
  refine AL.go (AO.len rfl rfl (fun hl2 => ?_) (enc := eTy) (lst := m) (hm := m2))
  refine AL.go (AO.neq rfl rfl rfl (fun c14 => ?_) (fun c14 => ?_))
  ·refine AL.nil (AK.seqN (AC.condT rfl (AC.seq (AC.region (AL.go (AO.assign rfl rfl ?_))))))
   refine AL.nil (AK.seqN (AC.ret (AK.seqR ?_)))
   first | refine AK.ret (L' := L) (F' := F) Tryz.results70 rfl subA (hT ?_) | refine AK.ret (L' := L) (F' := F) Tryz.results70 rfl subA (hF ?_)
   first
   | exact ne_at hkl hkm c29
   | exact fun e => c14 (by rw [e])
   | exact all_of_take hok (by omega) (by omega)
  ·refine AL.nil (AK.seqN (AC.condF rfl (AC.skip (AK.seqN (AC.seq ?_)))))
   refine AC.seq (AC.region (AL.go (AO.move rfl rfl ?_)))
   refine AL.go (AO.len rfl rfl (fun hl3 => ?_) (enc := eTy) (lst := l) (hm := m1))
   refine AL.go (AO.move rfl rfl (AL.nil (AK.seqN (AC.block ?_))))
   refine AC.loop (fun k => k ≤ l.length ∧ l.take k = m.take k) (fun k => [(1, .slice a2 k2 c2), (2, .func (.func 71) #[] #[]), (15, .slice a1 k1 c1), (16, .int .i64 l.length), (17, .int .i64 (k : Int))]) (fun _ => L) (fun _ => F) (fun k => l.length - k) 0 ⟨by omega, by simp⟩ srA (Sub.refl _ _) ?_
   rintro k ⟨hk, hok⟩
   refine AC.seq (AC.region ?_)
   refine AL.go (AO.lss rfl rfl rfl (fun c18 => ?_) (fun c18 => ?_))
   ·refine AL.nil (AK.seqN (AC.seq (AC.condT rfl (AC.skip (AK.seqN ?_)))))
    refine AC.seq (AC.block (AC.seq (AC.region (AL.go (AO.move rfl rfl ?_)))))
    have hkl : k < l.length := by omega
    have hkm : k < m.length := by omega
    refine AL.go (AO.indexAddr rfl rfl rfl rfl (enc := eTy) (lst := l) memA hkl (fun _ _ => ?_))
    refine AL.go (AO.loadFA rfl rfl ?_)
    intro a21 k21 z21 d21 e21 f21
    refine AL.go (AO.alloc rfl (fun b8 => ?_))
    refine AL.go (AO.assign rfl rfl ?_)
    refine AL.go (AO.storeBA rfl rfl rfl rfl ?_)
    refine AL.nil (AK.seqN (AC.seq (AC.region (AL.go (AO.move rfl rfl (AL.go (AO.move rfl rfl ?_)))))))
    refine AL.go (AO.indexAddr rfl rfl rfl rfl (enc := eTy) (lst := m) memA hkm (fun _ _ => ?_))
    refine AL.go (AO.loadFA rfl rfl ?_)
    intro a25 k25 z25 d25 e25 f25
    refine AL.go (AO.alloc rfl (fun b9 => ?_))
    refine AL.go (AO.storeBA rfl rfl rfl rfl ?_)
    refine AL.nil (AK.seqN (AC.seq (AC.region (AL.go (AO.move rfl rfl ?_)))))
    refine AL.go (AO.loadBA rfl rfl ?_)
    refine AL.go (AO.loadBA rfl rfl ?_)
    refine AL.go (AO.callC (cs := []) rfl rfl rfl (likeType_c l[k] m[k] memA memA memA memA (fun c29 => ?_) (fun c29 => ?_)))
    ·refine AL.go (AO.not rfl rfl (AL.nil (AK.seqN (AC.condF rfl (AC.skip (AK.blkN ?_))))))
     refine AK.seqN (AC.region (AL.go (AO.add rfl rfl rfl (by omega) (by omega) (AL.go (AO.move rfl rfl (AL.nil ?_))))))
     refine AK.next (k + 1) ⟨by omega, take_step hok hkl hkm c29⟩ (by omega) srA subA
    ·refine AL.go (AO.not rfl rfl (AL.nil (AK.seqN (AC.condT rfl (AC.seq (AC.region ?_))))))
     refine AL.go (AO.assign rfl rfl (AL.nil (AK.seqN (AC.ret (AK.blkR (AK.seqR ?_))))))
     refine AK.seqR (AK.blkR (AK.seqR ?_))
     first | refine AK.ret (L' := L) (F' := F) Tryz.results70 rfl subA (hT ?_) | refine AK.ret (L' := L) (F' := F) Tryz.results70 rfl subA (hF ?_)
     first
     | exact ne_at hkl hkm c29
     | exact fun e => c14 (by rw [e])
     | exact all_of_take hok (by omega) (by omega)
   ·refine AL.nil (AK.seqN (AC.seq (AC.condF rfl (AC.exit (AK.seqX ?_)))))
    refine AK.seqX (AK.blkX (AK.seqN (AC.seq (AC.region (AL.go (AO.assign rfl rfl ?_))))))
    refine AL.nil (AK.seqN (AC.ret ?_))
    first | refine AK.ret (L' := L) (F' := F) Tryz.results70 rfl subA (hT ?_) | refine AK.ret (L' := L) (F' := F) Tryz.results70 rfl subA (hF ?_)
    first
    | exact ne_at hkl hkm c29
    | exact fun e => c14 (by rw [e])
    | exact all_of_take hok (by omega) (by omega)
theorem equalFuncN_c (l m : List Nmd) {a1 a2 : Option Addr} {k1 c1 k2 c2 : Nat} (m1 : fN l a1 k1 c1 ∈ F) (m2 : fN m a2 k2 c2 ∈ F) (hT : l = m → R (.bool true) L F) (hF : l ≠ m → R (.bool false) L F) :
    ACalls Tryz.prog W0 72 #[.slice a1 k1 c1, .slice a2 k2 c2, .func (.func 73) #[] #[]] L F R := by
  refine ACalls.body Tryz.func72 rfl Tryz.ntmps72 rfl ?_
  refine AC.seq (AC.region (AL.go (AO.assign rfl rfl (AL.nil (AK.seqN (AC.seq ?_))))))
  refine AC.seq (AC.region (AL.go (AO.move rfl rfl ?_)))
  refine AL.go (AO.len rfl rfl (fun hl1 => ?_) (enc := eNm) (lst := l) (hm := m1))
  refine AL.go (AO.move rfl rfl ?_)
  refine AL.go (AO.len rfl rfl (fun hl2 => ?_) (enc := eNm) (lst := m) (hm := m2))
  refine AL.go (AO.neq rfl rfl rfl (fun c14 => ?_) (fun c14 => ?_))
  ·refine AL.nil (AK.seqN (AC.condT rfl (AC.seq (AC.region (AL.go (AO.assign rfl rfl ?_))))))
   refine AL.nil (AK.seqN (AC.ret (AK.seqR ?_)))
   first | refine AK.ret (L' := L) (F' := F) Tryz.results72 rfl subA (hT ?_) | refine AK.ret (L' := L) (F' := F) Tryz.results72 rfl subA (hF ?_)
   first
   | exact ne_at hkl hkm c29
   | exact fun e => c14 (by rw [e])
   | exact all_of_take hok (by omega) (by omega)
  ·refine AL.nil (AK.seqN (AC.condF rfl (AC.skip (AK.seqN (AC.seq ?_)))))
   refine AC.seq (AC.region (AL.go (AO.move rfl rfl ?_)))
   refine AL.go (AO.len rfl rfl (fun hl3 => ?_) (enc := eNm) (lst := l) (hm := m1))
   refine AL.go (AO.move rfl rfl (AL.nil (AK.seqN (AC.block ?_))))
   refine AC.loop (fun k => k ≤ l.length ∧ l.take k = m.take k) (fun k => [(1, .slice a2 k2 c2), (2, .func (.func 73) #[] #[]), (15, .slice a1 k1 c1), (16, .int .i64 l.length), (17, .int .i64 (k : Int))]) (fun _ => L) (fun _ => F) (fun k => l.length - k) 0 ⟨by omega, by simp⟩ srA (Sub.refl _ _) ?_
   rintro k ⟨hk, hok⟩
   refine AC.seq (AC.region ?_)
   refine AL.go (AO.lss rfl rfl rfl (fun c18 => ?_) (fun c18 => ?_))
   ·refine AL.nil (AK.seqN (AC.seq (AC.condT rfl (AC.skip (AK.seqN ?_)))))
    refine AC.seq (AC.block (AC.seq (AC.region (AL.go (AO.move rfl rfl ?_)))))
    have hkl : k < l.length := by omega
    have hkm : k < m.length := by omega
    refine AL.go (AO.indexAddr rfl rfl rfl rfl (enc := eNm) (lst := l) memA hkl (fun _ _ => ?_))
    refine AL.go (AO.loadFA rfl rfl ?_)
    intro a21 k21 z21 d21 e21 f21
    refine AL.go (AO.alloc rfl (fun b8 => ?_))
    refine AL.go (AO.assign rfl rfl ?_)
    refine AL.go (AO.storeBA rfl rfl rfl rfl ?_)
    refine AL.nil (AK.seqN (AC.seq (AC.region (AL.go (AO.move rfl rfl (AL.go (AO.move rfl rfl ?_)))))))
    refine AL.go (AO.indexAddr rfl rfl rfl rfl (enc := eNm) (lst := m) memA hkm (fun _ _ => ?_))
    refine AL.go (AO.loadFA rfl rfl ?_)
    intro a25 k25 z25 d25 e25 f25
    refine AL.go (AO.alloc rfl (fun b9 => ?_))
    refine AL.go (AO.storeBA rfl rfl rfl rfl ?_)
    refine AL.nil (AK.seqN (AC.seq (AC.region (AL.go (AO.move rfl rfl ?_)))))
    refine AL.go (AO.loadBA rfl rfl ?_)
    refine AL.go (AO.loadBA rfl rfl ?_)
    refine AL.go (AO.callC (cs := []) rfl rfl rfl (likeNamed_c l[k] m[k] memA memA memA memA (fun c29 => ?_) (fun c29 => ?_)))
    ·refine AL.go (AO.not rfl rfl (AL.nil (AK.seqN (AC.condF rfl (AC.skip (AK.blkN ?_))))))
     refine AK.seqN (AC.region (AL.go (AO.add rfl rfl rfl (by omega) (by omega) (AL.go (AO.move rfl rfl (AL.nil ?_))))))
     refine AK.next (k + 1) ⟨by omega, take_step hok hkl hkm c29⟩ (by omega) srA subA
    ·refine AL.go (AO.not rfl rfl (AL.nil (AK.seqN (AC.condT rfl (AC.seq (AC.region ?_))))))
     refine AL.go (AO.assign rfl rfl (AL.nil (AK.seqN (AC.ret (AK.blkR (AK.seqR ?_))))))
     refine AK.seqR (AK.blkR (AK.seqR ?_))
     first | refine AK.ret (L' := L) (F' := F) Tryz.results72 rfl subA (hT ?_) | refine AK.ret (L' := L) (F' := F) Tryz.results72 rfl subA (hF ?_)
     first
     | exact ne_at hkl hkm c29
     | exact fun e => c14 (by rw [e])
     | exact all_of_take hok (by omega) (by omega)
   ·refine AL.nil (AK.seqN (AC.seq (AC.condF rfl (AC.exit (AK.seqX ?_)))))
    refine AK.seqX (AK.blkX (AK.seqN (AC.seq (AC.region (AL.go (AO.assign rfl rfl ?_))))))
    refine AL.nil (AK.seqN (AC.ret ?_))
    first | refine AK.ret (L' := L) (F' := F) Tryz.results72 rfl subA (hT ?_) | refine AK.ret (L' := L) (F' := F) Tryz.results72 rfl subA (hF ?_)
    first
    | exact ne_at hkl hkm c29
    | exact fun e => c14 (by rw [e])
    | exact all_of_take hok (by omega) (by omega)
theorem ulike_c (T U : List Ty) (N M : List Nmd) {a a2 a3 a4 : Option Addr} {k c k2 c2 k3 c3 k4 c4 : Nat} (m1 : fL T a k c ∈ F) (m2 : fN N a2 k2 c2 ∈ F) (m3 : fL U a3 k3 c3 ∈ F) (m4 : fN M a4 k4 c4 ∈ F) (hT : T = U → N = M → R (.bool true) L F) (hF : ¬(T = U ∧ N = M) → R (.bool false) L F) :
    ACalls Tryz.prog W0 27 #[.agg #[.slice a k c, .slice a2 k2 c2], .agg #[.slice a3 k3 c3, .slice a4 k4 c4]] L F R := by
  refine ACalls.body Tryz.func27 rfl Tryz.ntmps27 rfl ?_
  refine AC.seq (AC.region (AL.go (AO.box rfl rfl (fun b2 => ?_))))
  refine AL.go (AO.box rfl rfl (fun b3 => ?_))
  refine AL.go (AO.assign rfl rfl (AL.nil (AK.seqN (AC.seq (AC.region (AL.go (AO.field rfl rfl ?_)))))))
  refine AL.go (AO.loadB rfl rfl ?_)
  refine AL.go (AO.field rfl rfl ?_)
  refine AL.go (AO.loadB rfl rfl ?_)
  refine AL.go (AO.call rfl rfl (equalFuncT_c T U memA memA (fun c9 => ?_) (fun c9 => ?_)))
  ·refine AL.go (AO.move rfl rfl (AL.yes rfl rfl (AO.field rfl rfl ?_)))
   refine AL.yes rfl rfl (AO.loadB rfl rfl ?_)
   refine AL.yes rfl rfl (AO.field rfl rfl ?_)
   refine AL.yes rfl rfl (AO.loadB rfl rfl ?_)
   refine AL.yes rfl rfl (AO.call rfl rfl (equalFuncN_c N M memA memA (fun c15 => ?_) (fun c15 => ?_)))
   ·refine AL.go (AO.pickT rfl rfl rfl (AL.go (AO.assign rfl rfl (AL.nil (AK.seqN (AC.ret ?_))))))
    first | exact AK.ret (L' := L) (F' := F) Tryz.results27 rfl subA (hT c9 c15) | exact AK.ret (L' := L) (F' := F) Tryz.results27 rfl subA (hF (fun e => c9 e.1)) | exact AK.ret (L' := L) (F' := F) Tryz.results27 rfl subA (hF (fun e => c15 e.2))
   ·refine AL.go (AO.pickT rfl rfl rfl (AL.go (AO.assign rfl rfl (AL.nil (AK.seqN (AC.ret ?_))))))
    first | exact AK.ret (L' := L) (F' := F) Tryz.results27 rfl subA (hT c9 c15) | exact AK.ret (L' := L) (F' := F) Tryz.results27 rfl subA (hF (fun e => c9 e.1)) | exact AK.ret (L' := L) (F' := F) Tryz.results27 rfl subA (hF (fun e => c15 e.2))
  ·refine AL.go (AO.move rfl rfl (AL.no rfl rfl rfl rfl (AL.no rfl rfl rfl rfl (AL.no rfl rfl rfl rfl (AL.no rfl rfl rfl rfl (AL.no rfl rfl rfl rfl ?_))))))
   refine AL.go (AO.pickF rfl rfl rfl (AL.go (AO.assign rfl rfl (AL.nil (AK.seqN (AC.ret ?_))))))
   first | exact AK.ret (L' := L) (F' := F) Tryz.results27 rfl subA (hT c9 c15) | exact AK.ret (L' := L) (F' := F) Tryz.results27 rfl subA (hF (fun e => c9 e.1)) | exact AK.ret (L' := L) (F' := F) Tryz.results27 rfl subA (hF (fun e => c15 e.2))
end
end Go.Sy
namespace Go.Sy
open Go Go.Proofs Go.RowKit
attribute [local irreducible] AC AT AO AK AH ACalls Sub Res.cells Res.nix Res.own Res.map Exit.then Exit.inBlock bodyPost Code.wp Next Post Kont
section
variable {W0 : World} {L : List Res} {F : List Fact} {R : Value → List Res → List Fact → Prop}
set_option maxRecDepth 100000
set_option maxHeartbeats 16000000
theorem substIn_c (g : Glob W0) (l : List Ty) (hok : ∀ t ∈ l, TyOk t) (hr : rightP l) (n : Nat) (hn : n < l.length) (args : List Int) (_hargs : args.length ≤ 1000) {a a2 : Option Addr} {k c k2 c2 : Nat} (mL : fL l a k c ∈ F) (mA : fI args a2 k2 c2 ∈ F) (mN : Fact.slc (.slice none 0 0) 5 [] ∈ F)
    (h3 : ∀ e, subR l n args = .error e → R (.tuple #[.slice none 0 0, .int .i64 0, .int .i64 e]) L (fL [] none 0 0 :: F))
    (h4 : ∀ o q a k c, subR l n args = .ok (o, q) → R (.tuple #[.slice a k c, .int .i64 q, .int .i64 0]) L (fL o a k c :: F)) :
    ACalls Tryz.prog W0 114 #[.slice a k c, .int .i64 (n : Int), .slice a2 k2 c2] L F R := by
  have h400 := hr.2.1
  have hAl := asks_len l (n + 1) (by omega)
  have hAget := getD_eq (l := asksL (l.take (n + 1))) (0 : Int) (q := n) (by omega)
  have hMl : (partsL l n).length = n + 1 := partsN_len l n (n + 1)
  refine ACalls.body Tryz.func114 rfl Tryz.ntmps114 rfl ?_
  refine AC.seq (AC.region (AL.go (AO.box rfl rfl (fun b3 => ?_))))
  refine AL.go (AO.assign rfl rfl (AL.go (AO.assign rfl rfl (AL.go (AO.assign rfl rfl (AL.nil (AK.seqN (AC.seq ?_))))))))
  refine AC.seq (AC.region ?_)
  refine AL.go (AO.loadB rfl rfl ?_)
  refine AL.go (AO.move rfl rfl ?_)
  refine AL.go (AO.call rfl rfl (there_c g l hok (n : Int) memA (fun c => absurd hr c) (fun _ c => absurd (by omega) c) (fun _ _ => ?_)))
  refine AL.go (AO.assign rfl rfl (AL.nil (AK.seqN (AC.seq (AC.region (AL.go (AO.move rfl rfl ?_)))))))
  refine AL.go (AO.neq rfl rfl rfl (fun c28 => absurd rfl c28) (fun _ => ?_))
  refine AL.nil (AK.seqN (AC.condF rfl (AC.skip (AK.seqN (AC.seq ?_)))))
  refine AC.region ?_
  refine AL.go (AO.loadB rfl rfl ?_)
  refine AL.go (AO.move rfl rfl ?_)
  refine AL.go (AO.call rfl rfl (asks_c l hr n hn memA (fun a32 k32 z32 => ?_)))
  refine AL.go (AO.assign rfl rfl (AL.nil (AK.seqN (AC.seq (AC.region ?_)))))
  refine AL.go (AO.makeFunc rfl rfl ?_)
  refine AL.go (AO.assign rfl rfl (AL.nil (AK.seqN (AC.seq (AC.seq (AC.region ?_))))))
  refine AL.go (AO.move rfl rfl (AL.go (AO.move rfl rfl ?_)))
  refine AL.go (AO.call rfl rfl (containsFuncI_c args (show fI args a2 k2 c2 ∈ _ from memA) _ [.pointer (some ⟨b3, 0, none⟩)] (fun s => s < 0 ∨ s ≥ l.length) (fun s F' hF' R hT hF => sub1_c l s (i := 0) (hF' _ memA) rfl hT hF) (fun c36 => ?_) (fun c36 => ?_)))
  ·refine AL.go (AO.move rfl rfl (AL.no rfl rfl rfl rfl (AL.no rfl rfl rfl rfl (AL.no rfl rfl rfl rfl (AL.no rfl rfl rfl rfl (AL.no rfl rfl rfl rfl ?_))))))
   refine AL.no rfl rfl rfl rfl (AL.no rfl rfl rfl rfl (AL.go (AO.pickT rfl rfl rfl (AL.nil (AK.seqN (AC.condT rfl ?_))))))
   refine AC.seq (AC.region (AL.go (AO.assign rfl rfl (AL.go (AO.assign rfl rfl (AL.go (AO.assign rfl rfl (AL.nil ?_))))))))
   refine AK.seqN (AC.ret (AK.seqR ?_))
   exact AK.ret3 (L' := L) (F' := fL [] none 0 0 :: F) Tryz.results114 rfl rfl rfl (Sub.drop.trans (Sub.facts (mem1 memA (fun x hx => by repeat (first | exact hx | refine List.mem_cons_of_mem _ ?_))))) (h3 1 (subR_bad (.inr (bad_of c36))))
  ·refine AL.go (AO.move rfl rfl (AL.yes rfl rfl (AO.move rfl rfl ?_)))
   refine AL.yes rfl rfl (AO.len rfl rfl (fun hl39 => ?_) (enc := eI) (lst := args) (hm := (show fI args a2 k2 c2 ∈ _ from memA)))
   refine AL.yes rfl rfl (AO.move rfl rfl (AL.yes rfl rfl (AO.move rfl rfl ?_)))
   refine AL.yes rfl rfl (AO.indexAddr (k := n) rfl rfl rfl rfl (enc := eI) (lst := asksL (l.take (n + 1))) memA (by omega) (fun _ _ => ?_))
   rw [← hAget]
   refine AL.yes rfl rfl (AO.loadF rfl rfl ?_)
   intros
   refine AL.yes rfl rfl (AO.lss rfl rfl rfl (fun c44 => ?_) (fun c44 => ?_))
   ·refine AL.go (AO.pickF rfl rfl rfl (AL.nil (AK.seqN (AC.condT rfl (AC.seq (AC.region ?_))))))
    refine AL.go (AO.assign rfl rfl (AL.go (AO.assign rfl rfl (AL.go (AO.assign rfl rfl (AL.nil (AK.seqN (AC.ret ?_))))))))
    refine AK.seqR ?_
    exact AK.ret3 (L' := L) (F' := fL [] none 0 0 :: F) Tryz.results114 rfl rfl rfl (Sub.drop.trans (Sub.facts (mem1 memA (fun x hx => by repeat (first | exact hx | refine List.mem_cons_of_mem _ ?_))))) (h3 1 (subR_bad (.inl c44)))
   ·refine AL.go (AO.pickF rfl rfl rfl (AL.nil (AK.seqN (AC.condF rfl (AC.skip (AK.seqN ?_))))))
    refine AC.seq (AC.region ?_)
    refine AL.go (AO.makeMap vI vI rfl (fun b46 => ?_))
    refine AL.go (AO.assign rfl rfl (AL.nil (AK.seqN (AC.seq (AC.region ?_)))))
    refine AL.go (AO.loadB rfl rfl ?_)
    refine AL.go (AO.assign rfl rfl (AL.nil (AK.seqN (AC.seq (AC.seq (AC.region ?_))))))
    refine AL.go (AO.loadB rfl rfl ?_)
    refine AL.go (AO.move rfl rfl ?_)
    have hgood := good_of c36
    have hnb : ¬ badArgs l n args := not_bad hgood (by omega)
    refine AL.go (AO.call rfl rfl (parts_c l hr n hn memA (fun a50 k50 z50 => ?_)))
    refine AL.go (AO.len rfl rfl (fun hl51 => ?_) (enc := eBl) (lst := partsL l n) (hm := memA))
    refine AL.go (AO.move rfl rfl (AL.nil (AK.seqN (AC.block ?_))))
    refine AC.loop (fun (x : Nat × (List Ty × List Int × (Int → Option Int)) × (Option Addr × Nat × Nat)) => x.1 ≤ n + 1 ∧ subN l args (asksL (l.take (n + 1))) (partsL l n) x.1 = .ok (x.2.1.1, x.2.1.2.1) ∧ SubOk l x.1 x.2.1.1 x.2.1.2.1 ∧ MapS (partsL l n) x.2.1.2.1 x.1 x.2.1.2.2) (fun x => [(1, .int .i64 (n : Int)), (2, .slice a2 k2 c2), (3, .pointer (some ⟨b3, 0, none⟩)), (10, .slice a32 k32 z32), (12, .map (some b46)), (13, .slice x.2.2.1 x.2.2.2.1 x.2.2.2.2), (50, .slice a50 k50 z50), (51, .int .i64 (partsL l n).length), (52, .int .i64 (x.1 : Int))]) (fun x => Res.map b46 vI vI x.2.1.2.2 :: Res.cells b3 #[.slice a k c] 22 :: L) (fun x => fL x.2.1.1 x.2.2.1 x.2.2.2.1 x.2.2.2.2 :: _) (fun x => n + 1 - x.1) (0, (l, [], fun _ => none), (a, k, c)) ⟨Nat.zero_le _, rfl, ⟨hr, List.prefix_rfl, rfl, fun p hp => absurd hp (by simp)⟩, fun p hp => absurd hp (by simp)⟩ srA (Sub.facts (mem1 memA (fun x hx => hx))) ?_
    rintro ⟨q, ⟨out, ins, m⟩, ⟨a13, k13, c13⟩⟩ ⟨hq, hs, hso, hm⟩
    simp only at hq hs hso hm ⊢
    refine AC.seq (AC.region ?_)
    refine AL.go (AO.lss rfl rfl rfl (fun c53 => ?_) (fun c53 => ?_))
    ·refine AL.nil (AK.seqN (AC.seq (AC.condT rfl (AC.skip (AK.seqN ?_)))))
     refine AC.seq (AC.block (AC.seq (AC.region (AL.go (AO.move rfl rfl ?_)))))
     have hqn : q < n + 1 := by omega
     have hql : q < l.length := by omega
     have hqA : q < (asksL (l.take (n + 1))).length := by omega
     have hqM : q < (partsL l n).length := by omega
     have hMq := getD_eq false hqM
     have hAq := getD_eq (0 : Int) hqA
     have hrt := rt_of_right hr hql
     have hout := hso.right.2.1
     have hol := hso.pre.length_le
     refine AL.go (AO.indexAddr rfl rfl rfl rfl (enc := eBl) (lst := partsL l n) memA hqM (fun _ _ => ?_))
     rw [← hMq]
     refine AL.go (AO.loadF rfl rfl ?_)
     intros
     refine AL.go (AO.assign rfl rfl (AL.go (AO.assign rfl rfl (AL.nil (AK.seqN (AC.seq (AC.region ?_)))))))
     refine AL.go (AO.loadB rfl rfl ?_)
     refine AL.go (AO.move rfl rfl ?_)
     refine AL.go (AO.indexAddr rfl rfl rfl rfl (show fL l a k c ∈ _ from memA) hql (fun _ _ => ?_))
     refine AL.go (AO.loadFA rfl rfl ?_)
     intro a60 k60 z60 d60 e60 f60
     refine AL.go (AO.alloc rfl (fun b16 => ?_))
     refine AL.go (AO.storeBA rfl rfl rfl rfl ?_)
     refine AL.nil (AK.seqN (AC.seq (AC.block (AC.seq (AC.region ?_)))))
     refine AL.go (AO.move rfl rfl (AL.go (AO.not rfl rfl (AL.go (AO.assign rfl rfl (AL.nil (AK.seqN ?_)))))))
     refine AC.cond rfl (fun c61 => ?_) (fun c61 => ?_)
     ·refine AC.exit (AK.blkY rfl (AK.seqX (AK.blkX (AK.seqN (AC.region ?_)))))
      refine AL.go (AO.add rfl rfl rfl (by omega) (by omega) (AL.go (AO.move rfl rfl (AL.nil ?_))))
      have hM0 : (partsL l n).getD q false = false := by simpa using c61
      exact AK.next (q + 1, (out, ins ++ [(q : Int)], m), (a13, k13, c13)) ⟨by simp only; omega, sub_out hs (.inl hM0), hso.step hso.right List.prefix_rfl (by simp only; omega), hm.skip hso.len _ hM0⟩ (by simp only; omega) srA (Sub.drop.trans (Sub.facts (mem1 memA (fun x hx => by repeat (first | exact hx | refine List.mem_cons_of_mem _ ?_)))))
     ·refine AC.seq (AC.region (AL.go (AO.field rfl rfl ?_)))
      refine AL.go (AO.loadB rfl rfl ?_)
      refine AL.go (AO.eql rfl rfl rfl (fun c67 => ?_) (fun c67 => ?_))
      ·refine AL.go (AO.assign rfl rfl (AL.nil (AK.seqN (AC.condT rfl (AC.seq (AC.region ?_))))))
       refine AL.go (AO.move rfl rfl (AL.go (AO.move rfl rfl (AL.go (AO.move rfl rfl (AL.go (AO.field rfl rfl ?_)))))))
       refine AL.go (AO.loadB rfl rfl ?_)
       have hM1 : (partsL l n).getD q false = true := by simpa using c61
       have hp9 := hrt.param c67
       have hask := parts_ask hr hn (n + 1) (Nat.le_refl _) hM1
       have hA9 : (asksL (l.take (n + 1))).getD q 0 = l[q].n + 1 := by
        rw [asks_at hn (by omega)]; unfold ask1 ask0; rw [if_pos c67, hp9.2.2]; rfl
       have hna : l[q].n.toNat < args.length := by omega
       have hga := getD_eq (0 : Int) hna
       have hgr := hgood _ (List.getElem_mem hna)
       refine AL.go (AO.indexAddr (k := l[q].n.toNat) rfl rfl rfl (by omega) (show fI args a2 k2 c2 ∈ _ from memA) hna (fun _ _ => ?_))
       rw [← hga]
       refine AL.go (AO.loadF rfl rfl ?_)
       intros
       refine AL.go (AO.mapUpdate (kenc := vI) (venc := vI) (m := m) (i := 1) (q : Int) (args.getD l[q].n.toNat 0) rfl rfl rfl rfl ?_)
       simp only [List.set_cons_zero, List.set_cons_succ]
       refine AL.nil (AK.seqN (AC.exit (AK.blkY rfl (AK.seqX (AK.blkX ?_)))))
       refine AK.seqN (AC.region (AL.go (AO.add rfl rfl rfl (by omega) (by omega) (AL.go (AO.move rfl rfl (AL.nil ?_))))))
       exact AK.next (q + 1, (out, ins ++ [args.getD l[q].n.toNat 0], upd m (q : Int) (args.getD l[q].n.toNat 0)), (a13, k13, c13)) ⟨by simp only; omega, sub_param hs hM1 (by omega) hql c67, hso.step hso.right List.prefix_rfl (by simp only; rw [hga]; omega), hm.upd hso.len _⟩ (by simp only; omega) srA (Sub.drop.trans (Sub.facts (mem1 memA (fun x hx => by repeat (first | exact hx | refine List.mem_cons_of_mem _ ?_)))))
      ·refine AL.go (AO.assign rfl rfl (AL.nil (AK.seqN (AC.condF rfl (AC.seq (AC.region ?_))))))
       refine AL.go (AO.move rfl rfl (AL.go (AO.move rfl rfl ?_)))
       have hM1 : (partsL l n).getD q false = true := by simpa using c61
       refine AL.go (AO.indexAddr rfl rfl rfl rfl (enc := eI) (lst := asksL (l.take (n + 1))) memA hqA (fun _ _ => ?_))
       rw [← hAq]
       refine AL.go (AO.loadF rfl rfl ?_)
       intros
       refine AL.go (AO.eql rfl rfl rfl (fun c80 => ?_) (fun c80 => ?_))
       ·refine AL.go (AO.assign rfl rfl (AL.nil (AK.seqN (AC.condT rfl (AC.seq (AC.region ?_))))))
        refine AL.go (AO.move rfl rfl (AL.go (AO.move rfl rfl (AL.go (AO.move rfl rfl ?_)))))
        refine AL.go (AO.mapUpdate (kenc := vI) (venc := vI) (m := m) (i := 1) (q : Int) (q : Int) rfl rfl rfl rfl ?_)
        simp only [List.set_cons_zero, List.set_cons_succ]
        refine AL.nil (AK.seqN (AC.exit (AK.blkY rfl (AK.seqX (AK.blkX ?_)))))
        refine AK.seqN (AC.region (AL.go (AO.add rfl rfl rfl (by omega) (by omega) (AL.go (AO.move rfl rfl (AL.nil ?_))))))
        exact AK.next (q + 1, (out, ins ++ [(q : Int)], upd m (q : Int) (q : Int)), (a13, k13, c13)) ⟨by simp only; omega, sub_out hs (.inr c80), hso.step hso.right List.prefix_rfl (by simp only; omega), hm.upd hso.len _⟩ (by simp only; omega) srA (Sub.drop.trans (Sub.facts (mem1 memA (fun x hx => by repeat (first | exact hx | refine List.mem_cons_of_mem _ ?_)))))
       ·refine AL.go (AO.assign rfl rfl (AL.nil (AK.seqN (AC.condF rfl (AC.skip (AK.blkN ?_))))))
        refine AK.seqN (AC.seq (AC.region (AL.go (AO.field rfl rfl ?_))))
        refine AL.go (AO.loadB rfl rfl ?_)
        refine AL.go (AO.call rfl rfl (clone_c l[q].kids (by have := hrt.few; omega) (show fK l[q] _ _ _ ∈ _ from memA) (fun a86 k86 z86 => ?_)))
        rw [← kidsS_zero ins l[q].kids]
        refine AL.go (AO.field rfl rfl ?_)
        refine AL.go (AO.storeB rfl rfl rfl ?_)
        refine AL.nil (AK.seqN (AC.seq (AC.seq (AC.region (AL.go (AO.field rfl rfl ?_))))))
        refine AL.go (AO.loadB rfl rfl ?_)
        refine AL.go (AO.lenO (i := 0) rfl rfl rfl (fun hk90 => ?_))
        rw [List.length_map, kidsS_len]
        refine AL.go (AO.move rfl rfl (AL.nil (AK.seqN (AC.block ?_))))
        refine AC.loop (fun (v : Nat) => v ≤ l[q].kids.length) (fun v => [(1, .int .i64 (n : Int)), (2, .slice a2 k2 c2), (3, .pointer (some ⟨b3, 0, none⟩)), (10, .slice a32 k32 z32), (12, .map (some b46)), (13, .slice a13 k13 c13), (50, .slice a50 k50 z50), (51, .int .i64 (partsL l n).length), (52, .int .i64 (q : Int)), (14, .int .i64 (q : Int)), (16, .pointer (some ⟨b16, 0, none⟩)), (89, .slice a86 k86 z86), (90, .int .i64 l[q].kids.length), (91, .int .i64 (v : Int))]) (fun v => Res.own (.slice a86 k86 z86) 3 1 ((kidsS ins l[q].kids v).map eI) :: _) (fun _ => _) (fun v => l[q].kids.length - v) 0 (Nat.zero_le _) srA (Sub.refl _ _) ?_
        rintro v hv
        refine AC.seq (AC.region ?_)
        refine AL.go (AO.lss rfl rfl rfl (fun c92 => ?_) (fun c92 => ?_))
        ·refine AL.nil (AK.seqN (AC.seq (AC.condT rfl (AC.skip (AK.seqN ?_)))))
         refine AC.seq (AC.block (AC.seq (AC.region (AL.go (AO.move rfl rfl ?_)))))
         have hkf := hrt.few
         have hvl : v < l[q].kids.length := by omega
         have hb := hrt.kids _ (List.getElem_mem hvl)
         have hMk := parts_kid hr hn (by omega) hM1 (List.getElem_mem hvl)
         have hmk := hm l[q].kids[v].toNat (by omega) hMk
         rw [show ((l[q].kids[v].toNat : Nat) : Int) = l[q].kids[v] by omega] at hmk
         have hkl := kidsS_len ins l[q].kids v
         refine AL.go (AO.indexAddrO (i := 0) (q := v) rfl rfl rfl rfl rfl (by rw [List.length_map]; omega) (fun bo ho => ?_))
         subst ho
         refine AL.go (AO.loadO (i := 0) (q := v) rfl rfl rfl rfl (eIs_get (kidsS_get hvl)) ?_)
         refine AL.go (AO.assign rfl rfl (AL.go (AO.assign rfl rfl (AL.nil (AK.seqN (AC.region (AL.go (AO.field rfl rfl ?_))))))))
         refine AL.go (AO.loadB rfl rfl ?_)
         refine AL.go (AO.move rfl rfl (AL.go (AO.move rfl rfl (AL.go (AO.move rfl rfl ?_)))))
         refine AL.go (AO.lookup (kenc := vI) (venc := vI) (m := m) (i := 2) l[q].kids[v] rfl rfl rfl rfl ?_)
         rw [hmk]
         refine AL.go (AO.indexAddrO (i := 0) (q := v) rfl rfl rfl rfl rfl (by rw [List.length_map]; omega) (fun bo2 ho2 => ?_))
         cases ho2
         refine AL.go (AO.storeO (i := 0) (q := v) (v := .int .i64 (ins.getD l[q].kids[v].toNat 0)) rfl rfl rfl rfl rfl (by rw [List.length_map]; omega) ?_)
         rw [eIs_set, kidsS_set hvl]
         refine AL.nil (AK.blkN (AK.seqN (AC.region (AL.go (AO.add rfl rfl rfl (by omega) (by omega) (AL.go (AO.move rfl rfl ?_)))))))
         refine AL.nil ?_
         refine AK.next (v + 1) (by omega) (by omega) srA subF
        ·refine AL.nil (AK.seqN (AC.seq (AC.condF rfl (AC.exit (AK.seqX ?_)))))
         refine AK.seqX (AK.blkX (AK.seqN (AC.seq (AC.seq (AC.region ?_)))))
         refine AL.go (AO.field rfl rfl ?_)
         refine AL.go (AO.loadB rfl rfl ?_)
         have hkd : ∀ k ∈ (mapK ins l[q]).kids, 0 ≤ k ∧ k < out.length := mapK_kids hso.ins hrt.kids
         have htok : TyOk (mapK ins l[q]) := mapK_ok hout (right_ok hr _ (List.getElem_mem hql)) hkd
         have hput := sub_put hs hM1 c80 hql c67
         rw [kidsS_all ins l[q].kids (show l[q].kids.length ≤ v by omega)]
         refine AT.sub ((Sub.commit (i := 0) rfl).trans Sub.drop) ?_
         refine AL.go (AO.eql rfl rfl rfl (fun c106 => ?_) (fun c106 => ?_))
         ·refine AL.nil (AK.seqN (AC.condT rfl (AC.seq (AC.region (AL.go (AO.move rfl rfl ?_))))))
          refine AL.go (AO.loadBA rfl rfl ?_)
          have hwk : (mapK ins l[q]).words.length = (mapK ins l[q]).kids.length := by unfold mapK; simp only [List.length_map]; exact hrt.iface c106
          refine AL.go (AO.call rfl rfl (terms_c out hout (mapK ins l[q]) htok.kids hkd hwk (hrt.bare c106) (show fL out a13 k13 c13 ∈ _ from memA) (show fW (mapK ins l[q]) _ _ _ ∈ _ from memA) (show fK (mapK ins l[q]) _ _ _ ∈ _ from memA) (fun c110 => ?_) (fun c110 p1 p2 p3 p4 p5 p6 => ?_)))
          ·refine AL.go (AO.move rfl rfl (AL.go (AO.extract rfl rfl rfl ?_)))
           refine AL.go (AO.extract rfl rfl rfl ?_)
           refine AL.go (AO.alloc rfl (fun b19 => ?_))
           refine AL.go (AO.storeBA rfl rfl rfl rfl ?_)
           refine AL.go (AO.assign rfl rfl (AL.nil (AK.seqN (AC.seq (AC.seq (AC.region ?_))))))
           refine AL.go (AO.move rfl rfl (AL.go (AO.not rfl rfl (AL.nil (AK.seqN (AC.condT rfl (AC.seq ?_)))))))
           refine AC.region (AL.go (AO.assign rfl rfl (AL.go (AO.assign rfl rfl (AL.go (AO.assign rfl rfl (AL.nil (AK.seqN ?_))))))))
           refine AC.ret (AK.seqR (AK.seqR (AK.blkR (AK.seqR (AK.seqR ?_)))))
           refine AK.blkR (AK.seqR ?_)
           exact AK.ret3 (L' := L) (F' := fL [] none 0 0 :: F) Tryz.results114 rfl rfl rfl (Sub.drop.trans (Sub.drop.trans (Sub.drop.trans (Sub.drop.trans (Sub.facts (mem1 memA (fun x hx => by repeat (first | exact hx | refine List.mem_cons_of_mem _ ?_)))))))) (h3 11 (subR_error hnb hqn (hput.trans (put_odd c106 c110))))
          ·refine AL.go (AO.move rfl rfl (AL.go (AO.extract rfl rfl rfl ?_)))
           refine AL.go (AO.extract rfl rfl rfl ?_)
           refine AL.go (AO.alloc rfl (fun b19 => ?_))
           refine AL.go (AO.storeBA rfl rfl rfl rfl ?_)
           refine AL.go (AO.assign rfl rfl (AL.nil (AK.seqN (AC.seq (AC.seq (AC.region ?_))))))
           refine AL.go (AO.move rfl rfl (AL.go (AO.not rfl rfl (AL.nil (AK.seqN (AC.condF rfl (AC.skip ?_)))))))
           refine AK.seqN (AC.region ?_)
           refine AL.go (AO.loadBA rfl rfl ?_)
           refine AL.go (AO.storeBA rfl rfl rfl rfl ?_)
           refine AL.nil (AK.seqN (AC.seq (AC.region (AL.go (AO.move rfl rfl ?_)))))
           refine AL.go (AO.loadBA rfl rfl ?_)
           refine AL.go (AO.call rfl rfl (add2_c g out (right_ok hso.right) (termsT out.length (mapK ins l[q])) (termsT_ok hout htok hwk hkd) (show fL out a13 k13 c13 ∈ _ from memA) (show fW (termsT out.length (mapK ins l[q])) p1 p2 p3 ∈ _ from memA) (show fK (termsT out.length (mapK ins l[q])) p4 p5 p6 ∈ _ from memA) (fun c => absurd hso.right c) (fun _ o2 i2 e2 a119 k119 c119 hP => ?_)))
           rw [put_iface (t := mapK ins l[q]) hso.right c106 c110 hP] at hput
           refine AL.go (AO.move rfl rfl (AL.go (AO.extract rfl rfl rfl (AL.go (AO.extract rfl rfl rfl (AL.go (AO.extract rfl rfl rfl (AL.go (AO.assign rfl rfl (AL.go (AO.assign rfl rfl ?_)))))))))))
           refine AL.go (AO.assign rfl rfl (AL.nil (AK.seqN (AC.seq (AC.seq (AC.region ?_))))))
           refine AL.go (AO.move rfl rfl ?_)
           refine AL.go (AO.neq rfl rfl rfl (fun c124 => ?_) (fun c124 => ?_))
           ·refine AL.nil (AK.seqN (AC.condT rfl (AC.seq (AC.region (AL.go (AO.move rfl rfl ?_))))))
            refine AL.go (AO.assign rfl rfl (AL.go (AO.assign rfl rfl (AL.go (AO.assign rfl rfl (AL.nil (AK.seqN (AC.ret ?_))))))))
            refine AK.seqR (AK.blkR (AK.seqR (AK.seqR (AK.blkR (AK.seqR ?_)))))
            rw [if_neg c124] at hput
            first
            | exact AK.ret3 (L' := L) (F' := fL [] none 0 0 :: F) Tryz.results114 rfl rfl rfl (Sub.drop.trans (Sub.drop.trans (Sub.drop.trans (Sub.drop.trans (Sub.facts (mem1 memA (fun x hx => by repeat (first | exact hx | refine List.mem_cons_of_mem _ ?_)))))))) (h3 e2 (subR_error hnb (by omega) hput))
            | exact AK.ret3 (L' := L) (F' := fL [] none 0 0 :: F) Tryz.results114 rfl rfl rfl (Sub.drop.trans (Sub.drop.trans (Sub.drop.trans (Sub.facts (mem1 memA (fun x hx => by repeat (first | exact hx | refine List.mem_cons_of_mem _ ?_))))))) (h3 e2 (subR_error hnb (by omega) hput))
           ·refine AL.nil (AK.seqN (AC.condF rfl (AC.skip (AK.seqN (AC.region ?_)))))
            refine AL.go (AO.move rfl rfl (AL.go (AO.move rfl rfl (AL.go (AO.move rfl rfl (AL.go (AO.move rfl rfl (AL.go (AO.assign rfl rfl ?_)))))))))
            have hmi : m = m := rfl
            refine AL.go (AO.mapUpdate (kenc := vI) (venc := vI) (m := m) (q : Int) i2 rfl rfl rfl (by repeat (first | exact has0 | apply hasS)) ?_)
            simp only [List.set_cons_zero, List.set_cons_succ]
            refine AL.nil (AK.blkN (AK.seqN (AC.region (AL.go (AO.add rfl rfl rfl (by omega) (by omega) (AL.go (AO.move rfl rfl ?_)))))))
            refine AL.nil ?_
            rw [if_pos c124] at hput
            obtain ⟨hr2, hp2, hi2, hi3⟩ := add_pre hso.right hP c124
            first
            | exact AK.next (q + 1, (o2, ins ++ [i2], upd m (q : Int) i2), (a119, k119, c119)) ⟨by simp only; omega, hput, hso.step hr2 hp2 ⟨hi2, hi3⟩, hm.upd hso.len _⟩ (by simp only; omega) srA (Sub.drop.trans (Sub.drop.trans (Sub.facts (mem1 memA (fun x hx => by repeat (first | exact hx | refine List.mem_cons_of_mem _ ?_))))))
            | exact AK.next (q + 1, (o2, ins ++ [i2], upd m (q : Int) i2), (a119, k119, c119)) ⟨by simp only; omega, hput, hso.step hr2 hp2 ⟨hi2, hi3⟩, hm.upd hso.len _⟩ (by simp only; omega) srA (Sub.drop.trans (Sub.facts (mem1 memA (fun x hx => by repeat (first | exact hx | refine List.mem_cons_of_mem _ ?_)))))
         ·refine AL.nil (AK.seqN (AC.condF rfl (AC.skip (AK.seqN (AC.seq ?_)))))
          refine AC.region (AL.go (AO.move rfl rfl ?_))
          refine AL.go (AO.loadBA rfl rfl ?_)
          refine AL.go (AO.call rfl rfl (add2_c g out (right_ok hso.right) (mapK ins l[q]) htok (show fL out a13 k13 c13 ∈ _ from memA) (show fW (mapK ins l[q]) _ _ _ ∈ _ from memA) (show fK (mapK ins l[q]) _ _ _ ∈ _ from memA) (fun c => absurd hso.right c) (fun _ o2 i2 e2 a119 k119 c119 hP => ?_)))
          rw [put_plain (t := mapK ins l[q]) hso.right c106 hP] at hput
          refine AL.go (AO.move rfl rfl (AL.go (AO.extract rfl rfl rfl (AL.go (AO.extract rfl rfl rfl (AL.go (AO.extract rfl rfl rfl (AL.go (AO.assign rfl rfl (AL.go (AO.assign rfl rfl ?_)))))))))))
          refine AL.go (AO.assign rfl rfl (AL.nil (AK.seqN (AC.seq (AC.seq (AC.region ?_))))))
          refine AL.go (AO.move rfl rfl ?_)
          refine AL.go (AO.neq rfl rfl rfl (fun c124 => ?_) (fun c124 => ?_))
          ·refine AL.nil (AK.seqN (AC.condT rfl (AC.seq (AC.region (AL.go (AO.move rfl rfl ?_))))))
           refine AL.go (AO.assign rfl rfl (AL.go (AO.assign rfl rfl (AL.go (AO.assign rfl rfl (AL.nil (AK.seqN (AC.ret ?_))))))))
           refine AK.seqR (AK.blkR (AK.seqR (AK.seqR (AK.blkR (AK.seqR ?_)))))
           rw [if_neg c124] at hput
           first
           | exact AK.ret3 (L' := L) (F' := fL [] none 0 0 :: F) Tryz.results114 rfl rfl rfl (Sub.drop.trans (Sub.drop.trans (Sub.drop.trans (Sub.drop.trans (Sub.facts (mem1 memA (fun x hx => by repeat (first | exact hx | refine List.mem_cons_of_mem _ ?_)))))))) (h3 e2 (subR_error hnb (by omega) hput))
           | exact AK.ret3 (L' := L) (F' := fL [] none 0 0 :: F) Tryz.results114 rfl rfl rfl (Sub.drop.trans (Sub.drop.trans (Sub.drop.trans (Sub.facts (mem1 memA (fun x hx => by repeat (first | exact hx | refine List.mem_cons_of_mem _ ?_))))))) (h3 e2 (subR_error hnb (by omega) hput))
          ·refine AL.nil (AK.seqN (AC.condF rfl (AC.skip (AK.seqN (AC.region ?_)))))
           refine AL.go (AO.move rfl rfl (AL.go (AO.move rfl rfl (AL.go (AO.move rfl rfl (AL.go (AO.move rfl rfl (AL.go (AO.assign rfl rfl ?_)))))))))
           have hmi : m = m := rfl
           refine AL.go (AO.mapUpdate (kenc := vI) (venc := vI) (m := m) (q : Int) i2 rfl rfl rfl (by repeat (first | exact has0 | apply hasS)) ?_)
           simp only [List.set_cons_zero, List.set_cons_succ]
           refine AL.nil (AK.blkN (AK.seqN (AC.region (AL.go (AO.add rfl rfl rfl (by omega) (by omega) (AL.go (AO.move rfl rfl ?_)))))))
           refine AL.nil ?_
           rw [if_pos c124] at hput
           obtain ⟨hr2, hp2, hi2, hi3⟩ := add_pre hso.right hP c124
           first
           | exact AK.next (q + 1, (o2, ins ++ [i2], upd m (q : Int) i2), (a119, k119, c119)) ⟨by simp only; omega, hput, hso.step hr2 hp2 ⟨hi2, hi3⟩, hm.upd hso.len _⟩ (by simp only; omega) srA (Sub.drop.trans (Sub.drop.trans (Sub.facts (mem1 memA (fun x hx => by repeat (first | exact hx | refine List.mem_cons_of_mem _ ?_))))))
           | exact AK.next (q + 1, (o2, ins ++ [i2], upd m (q : Int) i2), (a119, k119, c119)) ⟨by simp only; omega, hput, hso.step hr2 hp2 ⟨hi2, hi3⟩, hm.upd hso.len _⟩ (by simp only; omega) srA (Sub.drop.trans (Sub.facts (mem1 memA (fun x hx => by repeat (first | exact hx | refine List.mem_cons_of_mem _ ?_)))))
    ·refine AL.nil (AK.seqN (AC.seq (AC.condF rfl (AC.exit (AK.seqX ?_)))))
     refine AK.seqX (AK.blkX (AK.seqN (AC.seq ?_)))
     refine AC.draw (fun _ => false) [] bxA rfl (fun hx hX => ?_)
     have hq9 : q = n + 1 := by omega
     subst hq9
     have hmn := hm n (by omega) (parts_self hr hn)
     refine AH.takeW (i := 0) rfl (Y.move rfl) (by kernel_rfl) rfl rfl ?_
     refine AH.takeW (i := 1) rfl (Y.move rfl) (by kernel_rfl) rfl rfl ?_
     refine AH.takeW (i := 2) rfl (Y.move rfl) (by kernel_rfl) rfl rfl ?_
     refine AH.takeW (i := 4) rfl (Y.assign rfl) (by kernel_rfl) rfl rfl ?_
     refine AH.one (i := 3) (by kernel_rfl) rfl rfl (fun _ => ?_)
     refine AO.lookup (kenc := vI) (venc := vI) (m := m) (i := 0) (n : Int) rfl rfl rfl rfl ?_
     rw [hmn]
     refine AT.held bxA memB ?_
     refine AH.takeW (i := 5) rfl (Y.assign rfl) (by kernel_rfl) rfl rfl ?_
     refine AH.takeW (i := 6) rfl (Y.assign rfl) (by kernel_rfl) rfl rfl ?_
     refine AH.done (by kernel_rfl) ?_
     refine AK.seqN (AC.ret ?_)
     exact AK.ret3 (L' := L) (F' := fL out a13 k13 c13 :: F) Tryz.results114 rfl rfl rfl (Sub.drop.trans (Sub.drop.trans (Sub.facts (mem1 memA (fun x hx => by repeat (first | exact hx | refine List.mem_cons_of_mem _ ?_)))))) (h4 _ _ _ _ _ (subR_ok hnb hs))
end
end Go.Sy
namespace Go.Sy
open Go Go.Proofs Go.RowKit
attribute [local irreducible] AC AT AO AK AH ACalls Sub Res.cells Res.nix Res.own Res.map Exit.then Exit.inBlock bodyPost Code.wp Next Post Kont
section
variable {W0 : World} {L : List Res} {F : List Fact} {R : Value → List Res → List Fact → Prop}
set_option maxRecDepth 100000
set_option maxHeartbeats 4000000
theorem rasks_c (l : List Ty) (hr : rightP l) (i : Nat) (hi : i < l.length) {a : Option Addr} {k c : Nat} (mL : fL l a k c ∈ F) (h : ∀ a k c, R (.slice a k c) L (fI (asksL (l.take (i + 1))) a k c :: F)) : ACalls Tryz.prog W0 181 #[.slice a k c, .int .i64 (i : Int)] L F R := by
  have h400 := hr.2.1
  refine ACalls.body Tryz.func181 rfl Tryz.ntmps181 rfl ?_
  refine AC.seq (AC.region (AL.go (AO.assign rfl rfl (AL.nil (AK.seqN (AC.seq ?_))))))
  refine AC.region ?_
  refine AL.go (AO.buildSlice0 rfl (fun b11 => ?_))
  refine AT.sub (Sub.toOwn (i := 0) (k := 0) (sz := 1) (enc := eI) [] rfl .nil (fun _ => rfl) rfl (by decide)) ?_
  refine AL.go (AO.assign rfl rfl (AL.nil (AK.seqN (AC.seq (AC.seq (AC.region ?_))))))
  refine AL.go (AO.move rfl rfl (AL.go (AO.move rfl rfl (AL.go (AO.add rfl rfl rfl (by omega) (by omega) ?_)))))
  refine AL.go (AO.sliceH (j' := i + 1) rfl rfl rfl (by omega) (enc := eTy) (lst := l) memA (by omega) (fun a15 k15 c15 => ?_))
  have htl : (l.take (i + 1)).length = i + 1 := by rw [List.length_take]; omega
  refine AL.go (AO.len rfl rfl (fun hl16 => ?_) (hm := by repeat (first | exact mem0 | assumption | refine memS ?_)))
  refine AL.go (AO.move rfl rfl (AL.nil (AK.seqN (AC.block ?_))))
  refine AC.loop (fun (x : Nat × Option Addr × Nat × Nat) => x.1 ≤ i + 1) (fun x => [(5, .slice x.2.1 x.2.2.1 x.2.2.2), (15, .slice a15 k15 c15), (16, .int .i64 (l.take (i + 1)).length), (17, .int .i64 (x.1 : Int))]) (fun x => Res.own (.slice x.2.1 x.2.2.1 x.2.2.2) 3 1 ((asksL (l.take x.1)).map eI) :: L) (fun _ => _) (fun x => i + 1 - x.1) (0, some ⟨b11, 0, none⟩, 0, 0) (by simp) srA (Sub.refl _ _) ?_
  rintro ⟨q, a5, k5, z5⟩ hq
  simp only at hq ⊢
  refine AC.seq (AC.region ?_)
  refine AL.go (AO.lss rfl rfl rfl (fun c18 => ?_) (fun c18 => ?_))
  ·refine AL.nil (AK.seqN (AC.seq (AC.condT rfl (AC.skip (AK.seqN ?_)))))
   refine AC.seq (AC.block (AC.seq (AC.region ?_)))
   have hqi : q < i + 1 := by omega
   have hql : q < l.length := by omega
   have hqt : q < (l.take (i + 1)).length := by omega
   have hget : (l.take (i + 1))[q] = l[q] := List.getElem_take
   have hAl := asks_len l q (by omega)
   have hrt := rt_of_right hr hql
   refine AL.go (AO.indexAddr rfl rfl rfl rfl (enc := eTy) (lst := l.take (i + 1)) memA hqt (fun _ _ => ?_))
   rw [hget]
   refine AL.go (AO.loadFA rfl rfl ?_)
   intro a22 k22 z22 d22 e22 f22
   refine AL.go (AO.alloc rfl (fun b7 => ?_))
   refine AL.go (AO.storeBA rfl rfl rfl rfl ?_)
   refine AL.nil (AK.seqN (AC.seq (AC.region (AL.go (AO.assign rfl rfl (AL.nil ?_))))))
   refine AK.seqN (AC.seq (AC.seq (AC.region (AL.go (AO.field rfl rfl ?_)))))
   refine AL.go (AO.loadB rfl rfl ?_)
   refine AL.go (AO.eql rfl rfl rfl (fun c23 => ?_) (fun c23 => ?_))
   ·refine AL.nil (AK.seqN (AC.condT rfl (AC.region (AL.go (AO.field rfl rfl ?_)))))
    refine AL.go (AO.loadB rfl rfl ?_)
    have hp := hrt.param c23
    refine AL.go (AO.add rfl rfl rfl (by omega) (by omega) ?_)
    refine AL.go (AO.assign rfl rfl (AL.nil (AK.seqN (AC.seq (AC.seq (AC.region ?_))))))
    refine AL.go (AO.field rfl rfl ?_)
    refine AL.go (AO.loadB rfl rfl ?_)
    refine AL.go (AO.len rfl rfl (fun hl29 => ?_) (enc := eI) (lst := l[q].kids) (hm := memA))
    refine AL.go (AO.move rfl rfl (AL.nil (AK.seqN (AC.block ?_))))
    have e25 : l[q].n + 1 = ask0 l[q] := (if_pos c23).symm
    refine AC.loop (fun (v : Nat) => v ≤ l[q].kids.length) (fun v => [(5, .slice a5 k5 z5), (15, .slice a15 k15 c15), (16, .int .i64 (l.take (i + 1)).length), (17, .int .i64 (q : Int)), (7, .pointer (some ⟨b7, 0, none⟩)), (8, .int .i64 (askK (asksL (l.take q)) (l[q].n + 1) (l[q].kids.take v))), (28, .slice d22 e22 f22), (29, .int .i64 l[q].kids.length), (30, .int .i64 (v : Int))]) (fun v => _) (fun _ => _) (fun v => l[q].kids.length - v) 0 (Nat.zero_le _) srA (Sub.refl _ _) ?_
    rintro v hv
    refine AC.seq (AC.region ?_)
    refine AL.go (AO.lss rfl rfl rfl (fun c31 => ?_) (fun c31 => ?_))
    ·refine AL.nil (AK.seqN (AC.seq (AC.condT rfl (AC.skip (AK.seqN ?_)))))
     refine AC.seq (AC.block (AC.seq (AC.region ?_)))
     have hvl : v < l[q].kids.length := by omega
     have hb := hrt.kids _ (List.getElem_mem hvl)
     have hkA := asks_pos hql hb
     refine AL.go (AO.indexAddr rfl rfl rfl rfl (show fK l[q] _ _ _ ∈ _ from memA) hvl (fun _ _ => ?_))
     refine AL.go (AO.loadF rfl rfl ?_)
     intros
     refine AL.go (AO.assign rfl rfl (AL.nil (AK.seqN (AC.seq (AC.region (AL.go (AO.move rfl rfl ?_)))))))
     refine AL.go (AO.move rfl rfl ?_)
     refine AL.go (AO.indexAddrO (i := 1) (q := l[q].kids[v].toNat) rfl rfl rfl (by omega) rfl (by rw [List.length_map]; exact hkA) (fun bo ho => ?_))
     subst ho
     refine AL.go (AO.loadO (i := 1) (q := l[q].kids[v].toNat) rfl rfl rfl rfl (eI_get hkA) ?_)
     refine AL.go (AO.move rfl rfl ?_)
     refine AL.go (AO.gtr rfl rfl rfl (fun c39 => ?_) (fun c39 => ?_))
     ·refine AL.nil (AK.seqN (AC.condT rfl (AC.region (AL.go (AO.move rfl rfl (AL.go (AO.move rfl rfl ?_)))))))
      refine AL.go (AO.indexAddrO (i := 1) (q := l[q].kids[v].toNat) rfl rfl rfl (by omega) rfl (by rw [List.length_map]; exact hkA) (fun bo2 ho2 => ?_))
      cases ho2
      refine AL.go (AO.loadO (i := 1) (q := l[q].kids[v].toNat) rfl rfl rfl rfl (eI_get hkA) ?_)
      refine AL.go (AO.assign rfl rfl (AL.nil (AK.blkN (AK.seqN (AC.region (AL.go (AO.add rfl rfl rfl (by omega) (by omega) ?_)))))))
      refine AL.go (AO.move rfl rfl (AL.nil ?_))
      first
      | (rw [ask_up hvl c39]; exact AK.next (v + 1) (by omega) (by omega) srA subF)
      | (rw [ask_no hvl c39]; exact AK.next (v + 1) (by omega) (by omega) srA subF)
     ·refine AL.nil (AK.seqN (AC.condF rfl (AC.skip (AK.blkN (AK.seqN ?_)))))
      refine AC.region (AL.go (AO.add rfl rfl rfl (by omega) (by omega) (AL.go (AO.move rfl rfl (AL.nil ?_)))))
      first
      | (rw [ask_up hvl c39]; exact AK.next (v + 1) (by omega) (by omega) srA subF)
      | (rw [ask_no hvl c39]; exact AK.next (v + 1) (by omega) (by omega) srA subF)
    ·refine AL.nil (AK.seqN (AC.seq (AC.condF rfl (AC.exit (AK.seqX ?_)))))
     refine AK.seqX (AK.blkX (AK.seqN (AC.region (AL.go (AO.move rfl rfl (AL.go (AO.move rfl rfl ?_)))))))
     have hkt : l[q].kids.take v = l[q].kids := List.take_of_length_le (by omega)
     rw [hkt, e25]
     refine AL.go (AO.buildSlice rfl rfl rfl rfl rfl (fun b47 => ?_))
     refine AL.go (AO.append (i := 1) (enc := eI) (lst := asksL (l.take q)) [askK (asksL (l.take q)) (ask0 l[q]) l[q].kids] rfl rfl rfl rfl (.val .nil) rfl rfl (fun _ => rfl) (by rw [hAl]; simp only [maxLen]; omega) (by rw [hAl]; omega) (fun a48 k48 z48 => ?_))
     have eA : asksL (l.take q) ++ [askK (asksL (l.take q)) (ask0 l[q]) l[q].kids] = asksL (l.take (q + 1)) := (asks_step hql).symm
     rw [eA]
     refine AL.go (AO.assign rfl rfl (AL.nil (AK.blkN (AK.seqN (AC.region (AL.go (AO.add rfl rfl rfl (by omega) (by omega) ?_)))))))
     refine AL.go (AO.move rfl rfl (AL.nil ?_))
     refine AK.next (q + 1, a48, k48, z48) (by simp only; omega) (by simp only; omega) srA (Sub.drop.trans subF)
   ·refine AL.nil (AK.seqN (AC.condF rfl (AC.skip (AK.seqN (AC.seq ?_)))))
    refine AC.seq (AC.region (AL.go (AO.field rfl rfl ?_)))
    refine AL.go (AO.loadB rfl rfl ?_)
    refine AL.go (AO.len rfl rfl (fun hl29 => ?_) (enc := eI) (lst := l[q].kids) (hm := memA))
    refine AL.go (AO.move rfl rfl (AL.nil (AK.seqN (AC.block ?_))))
    have e25 : (0 : Int) = ask0 l[q] := (if_neg c23).symm
    refine AC.loop (fun (v : Nat) => v ≤ l[q].kids.length) (fun v => [(5, .slice a5 k5 z5), (15, .slice a15 k15 c15), (16, .int .i64 (l.take (i + 1)).length), (17, .int .i64 (q : Int)), (7, .pointer (some ⟨b7, 0, none⟩)), (8, .int .i64 (askK (asksL (l.take q)) 0 (l[q].kids.take v))), (28, .slice d22 e22 f22), (29, .int .i64 l[q].kids.length), (30, .int .i64 (v : Int))]) (fun v => _) (fun _ => _) (fun v => l[q].kids.length - v) 0 (Nat.zero_le _) srA (Sub.refl _ _) ?_
    rintro v hv
    refine AC.seq (AC.region ?_)
    refine AL.go (AO.lss rfl rfl rfl (fun c31 => ?_) (fun c31 => ?_))
    ·refine AL.nil (AK.seqN (AC.seq (AC.condT rfl (AC.skip (AK.seqN ?_)))))
     refine AC.seq (AC.block (AC.seq (AC.region ?_)))
     have hvl : v < l[q].kids.length := by omega
     have hb := hrt.kids _ (List.getElem_mem hvl)
     have hkA := asks_pos hql hb
     refine AL.go (AO.indexAddr rfl rfl rfl rfl (show fK l[q] _ _ _ ∈ _ from memA) hvl (fun _ _ => ?_))
     refine AL.go (AO.loadF rfl rfl ?_)
     intros
     refine AL.go (AO.assign rfl rfl (AL.nil (AK.seqN (AC.seq (AC.region (AL.go (AO.move rfl rfl ?_)))))))
     refine AL.go (AO.move rfl rfl ?_)
     refine AL.go (AO.indexAddrO (i := 1) (q := l[q].kids[v].toNat) rfl rfl rfl (by omega) rfl (by rw [List.length_map]; exact hkA) (fun bo ho => ?_))
     subst ho
     refine AL.go (AO.loadO (i := 1) (q := l[q].kids[v].toNat) rfl rfl rfl rfl (eI_get hkA) ?_)
     refine AL.go (AO.move rfl rfl ?_)
     refine AL.go (AO.gtr rfl rfl rfl (fun c39 => ?_) (fun c39 => ?_))
     ·refine AL.nil (AK.seqN (AC.condT rfl (AC.region (AL.go (AO.move rfl rfl (AL.go (AO.move rfl rfl ?_)))))))
      refine AL.go (AO.indexAddrO (i := 1) (q := l[q].kids[v].toNat) rfl rfl rfl (by omega) rfl (by rw [List.length_map]; exact hkA) (fun bo2 ho2 => ?_))
      cases ho2
      refine AL.go (AO.loadO (i := 1) (q := l[q].kids[v].toNat) rfl rfl rfl rfl (eI_get hkA) ?_)
      refine AL.go (AO.assign rfl rfl (AL.nil (AK.blkN (AK.seqN (AC.region (AL.go (AO.add rfl rfl rfl (by omega) (by omega) ?_)))))))
      refine AL.go (AO.move rfl rfl (AL.nil ?_))
      first
      | (rw [ask_up hvl c39]; exact AK.next (v + 1) (by omega) (by omega) srA subF)
      | (rw [ask_no hvl c39]; exact AK.next (v + 1) (by omega) (by omega) srA subF)
     ·refine AL.nil (AK.seqN (AC.condF rfl (AC.skip (AK.blkN (AK.seqN ?_)))))
      refine AC.region (AL.go (AO.add rfl rfl rfl (by omega) (by omega) (AL.go (AO.move rfl rfl (AL.nil ?_)))))
      first
      | (rw [ask_up hvl c39]; exact AK.next (v + 1) (by omega) (by omega) srA subF)
      | (rw [ask_no hvl c39]; exact AK.next (v + 1) (by omega) (by omega) srA subF)
    ·refine AL.nil (AK.seqN (AC.seq (AC.condF rfl (AC.exit (AK.seqX ?_)))))
     refine AK.seqX (AK.blkX (AK.seqN (AC.region (AL.go (AO.move rfl rfl (AL.go (AO.move rfl rfl ?_)))))))
     have hkt : l[q].kids.take v = l[q].kids := List.take_of_length_le (by omega)
     rw [hkt, e25]
     refine AL.go (AO.buildSlice rfl rfl rfl rfl rfl (fun b47 => ?_))
     refine AL.go (AO.append (i := 1) (enc := eI) (lst := asksL (l.take q)) [askK (asksL (l.take q)) (ask0 l[q]) l[q].kids] rfl rfl rfl rfl (.val .nil) rfl rfl (fun _ => rfl) (by rw [hAl]; simp only [maxLen]; omega) (by rw [hAl]; omega) (fun a48 k48 z48 => ?_))
     have eA : asksL (l.take q) ++ [askK (asksL (l.take q)) (ask0 l[q]) l[q].kids] = asksL (l.take (q + 1)) := (asks_step hql).symm
     rw [eA]
     refine AL.go (AO.assign rfl rfl (AL.nil (AK.blkN (AK.seqN (AC.region (AL.go (AO.add rfl rfl rfl (by omega) (by omega) ?_)))))))
     refine AL.go (AO.move rfl rfl (AL.nil ?_))
     refine AK.next (q + 1, a48, k48, z48) (by simp only; omega) (by simp only; omega) srA (Sub.drop.trans subF)
  ·refine AL.nil (AK.seqN (AC.seq (AC.condF rfl (AC.exit (AK.seqX ?_)))))
   refine AK.seqX (AK.blkX (AK.seqN (AC.seq (AC.region ?_))))
   refine AL.go (AO.move rfl rfl ?_)
   have hq9 : q = i + 1 := by omega
   subst hq9
   refine AT.sub ((Sub.commit (i := 0) rfl).trans Sub.drop) ?_
   refine AL.go (AO.assign rfl rfl (AL.nil (AK.seqN (AC.ret ?_))))
   exact AK.ret (L' := L) (F' := fI (asksL (l.take (i + 1))) _ _ _ :: F) Tryz.results181 rfl (Sub.headF (fun x hx => by repeat (first | exact hx | refine List.mem_cons_of_mem _ ?_))) (h _ _ _)
end
end Go.Sy
namespace Go.Sy
open Go Go.Proofs Go.RowKit
attribute [local irreducible] AC AT AO AK AH ACalls Sub Res.cells Res.nix Res.own Res.map Exit.then Exit.inBlock bodyPost Code.wp Next Post Kont
section
variable {W0 : World} {L : List Res} {F : List Fact} {R : Value → List Res → List Fact → Prop}
set_option maxRecDepth 100000
set_option maxHeartbeats 8000000
end
end Go.Sy
namespace Go.Sy
open Go Go.Proofs Go.RowKit
attribute [local irreducible] AC AT AO AK AH ACalls Sub Res.cells Res.nix Res.own Res.map Exit.then Exit.inBlock bodyPost Code.wp Next Post Kont
section
variable {W0 : World} {L : List Res} {F : List Fact} {R : Value → List Res → List Fact → Prop}
set_option maxRecDepth 100000
set_option maxHeartbeats 16000000
end
end Go.Sy
namespace Go.Sy
open Go Go.Proofs Go.RowKit
attribute [local irreducible] AC AT AO AK AH ACalls Sub Res.cells Res.nix Res.own Res.map Exit.then Exit.inBlock bodyPost Code.wp Next Post Kont
section
variable {W0 : World} {L : List Res} {F : List Fact} {R : Value → List Res → List Fact → Prop}
set_option maxRecDepth 100000
set_option maxHeartbeats 16000000
theorem rtwofold_c (s : List UInt8) (hs : s.length < 4294967281) (hT : namedP s → R (.bool true) L F) (hF : ¬ namedP s → R (.bool false) L F) : ACalls Tryz.prog W0 119 #[S s] L F R := by
  refine ACalls.body Tryz.func119 rfl Tryz.ntmps119 rfl ?_
  refine AC.seq (AC.region (AL.go (AO.assign rfl rfl (AL.nil (AK.seqN (AC.seq ?_))))))
  refine AC.seq (AC.region (AL.go (AO.assign rfl rfl (AL.nil (AK.seqN (AC.block ?_))))))
  refine AC.loop (fun k => k ≤ s.length ∧ ∀ j (hj : j < s.length), j < k → (s[j].toNat : Int) ≠ 46) (fun k => [(0, S s), (3, .int .i64 (k : Int))]) (fun _ => L) (fun _ => F) (fun k => s.length - k) 0 ⟨by omega, by omega⟩ srA (Sub.refl _ _) ?_
  rintro k ⟨hk, hok⟩
  refine AC.seq (AC.seq (AC.region (AL.go (AO.move rfl rfl (AL.go (AO.move rfl rfl (AL.go (AO.lenS rfl rfl ?_))))))))
  refine AL.go (AO.lss rfl rfl rfl (fun c7 => ?_) (fun c7 => ?_))
  ·refine AL.nil (AK.seqN (AC.condT rfl (AC.skip (AK.seqN (AC.seq ?_)))))
   refine AC.block (AC.seq (AC.region (AL.go (AO.move rfl rfl (AL.go (AO.move rfl rfl ?_))))))
   have hkl : k < s.length := by omega
   have hl1 : (s.take k).length ≤ s.length := by simp only [List.length_take]; omega
   have hl2 : (s.drop (k + 1)).length ≤ s.length := by simp only [List.length_drop]; omega
   refine AL.go (AO.indexS rfl rfl rfl rfl hkl ?_)
   refine AL.go (AO.eql rfl rfl rfl (fun c13 => ?_) (fun c13 => ?_))
   ·refine AL.nil (AK.seqN (AC.condT rfl (AC.seq (AC.region (AL.go (AO.move rfl rfl ?_))))))
    refine AL.go (AO.move rfl rfl ?_)
    refine AL.go (AO.sliceSH (j' := k) rfl rfl rfl rfl (by omega) ?_)
    refine AL.go (AO.call rfl rfl (rname_c (s.take k) (by omega) (fun c17 => ?_) (fun c17 => ?_)))
    ·refine AL.go (AO.move rfl rfl (AL.yes rfl rfl (AO.move rfl rfl (AL.yes rfl rfl (AO.move rfl rfl (AL.yes rfl rfl (AO.add rfl rfl rfl (by omega) (by omega) ?_)))))))
     refine AL.yes rfl rfl (AO.sliceSL (i' := k + 1) rfl rfl rfl (by omega) (by omega) ?_)
     refine AL.yes rfl rfl (AO.call rfl rfl (rname_c (s.drop (k + 1)) (by omega) (fun c23 => ?_) (fun c23 => ?_)))
     ·refine AL.go (AO.pickT rfl rfl rfl (AL.go (AO.assign rfl rfl (AL.nil (AK.seqN (AC.ret (AK.blkR ?_)))))))
      refine AK.seqR (AK.seqR (AK.blkR (AK.seqR ?_)))
      first | refine AK.ret Tryz.results119 rfl (Sub.refl _ _) (hT ?_) | refine AK.ret Tryz.results119 rfl (Sub.refl _ _) (hF ?_)
      first
      | exact (named_at hkl c13 hok).2 ⟨c17, c23⟩
      | (rw [named_at hkl c13 hok]; exact fun e => absurd e.2 (by rw [c23]; decide))
      | (rw [named_at hkl c13 hok]; exact fun e => absurd e.1 (by rw [c17]; decide))
      | exact named_none (fun j hj => hok j hj (by omega))
     ·refine AL.go (AO.pickT rfl rfl rfl (AL.go (AO.assign rfl rfl (AL.nil (AK.seqN (AC.ret (AK.blkR ?_)))))))
      refine AK.seqR (AK.seqR (AK.blkR (AK.seqR ?_)))
      first | refine AK.ret Tryz.results119 rfl (Sub.refl _ _) (hT ?_) | refine AK.ret Tryz.results119 rfl (Sub.refl _ _) (hF ?_)
      first
      | exact (named_at hkl c13 hok).2 ⟨c17, c23⟩
      | (rw [named_at hkl c13 hok]; exact fun e => absurd e.2 (by rw [c23]; decide))
      | (rw [named_at hkl c13 hok]; exact fun e => absurd e.1 (by rw [c17]; decide))
      | exact named_none (fun j hj => hok j hj (by omega))
    ·refine AL.go (AO.move rfl rfl (AL.no rfl rfl rfl rfl (AL.no rfl rfl rfl rfl (AL.no rfl rfl rfl rfl (AL.no rfl rfl rfl rfl (AL.no rfl rfl rfl rfl ?_))))))
     refine AL.go (AO.pickF rfl rfl rfl (AL.go (AO.assign rfl rfl (AL.nil (AK.seqN (AC.ret (AK.blkR ?_)))))))
     refine AK.seqR (AK.seqR (AK.blkR (AK.seqR ?_)))
     first | refine AK.ret Tryz.results119 rfl (Sub.refl _ _) (hT ?_) | refine AK.ret Tryz.results119 rfl (Sub.refl _ _) (hF ?_)
     first
     | exact (named_at hkl c13 hok).2 ⟨c17, c23⟩
     | (rw [named_at hkl c13 hok]; exact fun e => absurd e.2 (by rw [c23]; decide))
     | (rw [named_at hkl c13 hok]; exact fun e => absurd e.1 (by rw [c17]; decide))
     | exact named_none (fun j hj => hok j hj (by omega))
   ·refine AL.nil (AK.seqN (AC.condF rfl (AC.skip (AK.blkN (AK.seqN ?_)))))
    refine AC.region (AL.go (AO.move rfl rfl (AL.go (AO.add rfl rfl rfl (by omega) (by omega) (AL.go (AO.assign rfl rfl (AL.nil ?_)))))))
    refine AK.next (k + 1) ⟨by omega, ?_⟩ (by omega) srA (Sub.refl _ _)
    intro j hj hjk
    rcases Nat.lt_succ_iff_lt_or_eq.1 hjk with h | rfl
    · exact hok j hj h
    · exact c13
  ·refine AL.nil (AK.seqN (AC.condF rfl (AC.exit (AK.seqX (AK.seqX ?_)))))
   refine AK.blkX (AK.seqN (AC.seq (AC.region (AL.go (AO.assign rfl rfl (AL.nil ?_))))))
   refine AK.seqN (AC.ret ?_)
   first | refine AK.ret Tryz.results119 rfl (Sub.refl _ _) (hT ?_) | refine AK.ret Tryz.results119 rfl (Sub.refl _ _) (hF ?_)
   first
   | exact (named_at hkl c13 hok).2 ⟨c17, c23⟩
   | (rw [named_at hkl c13 hok]; exact fun e => absurd e.2 (by rw [c23]; decide))
   | (rw [named_at hkl c13 hok]; exact fun e => absurd e.1 (by rw [c17]; decide))
   | exact named_none (fun j hj => hok j hj (by omega))
theorem ruat_c (N : List Nmd) (s : List UInt8) {a a2 : Option Addr} {k c k2 c2 : Nat} (m2 : fN N a2 k2 c2 ∈ F)
    (hT : ∀ q : Nat, atN N s = some q → R (.int .i64 (q : Int)) L F) (hF : atN N s = none → R (.int .i64 (-1)) L F) : ACalls Tryz.prog W0 28 #[.agg #[.slice a k c, .slice a2 k2 c2], S s] L F R := by
  refine ACalls.body Tryz.func28 rfl Tryz.ntmps28 rfl ?_
  refine AC.seq (AC.region (AL.go (AO.box rfl rfl (fun b2 => ?_))))
  refine AL.go (AO.assign rfl rfl (AL.nil (AK.seqN (AC.seq (AC.seq (AC.region ?_))))))
  refine AL.go (AO.field rfl rfl ?_)
  refine AL.go (AO.loadB rfl rfl ?_)
  refine AL.go (AO.len rfl rfl (fun hl9 => ?_) (enc := eNm) (lst := N) (hm := m2))
  refine AL.go (AO.move rfl rfl (AL.nil (AK.seqN (AC.block ?_))))
  refine AC.loop (fun (q : Nat) => q ≤ N.length ∧ ∀ j (hj : j < N.length), j < q → N[j].name ≠ s) (fun q => [(1, S s), (8, .slice a2 k2 c2), (9, .int .i64 N.length), (10, .int .i64 (q : Int))]) (fun _ => _) (fun _ => F) (fun q => N.length - q) 0 ⟨Nat.zero_le _, by omega⟩ srA (Sub.refl _ _) ?_
  rintro q ⟨hq, hok⟩
  refine AC.seq (AC.region ?_)
  refine AL.go (AO.lss rfl rfl rfl (fun c11 => ?_) (fun c11 => ?_))
  ·refine AL.nil (AK.seqN (AC.seq (AC.condT rfl (AC.skip (AK.seqN ?_)))))
   refine AC.seq (AC.block (AC.seq (AC.region (AL.go (AO.move rfl rfl ?_)))))
   have hql : q < N.length := by omega
   refine AL.go (AO.indexAddr rfl rfl rfl rfl (enc := eNm) (lst := N) memA hql (fun _ _ => ?_))
   refine AL.go (AO.loadFA rfl rfl ?_)
   intro a14 k14 z14 d14 e14 f14
   refine AL.go (AO.alloc rfl (fun b6 => ?_))
   refine AL.go (AO.assign rfl rfl ?_)
   refine AL.go (AO.storeBA rfl rfl rfl rfl ?_)
   refine AL.nil (AK.seqN (AC.seq (AC.region (AL.go (AO.field rfl rfl ?_)))))
   refine AL.go (AO.loadB rfl rfl ?_)
   refine AL.go (AO.move rfl rfl ?_)
   refine AL.go (AO.eqlS rfl rfl rfl (fun c18 => ?_) (fun c18 => ?_))
   ·refine AL.nil (AK.seqN (AC.condT rfl (AC.seq (AC.region (AL.go (AO.move rfl rfl ?_))))))
    refine AL.go (AO.assign rfl rfl (AL.nil (AK.seqN (AC.ret (AK.blkR (AK.seqR ?_))))))
    refine AK.seqR (AK.blkR (AK.seqR ?_))
    first | exact AK.ret (L' := L) (F' := F) Tryz.results28 rfl subA (hT q (atN_first hql c18 hok)) | exact AK.ret (L' := L) (F' := F) Tryz.results28 rfl subA (hF (atN_no (fun j hj => hok j hj (by omega))))
   ·refine AL.nil (AK.seqN (AC.condF rfl (AC.skip (AK.blkN (AK.seqN ?_)))))
    refine AC.region (AL.go (AO.add rfl rfl rfl (by omega) (by omega) (AL.go (AO.move rfl rfl (AL.nil ?_)))))
    refine AK.next (q + 1) ⟨by omega, fun j hj hjq => ?_⟩ (by omega) srA (Sub.drop.trans subF)
    rcases Nat.lt_succ_iff_lt_or_eq.1 hjq with k9 | rfl
    · exact hok j hj k9
    · exact c18
  ·refine AL.nil (AK.seqN (AC.seq (AC.condF rfl (AC.exit (AK.seqX ?_)))))
   refine AK.seqX (AK.blkX (AK.seqN (AC.seq (AC.region (AL.go (AO.assign rfl rfl ?_))))))
   refine AL.nil (AK.seqN (AC.ret ?_))
   first | exact AK.ret (L' := L) (F' := F) Tryz.results28 rfl subA (hT q (atN_first hql c18 hok)) | exact AK.ret (L' := L) (F' := F) Tryz.results28 rfl subA (hF (atN_no (fun j hj => hok j hj (by omega))))
theorem ris_c (T : List Ty) (i x : Int) {a a2 : Option Addr} {k c k2 c2 : Nat} (mL : fL T a k c ∈ F) (hT : isK T i x → R (.bool true) L F) (hF : ¬ isK T i x → R (.bool false) L F) : ACalls Tryz.prog W0 81 #[.agg #[.slice a k c, .slice a2 k2 c2], .int .i64 i, .int .i64 x] L F R := by
  refine ACalls.body Tryz.func81 rfl Tryz.ntmps81 rfl ?_
  refine AC.seq (AC.region (AL.go (AO.box rfl rfl (fun b3 => ?_))))
  refine AL.go (AO.assign rfl rfl (AL.nil (AK.seqN (AC.seq (AC.region (AL.go (AO.move rfl rfl ?_)))))))
  refine AL.go (AO.geq rfl rfl rfl (fun c8 => ?_) (fun c8 => ?_))
  ·refine AL.go (AO.move rfl rfl (AL.yes rfl rfl (AO.move rfl rfl (AL.yes rfl rfl (AO.field rfl rfl ?_)))))
   refine AL.yes rfl rfl (AO.loadB rfl rfl ?_)
   refine AL.yes rfl rfl (AO.len rfl rfl (fun hl13 => ?_) (enc := eTy) (lst := T) (hm := memA))
   refine AL.yes rfl rfl (AO.lss rfl rfl rfl (fun c14 => ?_) (fun c14 => ?_))
   ·refine AL.go (AO.pickT rfl rfl rfl (AL.go (AO.move rfl rfl (AL.yes rfl rfl (AO.field rfl rfl ?_)))))
    refine AL.yes rfl rfl (AO.loadB rfl rfl ?_)
    refine AL.yes rfl rfl (AO.move rfl rfl ?_)
    have hlt : i.toNat < T.length := by omega
    have hkt : kindAt T i = T[i.toNat].kind := kind_get (by omega) hlt
    refine AL.yes rfl rfl (AO.indexAddr (k := i.toNat) rfl rfl rfl (by omega) (enc := eTy) (lst := T) memA hlt (fun _ _ => ?_))
    refine AL.yes rfl rfl (AO.fieldAt rfl rfl (fun _ => ?_))
    refine AL.yes rfl rfl (AO.loadF rfl rfl ?_)
    intros
    refine AL.yes rfl rfl (AO.move rfl rfl ?_)
    refine AL.yes rfl rfl (AO.eql rfl rfl rfl (fun c24 => ?_) (fun c24 => ?_))
    ·refine AL.go (AO.pickT rfl rfl rfl (AL.go (AO.assign rfl rfl (AL.nil (AK.seqN (AC.ret ?_))))))
     exact AK.ret (L' := L) (F' := F) Tryz.results81 rfl subA (hT ⟨by omega, by omega, hkt.trans c24⟩)
    ·refine AL.go (AO.pickT rfl rfl rfl (AL.go (AO.assign rfl rfl (AL.nil (AK.seqN (AC.ret ?_))))))
     exact AK.ret (L' := L) (F' := F) Tryz.results81 rfl subA (hF (fun e => c24 (hkt.symm.trans e.2.2)))
   ·refine AL.go (AO.pickT rfl rfl rfl (AL.go (AO.move rfl rfl (AL.no rfl rfl rfl rfl (AL.no rfl rfl rfl rfl (AL.no rfl rfl rfl rfl (AL.no rfl rfl rfl rfl ?_)))))))
    refine AL.no rfl rfl rfl rfl (AL.no rfl rfl rfl rfl (AL.no rfl rfl rfl rfl (AL.no rfl rfl rfl rfl (AL.go (AO.pickF rfl rfl rfl (AL.go (AO.assign rfl rfl ?_)))))))
    refine AL.nil (AK.seqN (AC.ret ?_))
    exact AK.ret (L' := L) (F' := F) Tryz.results81 rfl subA (hF (fun e => absurd e.2.1 (by omega)))
  ·refine AL.go (AO.move rfl rfl (AL.no rfl rfl rfl rfl (AL.no rfl rfl rfl rfl (AL.no rfl rfl rfl rfl (AL.no rfl rfl rfl rfl (AL.no rfl rfl rfl rfl ?_))))))
   refine AL.go (AO.pickF rfl rfl rfl (AL.go (AO.move rfl rfl (AL.no rfl rfl rfl rfl (AL.no rfl rfl rfl rfl (AL.no rfl rfl rfl rfl (AL.no rfl rfl rfl rfl ?_)))))))
   refine AL.no rfl rfl rfl rfl (AL.no rfl rfl rfl rfl (AL.no rfl rfl rfl rfl (AL.no rfl rfl rfl rfl (AL.go (AO.pickF rfl rfl rfl (AL.go (AO.assign rfl rfl ?_)))))))
   refine AL.nil (AK.seqN (AC.ret ?_))
   exact AK.ret (L' := L) (F' := F) Tryz.results81 rfl subA (hF (fun e => absurd e.1 (by omega)))
theorem rfewU_c (T : List Ty) (hr : rightP T) (i most : Int) {a a2 : Option Addr} {k c k2 c2 : Nat} (mL : fL T a k c ∈ F) (hT : fewA T i most → R (.bool true) L F) (hF : ¬ fewA T i most → R (.bool false) L F) : ACalls Tryz.prog W0 120 #[.agg #[.slice a k c, .slice a2 k2 c2], .int .i64 i, .int .i64 most] L F R := by
  refine ACalls.body Tryz.func120 rfl Tryz.ntmps120 rfl ?_
  refine AC.seq (AC.region (AL.go (AO.box rfl rfl (fun b3 => ?_))))
  refine AL.go (AO.assign rfl rfl (AL.nil (AK.seqN (AC.seq (AC.seq (AC.region ?_))))))
  refine AL.go (AO.move rfl rfl ?_)
  refine AL.go (AO.lss rfl rfl rfl (fun c8 => ?_) (fun c8 => ?_))
  ·refine AL.go (AO.move rfl rfl (AL.no rfl rfl rfl rfl (AL.no rfl rfl rfl rfl (AL.no rfl rfl rfl rfl (AL.no rfl rfl rfl rfl (AL.no rfl rfl rfl rfl ?_))))))
   refine AL.go (AO.pickT rfl rfl rfl (AL.nil (AK.seqN (AC.condT rfl (AC.seq (AC.region ?_))))))
   refine AL.go (AO.assign rfl rfl (AL.nil (AK.seqN (AC.ret (AK.seqR ?_)))))
   exact AK.ret (L' := L) (F' := F) Tryz.results120 rfl subA (hF (fun e => absurd e.1 (by omega)))
  ·refine AL.go (AO.move rfl rfl (AL.yes rfl rfl (AO.move rfl rfl (AL.yes rfl rfl (AO.field rfl rfl ?_)))))
   refine AL.yes rfl rfl (AO.loadB rfl rfl ?_)
   refine AL.yes rfl rfl (AO.len rfl rfl (fun hl13 => ?_) (enc := eTy) (lst := T) (hm := memA))
   refine AL.yes rfl rfl (AO.geq rfl rfl rfl (fun c14 => ?_) (fun c14 => ?_))
   ·refine AL.go (AO.pickF rfl rfl rfl (AL.nil (AK.seqN (AC.condT rfl (AC.seq (AC.region ?_))))))
    refine AL.go (AO.assign rfl rfl (AL.nil (AK.seqN (AC.ret (AK.seqR ?_)))))
    exact AK.ret (L' := L) (F' := F) Tryz.results120 rfl subA (hF (fun e => absurd e.2.1 (by omega)))
   ·refine AL.go (AO.pickF rfl rfl rfl (AL.nil (AK.seqN (AC.condF rfl (AC.skip (AK.seqN ?_))))))
    refine AC.seq (AC.region (AL.go (AO.field rfl rfl ?_)))
    refine AL.go (AO.loadB rfl rfl ?_)
    refine AL.go (AO.move rfl rfl ?_)
    obtain ⟨m, rfl⟩ : ∃ m : Nat, i = (m : Int) := ⟨i.toNat, by omega⟩
    have hml : m < T.length := by omega
    have hfl := asks_len T (m + 1) (by omega)
    refine AL.go (AO.call rfl rfl (rasks_c T hr m hml mL (fun a19 k19 z19 => ?_)))
    refine AL.go (AO.move rfl rfl ?_)
    have hg := (ask_in (N := T) (p := m) hml (Nat.le_refl _)).symm.trans (getD_eq 0 (show m < (asksL (T.take (m + 1))).length by omega))
    refine AL.go (AO.indexAddr rfl rfl rfl rfl (enc := eI) (lst := asksL (T.take (m + 1))) memA (show m < (asksL (T.take (m + 1))).length by omega) (fun _ _ => ?_))
    refine AL.go (AO.loadF rfl rfl ?_)
    intros
    refine AL.go (AO.move rfl rfl ?_)
    refine AL.go (AO.leq rfl rfl rfl (fun c24 => ?_) (fun c24 => ?_))
    ·refine AL.go (AO.assign rfl rfl (AL.nil (AK.seqN (AC.ret ?_))))
     exact AK.ret (L' := L) (F' := F) Tryz.results120 rfl subA (hT ⟨by omega, by omega, by rw [Int.toNat_natCast, hg]; omega⟩)
    ·refine AL.go (AO.assign rfl rfl (AL.nil (AK.seqN (AC.ret ?_))))
     exact AK.ret (L' := L) (F' := F) Tryz.results120 rfl subA (hF (fun e => by have h9 := e.2.2; rw [Int.toNat_natCast, hg] at h9; omega))
theorem rnamedU_c (T : List Ty) (hr : rightP T) (n : Nmd) (hn : NmOk n) {a a2 a4 a5 : Option Addr} {k c k2 c2 k4 c4 k5 c5 : Nat} (mL : fL T a k c ∈ F) (mB : fBd n a4 k4 c4 ∈ F) (mS : fMs n.methods a5 k5 c5 ∈ F)
    (hT : namedU T n → R (.bool true) L F) (hF : ¬ namedU T n → R (.bool false) L F) : ACalls Tryz.prog W0 64 #[.agg #[.slice a k c, .slice a2 k2 c2], vNm n a4 k4 c4 a5 k5 c5] L F R := by
  have hnn := hn.name
  refine ACalls.body Tryz.func64 rfl Tryz.ntmps64 rfl ?_
  refine AC.seq (AC.region (AL.go (AO.box rfl rfl (fun b2 => ?_))))
  refine AL.go (AO.box rfl rfl (fun b3 => ?_))
  refine AL.go (AO.assign rfl rfl (AL.nil (AK.seqN (AC.seq (AC.region (AL.go (AO.field rfl rfl ?_)))))))
  refine AL.go (AO.loadB rfl rfl ?_)
  refine AL.go (AO.len rfl rfl (fun hl12 => ?_) (enc := eI) (lst := n.bounds) (hm := mB))
  refine AL.go (AO.assign rfl rfl (AL.nil (AK.seqN (AC.seq (AC.seq (AC.region ?_))))))
  refine AL.go (AO.field rfl rfl ?_)
  refine AL.go (AO.loadB rfl rfl ?_)
  refine AL.go (AO.call rfl rfl (rtwofold_c n.name (by omega) (fun c15 => ?_) (fun c15 => ?_)))
  ·refine AL.go (AO.not rfl rfl (AL.go (AO.move rfl rfl (AL.yes rfl rfl (AO.move rfl rfl ?_)))))
   refine AL.yes rfl rfl (AO.gtr rfl rfl rfl (fun c19 => ?_) (fun c19 => ?_))
   ·refine AL.go (AO.pickF rfl rfl rfl (AL.go (AO.move rfl rfl (AL.no rfl rfl rfl rfl (AL.no rfl rfl rfl rfl (AL.no rfl rfl rfl rfl (AL.no rfl rfl rfl rfl ?_)))))))
    refine AL.go (AO.pickT rfl rfl rfl (AL.go (AO.move rfl rfl (AL.no rfl rfl rfl rfl (AL.no rfl rfl rfl rfl (AL.no rfl rfl rfl rfl (AL.no rfl rfl rfl rfl ?_)))))))
    refine AL.no rfl rfl rfl rfl (AL.no rfl rfl rfl rfl (AL.go (AO.pickT rfl rfl rfl (AL.nil (AK.seqN (AC.condT rfl ?_))))))
    refine AC.seq (AC.region (AL.go (AO.assign rfl rfl (AL.nil (AK.seqN (AC.ret ?_))))))
    refine AK.seqR ?_
    exact AK.ret (L' := L) (F' := F) Tryz.results64 rfl subA (hF (fun e => absurd e.2.1.1 (by omega)))
   ·refine AL.go (AO.pickF rfl rfl rfl (AL.go (AO.move rfl rfl (AL.yes rfl rfl (AO.field rfl rfl ?_)))))
    refine AL.yes rfl rfl (AO.loadB rfl rfl ?_)
    refine AL.yes rfl rfl (AO.len rfl rfl (fun hl24 => ?_) (enc := eMt) (lst := n.methods) (hm := mS))
    refine AL.yes rfl rfl (AO.gtr rfl rfl rfl (fun c25 => ?_) (fun c25 => ?_))
    ·refine AL.go (AO.pickF rfl rfl rfl (AL.go (AO.move rfl rfl (AL.no rfl rfl rfl rfl (AL.no rfl rfl rfl rfl (AL.no rfl rfl rfl rfl (AL.no rfl rfl rfl rfl ?_)))))))
     refine AL.no rfl rfl rfl rfl (AL.no rfl rfl rfl rfl (AL.go (AO.pickT rfl rfl rfl (AL.nil (AK.seqN (AC.condT rfl ?_))))))
     refine AC.seq (AC.region (AL.go (AO.assign rfl rfl (AL.nil (AK.seqN (AC.ret ?_))))))
     refine AK.seqR ?_
     exact AK.ret (L' := L) (F' := F) Tryz.results64 rfl subA (hF (fun e => absurd e.2.2.2.1 (by omega)))
    ·refine AL.go (AO.pickF rfl rfl rfl (AL.go (AO.move rfl rfl ?_)))
     refine AL.yes rfl rfl (AO.loadBA rfl rfl ?_)
     refine AL.yes rfl rfl (AO.field rfl rfl ?_)
     refine AL.yes rfl rfl (AO.loadB rfl rfl ?_)
     refine AL.yes rfl rfl (AO.move rfl rfl ?_)
     refine AL.yes rfl rfl (AO.call rfl rfl (rfewU_c T hr n.under n.bounds.length mL (fun c32 => ?_) (fun c32 => ?_)))
     ·refine AL.yes rfl rfl (AO.not rfl rfl (AL.go (AO.pickF rfl rfl rfl (AL.nil (AK.seqN (AC.condF rfl (AC.skip ?_)))))))
      refine AK.seqN (AC.seq (AC.seq (AC.region (AL.go (AO.field rfl rfl ?_)))))
      refine AL.go (AO.loadB rfl rfl ?_)
      refine AL.go (AO.len rfl rfl (fun hl37 => ?_) (enc := eI) (lst := n.bounds) (hm := mB))
      refine AL.go (AO.move rfl rfl (AL.nil (AK.seqN (AC.block ?_))))
      refine AC.loop (fun (q : Nat) => q ≤ n.bounds.length ∧ ∀ j (hj : j < n.bounds.length), j < q → isK T n.bounds[j] 7 ∧ fewA T n.bounds[j] n.bounds.length) (fun q => [(2, .pointer (some ⟨b2, 0, none⟩)), (3, .pointer (some ⟨b3, 0, none⟩)), (5, .int .i64 n.bounds.length), (36, .slice a4 k4 c4), (37, .int .i64 n.bounds.length), (38, .int .i64 (q : Int))]) (fun _ => _) (fun _ => F) (fun q => n.bounds.length - q) 0 ⟨Nat.zero_le _, by omega⟩ srA (Sub.refl _ _) ?_
      rintro q ⟨hq, hbq⟩
      refine AC.seq (AC.region ?_)
      refine AL.go (AO.lss rfl rfl rfl (fun c39 => ?_) (fun c39 => ?_))
      ·refine AL.nil (AK.seqN (AC.seq (AC.condT rfl (AC.skip (AK.seqN ?_)))))
       refine AC.seq (AC.block (AC.seq (AC.region ?_)))
       have hql : q < n.bounds.length := by omega
       refine AL.go (AO.indexAddr rfl rfl rfl rfl (enc := eI) (lst := n.bounds) memA hql (fun _ _ => ?_))
       refine AL.go (AO.loadF rfl rfl ?_)
       intros
       refine AL.go (AO.assign rfl rfl (AL.nil (AK.seqN (AC.seq (AC.region ?_)))))
       refine AL.go (AO.loadBA rfl rfl ?_)
       refine AL.go (AO.move rfl rfl ?_)
       refine AL.go (AO.call rfl rfl (ris_c T n.bounds[q] 7 memA (fun c44 => ?_) (fun c44 => ?_)))
       ·refine AL.go (AO.not rfl rfl (AL.go (AO.move rfl rfl ?_)))
        refine AL.yes rfl rfl (AO.loadBA rfl rfl ?_)
        refine AL.yes rfl rfl (AO.move rfl rfl (AL.yes rfl rfl (AO.move rfl rfl ?_)))
        refine AL.yes rfl rfl (AO.call rfl rfl (rfewU_c T hr n.bounds[q] n.bounds.length memA (fun c50 => ?_) (fun c50 => ?_)))
        ·refine AL.yes rfl rfl (AO.not rfl rfl (AL.go (AO.pickF rfl rfl rfl (AL.nil (AK.seqN (AC.condF rfl (AC.skip ?_)))))))
         refine AK.blkN (AK.seqN (AC.region (AL.go (AO.add rfl rfl rfl (by omega) (by omega) (AL.go (AO.move rfl rfl (AL.nil ?_)))))))
         refine AK.next (q + 1) ⟨by omega, fun j hj hjq => ?_⟩ (by omega) srA subF
         rcases Nat.lt_succ_iff_lt_or_eq.1 hjq with k9 | rfl
         · exact hbq j hj k9
         · exact ⟨c44, c50⟩
        ·refine AL.yes rfl rfl (AO.not rfl rfl (AL.go (AO.pickF rfl rfl rfl (AL.nil (AK.seqN (AC.condT rfl (AC.seq ?_)))))))
         refine AC.region (AL.go (AO.assign rfl rfl (AL.nil (AK.seqN (AC.ret (AK.blkR ?_))))))
         refine AK.seqR (AK.seqR (AK.blkR (AK.seqR ?_)))
         exact AK.ret (L' := L) (F' := F) Tryz.results64 rfl subA (hF (fun e => c50 (e.2.1.2 _ (List.getElem_mem hql)).2))
       ·refine AL.go (AO.not rfl rfl (AL.go (AO.move rfl rfl (AL.no rfl rfl rfl rfl (AL.no rfl rfl rfl rfl (AL.no rfl rfl rfl rfl (AL.no rfl rfl rfl rfl ?_)))))))
        refine AL.no rfl rfl rfl rfl (AL.go (AO.pickT rfl rfl rfl (AL.nil (AK.seqN (AC.condT rfl (AC.seq ?_))))))
        refine AC.region (AL.go (AO.assign rfl rfl (AL.nil (AK.seqN (AC.ret (AK.blkR ?_))))))
        refine AK.seqR (AK.seqR (AK.blkR (AK.seqR ?_)))
        exact AK.ret (L' := L) (F' := F) Tryz.results64 rfl subA (hF (fun e => c44 (e.2.1.2 _ (List.getElem_mem hql)).1))
      ·refine AL.nil (AK.seqN (AC.seq (AC.condF rfl (AC.exit (AK.seqX ?_)))))
       refine AK.seqX (AK.blkX (AK.seqN (AC.seq (AC.seq (AC.region ?_)))))
       refine AL.go (AO.loadBA rfl rfl ?_)
       refine AL.go (AO.field rfl rfl ?_)
       refine AL.go (AO.loadB rfl rfl ?_)
       have hbd : boundsP T n := ⟨by omega, fun b hb => by obtain ⟨j, hj, rfl⟩ := List.getElem_of_mem hb; exact hbq j hj (by omega)⟩
       refine AL.go (AO.call rfl rfl (ris_c T n.under 8 memA (fun c57 => ?_) (fun c57 => ?_)))
       ·refine AL.go (AO.move rfl rfl (AL.no rfl rfl rfl rfl (AL.no rfl rfl rfl rfl (AL.no rfl rfl rfl rfl (AL.no rfl rfl rfl rfl (AL.go (AO.pickT rfl rfl rfl ?_)))))))
        refine AL.go (AO.move rfl rfl (AL.no rfl rfl rfl rfl (AL.no rfl rfl rfl rfl (AL.no rfl rfl rfl rfl (AL.no rfl rfl rfl rfl (AL.no rfl rfl rfl rfl ?_))))))
        refine AL.no rfl rfl rfl rfl (AL.no rfl rfl rfl rfl (AL.no rfl rfl rfl rfl (AL.go (AO.pickT rfl rfl rfl (AL.nil (AK.seqN ?_))))))
        refine AC.condT rfl (AC.seq (AC.region (AL.go (AO.assign rfl rfl (AL.nil (AK.seqN ?_))))))
        refine AC.ret (AK.seqR ?_)
        exact AK.ret (L' := L) (F' := F) Tryz.results64 rfl subA (hF (fun e => e.2.2.1.2.1 c57))
       ·refine AL.go (AO.move rfl rfl ?_)
        refine AL.yes rfl rfl (AO.loadBA rfl rfl ?_)
        refine AL.yes rfl rfl (AO.field rfl rfl ?_)
        refine AL.yes rfl rfl (AO.loadB rfl rfl ?_)
        refine AL.yes rfl rfl (AO.call rfl rfl (ris_c T n.under 9 memA (fun c62 => ?_) (fun c62 => ?_)))
        ·refine AL.go (AO.pickF rfl rfl rfl (AL.go (AO.move rfl rfl (AL.no rfl rfl rfl rfl (AL.no rfl rfl rfl rfl (AL.no rfl rfl rfl rfl (AL.no rfl rfl rfl rfl ?_)))))))
         refine AL.no rfl rfl rfl rfl (AL.no rfl rfl rfl rfl (AL.no rfl rfl rfl rfl (AL.no rfl rfl rfl rfl (AL.go (AO.pickT rfl rfl rfl (AL.nil ?_))))))
         refine AK.seqN (AC.condT rfl (AC.seq (AC.region (AL.go (AO.assign rfl rfl (AL.nil ?_))))))
         refine AK.seqN (AC.ret (AK.seqR ?_))
         exact AK.ret (L' := L) (F' := F) Tryz.results64 rfl subA (hF (fun e => e.2.2.1.2.2.1 c62))
        ·refine AL.go (AO.pickF rfl rfl rfl (AL.go (AO.move rfl rfl (AL.yes rfl rfl (AO.field rfl rfl ?_)))))
         refine AL.yes rfl rfl (AO.loadB rfl rfl ?_)
         refine AL.yes rfl rfl (AO.geq rfl rfl rfl (fun c67 => ?_) (fun c67 => ?_))
         ·refine AL.yes rfl rfl (AO.move rfl rfl (AL.yes rfl rfl (AO.field rfl rfl ?_)))
          refine AL.yes rfl rfl (AO.loadB rfl rfl ?_)
          refine AL.yes rfl rfl (AO.leq rfl rfl rfl (fun c71 => ?_) (fun c71 => ?_))
          ·refine AL.yes rfl rfl (AO.pickT rfl rfl rfl (AL.go (AO.pickF rfl rfl rfl (AL.nil (AK.seqN (AC.condT rfl (AC.seq ?_)))))))
           refine AC.region (AL.go (AO.assign rfl rfl (AL.nil (AK.seqN (AC.ret (AK.seqR ?_))))))
           exact AK.ret (L' := L) (F' := F) Tryz.results64 rfl subA (hF (fun e => e.2.2.1.2.2.2 ⟨by omega, by omega⟩))
          ·refine AL.yes rfl rfl (AO.pickT rfl rfl rfl (AL.go (AO.pickF rfl rfl rfl (AL.nil (AK.seqN (AC.condF rfl (AC.skip ?_)))))))
           refine AK.seqN (AC.seq (AC.seq (AC.region (AL.go (AO.field rfl rfl ?_)))))
           refine AL.go (AO.loadB rfl rfl ?_)
           have hud : underP T n := ⟨c32, c57, c62, by omega⟩
           refine AL.go (AO.len rfl rfl (fun hl76 => ?_) (enc := eMt) (lst := n.methods) (hm := mS))
           refine AL.go (AO.move rfl rfl (AL.nil (AK.seqN (AC.block ?_))))
           refine AC.loop (fun (q : Nat) => q ≤ n.methods.length ∧ ∀ j (hj : j < n.methods.length), j < q → methodP T n j hj) (fun q => [(2, .pointer (some ⟨b2, 0, none⟩)), (3, .pointer (some ⟨b3, 0, none⟩)), (5, .int .i64 n.bounds.length), (75, .slice a5 k5 c5), (76, .int .i64 n.methods.length), (77, .int .i64 (q : Int))]) (fun _ => _) (fun _ => F) (fun q => n.methods.length - q) 0 ⟨Nat.zero_le _, by omega⟩ srA (Sub.refl _ _) ?_
           rintro w ⟨hw, hmw⟩
           refine AC.seq (AC.region ?_)
           refine AL.go (AO.lss rfl rfl rfl (fun c78 => ?_) (fun c78 => ?_))
           ·refine AL.nil (AK.seqN (AC.seq (AC.condT rfl (AC.skip (AK.seqN ?_)))))
            refine AC.seq (AC.block (AC.seq (AC.region (AL.go (AO.move rfl rfl ?_)))))
            have hwl : w < n.methods.length := by omega
            have hwn := hn.meth _ (List.getElem_mem hwl)
            refine AL.go (AO.indexAddr rfl rfl rfl rfl (enc := eMt) (lst := n.methods) memA hwl (fun _ _ => ?_))
            refine AL.go (AO.loadFA rfl rfl ?_)
            refine AL.go (AO.alloc rfl (fun b9 => ?_))
            refine AL.go (AO.assign rfl rfl ?_)
            refine AL.go (AO.storeBA rfl rfl rfl rfl ?_)
            refine AL.nil (AK.seqN (AC.seq (AC.seq (AC.region (AL.go (AO.field rfl rfl ?_))))))
            refine AL.go (AO.loadB rfl rfl ?_)
            refine AL.go (AO.call rfl rfl (rname_c n.methods[w].name (by omega) (fun c84 => ?_) (fun c84 => ?_)))
            ·refine AL.go (AO.not rfl rfl (AL.go (AO.move rfl rfl ?_)))
             refine AL.yes rfl rfl (AO.loadBA rfl rfl ?_)
             refine AL.yes rfl rfl (AO.field rfl rfl ?_)
             refine AL.yes rfl rfl (AO.loadB rfl rfl ?_)
             refine AL.yes rfl rfl (AO.call rfl rfl (ris_c T n.methods[w].sig 5 memA (fun c90 => ?_) (fun c90 => ?_)))
             ·refine AL.yes rfl rfl (AO.not rfl rfl (AL.go (AO.pickF rfl rfl rfl (AL.go (AO.move rfl rfl ?_)))))
              refine AL.yes rfl rfl (AO.loadBA rfl rfl ?_)
              refine AL.yes rfl rfl (AO.field rfl rfl ?_)
              refine AL.yes rfl rfl (AO.loadB rfl rfl ?_)
              refine AL.yes rfl rfl (AO.move rfl rfl ?_)
              refine AL.yes rfl rfl (AO.call rfl rfl (rfewU_c T hr n.methods[w].sig n.bounds.length memA (fun c98 => ?_) (fun c98 => ?_)))
              ·refine AL.yes rfl rfl (AO.not rfl rfl (AL.go (AO.pickF rfl rfl rfl (AL.nil (AK.seqN (AC.condF rfl (AC.skip ?_)))))))
               refine AK.seqN (AC.seq ?_)
               refine AC.draw (fun _ => false) [(b9, _, _), (b3, _, _)] bxA rfl (fun hx hX => ?_)
               have hk5 := (len_of_fact (hX (fMs n.methods a5 k5 c5) memA)).1
               obtain ⟨p1, o1, e1, at1⟩ := row_of_fact (hX (fMs n.methods a5 k5 c5) memA) hwl
               cases e1
               cases hk5
               refine AH.takeW (i := 0) rfl (Y.move rfl) (by kernel_rfl) rfl rfl ?_
               refine AH.takeB (i := 1) rfl (Y.gtr rfl rfl) (by kernel_rfl) rfl rfl (fun c102 => ?_) (fun c102 => ?_)
               ·replace c102 := of_decide_eq_true c102
                refine AH.takeW (i := 2) rfl (Y.move rfl) (by kernel_rfl) rfl rfl ?_
                refine AH.takeW (i := 3) rfl (Y.field rfl) (by kernel_rfl) rfl rfl ?_
                refine AH.takeS (i := 4) rfl (Y.loadB rfl lmA (by rfl)) (by kernel_rfl) (by kernel_rfl) rfl rfl rfl ?_
                refine AH.takeW (i := 5) rfl (Y.move rfl) (by kernel_rfl) rfl rfl ?_
                refine AH.takeW (i := 6) rfl (Y.sub rfl rfl (by omega) (by omega)) (by kernel_rfl) rfl rfl ?_
                obtain ⟨p2, o2, e2, at2⟩ := row_of_fact (i := w - 1) (hX (fMs n.methods (some ⟨p1, o1, none⟩) _ c5) memA) (by omega)
                cases e2
                have hv2 := mt_cells at2 0 _ rfl
                refine AH.takeW (i := 7) rfl (Y.indexAddr (k := w - 1) rfl rfl (by omega) (by omega)) (by kernel_rfl) rfl rfl ?_
                refine AH.takeW (i := 8) rfl (Y.field rfl) (by kernel_rfl) rfl rfl ?_
                refine AH.takeS (i := 9) rfl (Y.loadF rfl hv2) (by kernel_rfl) (by kernel_rfl) rfl rfl rfl ?_
                refine AH.takeW (i := 10) rfl (Y.field rfl) (by kernel_rfl) rfl rfl ?_
                refine AH.takeS (i := 11) rfl (Y.loadB rfl lmA (by rfl)) (by kernel_rfl) (by kernel_rfl) rfl rfl rfl ?_
                refine AH.takeB (i := 12) rfl (Y.geqS rfl rfl) (by kernel_rfl) rfl rfl (fun c113 => ?_) (fun c113 => ?_)
                ·refine AH.takeW (i := 13) rfl (Y.pickT rfl rfl) (by kernel_rfl) rfl rfl ?_
                 refine AH.done (by kernel_rfl) ?_
                 refine AK.seqN (AC.condT rfl (AC.seq (AC.region (AL.go (AO.assign rfl rfl (AL.nil ?_))))))
                 refine AK.seqN (AC.ret (AK.blkR (AK.seqR (AK.seqR (AK.blkR ?_)))))
                 refine AK.seqR ?_
                 exact AK.ret (L' := L) (F' := F) Tryz.results64 rfl subA (hF (fun e => by have h9 := (e.2.2.2.2.1 w hwl).2.2.2 (by omega); rw [getD_eq default (by omega)] at h9; simp [h9] at c113))
                ·refine AH.takeW (i := 13) rfl (Y.pickT rfl rfl) (by kernel_rfl) rfl rfl ?_
                 refine AH.done (by kernel_rfl) ?_
                 refine AK.seqN (AC.condF rfl (AC.skip (AK.blkN (AK.seqN (AC.region ?_)))))
                 refine AL.go (AO.add rfl rfl rfl (by omega) (by omega) (AL.go (AO.move rfl rfl (AL.nil ?_))))
                 refine AK.next (w + 1) ⟨by omega, fun j hj hjq => ?_⟩ (by omega) srA (Sub.drop.trans subF)
                 rcases Nat.lt_succ_iff_lt_or_eq.1 hjq with k9 | rfl
                 · exact hmw j hj k9
                 · exact ⟨c84, c90, c98, fun _ => by rw [getD_eq default (by omega)]; simpa using c113⟩
               ·replace c102 := of_decide_eq_false c102
                refine AH.takeW (i := 2) rfl (Y.move rfl) (by kernel_rfl) rfl rfl ?_
                refine AH.skip (i := 3) rfl (by kernel_rfl) rfl rfl ?_
                refine AH.skip (i := 4) rfl (by kernel_rfl) rfl rfl ?_
                refine AH.skip (i := 5) rfl (by kernel_rfl) rfl rfl ?_
                refine AH.skip (i := 6) rfl (by kernel_rfl) rfl rfl ?_
                refine AH.skip (i := 7) rfl (by kernel_rfl) rfl rfl ?_
                refine AH.skip (i := 8) rfl (by kernel_rfl) rfl rfl ?_
                refine AH.skip (i := 9) rfl (by kernel_rfl) rfl rfl ?_
                refine AH.skip (i := 10) rfl (by kernel_rfl) rfl rfl ?_
                refine AH.skip (i := 11) rfl (by kernel_rfl) rfl rfl ?_
                refine AH.skip (i := 12) rfl (by kernel_rfl) rfl rfl ?_
                refine AH.takeW (i := 13) rfl (Y.pickF rfl rfl) (by kernel_rfl) rfl rfl ?_
                refine AH.done (by kernel_rfl) ?_
                refine AK.seqN (AC.condF rfl (AC.skip (AK.blkN (AK.seqN (AC.region ?_)))))
                refine AL.go (AO.add rfl rfl rfl (by omega) (by omega) (AL.go (AO.move rfl rfl (AL.nil ?_))))
                refine AK.next (w + 1) ⟨by omega, fun j hj hjq => ?_⟩ (by omega) srA (Sub.drop.trans subF)
                rcases Nat.lt_succ_iff_lt_or_eq.1 hjq with k9 | rfl
                · exact hmw j hj k9
                · exact ⟨c84, c90, c98, fun h0 => absurd h0 (by omega)⟩
              ·refine AL.yes rfl rfl (AO.not rfl rfl (AL.go (AO.pickF rfl rfl rfl (AL.nil (AK.seqN (AC.condT rfl (AC.seq ?_)))))))
               refine AC.region (AL.go (AO.assign rfl rfl (AL.nil (AK.seqN (AC.ret (AK.seqR ?_))))))
               refine AK.blkR (AK.seqR (AK.seqR (AK.blkR (AK.seqR ?_))))
               exact AK.ret (L' := L) (F' := F) Tryz.results64 rfl subA (hF (fun e => c98 (e.2.2.2.2.1 w hwl).2.2.1))
             ·refine AL.yes rfl rfl (AO.not rfl rfl (AL.go (AO.pickF rfl rfl rfl (AL.go (AO.move rfl rfl (AL.no rfl rfl rfl rfl (AL.no rfl rfl rfl rfl (AL.no rfl rfl rfl rfl ?_))))))))
              refine AL.no rfl rfl rfl rfl (AL.no rfl rfl rfl rfl (AL.no rfl rfl rfl rfl (AL.go (AO.pickT rfl rfl rfl (AL.nil (AK.seqN ?_))))))
              refine AC.condT rfl (AC.seq (AC.region (AL.go (AO.assign rfl rfl (AL.nil (AK.seqN ?_))))))
              refine AC.ret (AK.seqR (AK.blkR (AK.seqR (AK.seqR (AK.blkR ?_)))))
              refine AK.seqR ?_
              exact AK.ret (L' := L) (F' := F) Tryz.results64 rfl subA (hF (fun e => c90 (e.2.2.2.2.1 w hwl).2.1))
            ·refine AL.go (AO.not rfl rfl (AL.go (AO.move rfl rfl (AL.no rfl rfl rfl rfl (AL.no rfl rfl rfl rfl (AL.no rfl rfl rfl rfl (AL.no rfl rfl rfl rfl ?_)))))))
             refine AL.no rfl rfl rfl rfl (AL.go (AO.pickT rfl rfl rfl (AL.go (AO.move rfl rfl (AL.no rfl rfl rfl rfl (AL.no rfl rfl rfl rfl (AL.no rfl rfl rfl rfl ?_)))))))
             refine AL.no rfl rfl rfl rfl (AL.no rfl rfl rfl rfl (AL.no rfl rfl rfl rfl (AL.go (AO.pickT rfl rfl rfl (AL.nil (AK.seqN ?_))))))
             refine AC.condT rfl (AC.seq (AC.region (AL.go (AO.assign rfl rfl (AL.nil (AK.seqN ?_))))))
             refine AC.ret (AK.seqR (AK.blkR (AK.seqR (AK.seqR (AK.blkR ?_)))))
             refine AK.seqR ?_
             exact AK.ret (L' := L) (F' := F) Tryz.results64 rfl subA (hF (fun e => absurd (e.2.2.2.2.1 w hwl).1 (by rw [c84]; decide)))
           ·refine AL.nil (AK.seqN (AC.seq (AC.condF rfl (AC.exit (AK.seqX ?_)))))
            refine AK.seqX (AK.blkX (AK.seqN (AC.seq (AC.region (AL.go (AO.field rfl rfl ?_))))))
            refine AL.go (AO.loadB rfl rfl ?_)
            refine AL.go (AO.len rfl rfl (fun hl118 => ?_) (enc := eMt) (lst := n.methods) (hm := mS))
            refine AL.go (AO.eql rfl rfl rfl (fun c119 => ?_) (fun c119 => ?_))
            ·refine AL.go (AO.move rfl rfl (AL.no rfl rfl rfl rfl (AL.no rfl rfl rfl rfl (AL.no rfl rfl rfl rfl (AL.no rfl rfl rfl rfl (AL.no rfl rfl rfl rfl ?_))))))
             refine AL.no rfl rfl rfl rfl (AL.no rfl rfl rfl rfl (AL.no rfl rfl rfl rfl (AL.no rfl rfl rfl rfl (AL.no rfl rfl rfl rfl (AL.no rfl rfl rfl rfl ?_)))))
             refine AL.no rfl rfl rfl rfl (AL.go (AO.pickT rfl rfl rfl (AL.go (AO.assign rfl rfl (AL.nil (AK.seqN (AC.ret ?_)))))))
             exact AK.ret (L' := L) (F' := F) Tryz.results64 rfl subA (hT ⟨c15, hbd, hud, by omega, fun i hi => hmw i hi (by omega), fun h0 => absurd (List.length_pos_iff.2 h0) (by omega)⟩)
            ·refine AL.go (AO.move rfl rfl ?_)
             refine AL.yes rfl rfl (AO.loadBA rfl rfl ?_)
             refine AL.yes rfl rfl (AO.field rfl rfl ?_)
             refine AL.yes rfl rfl (AO.loadB rfl rfl ?_)
             refine AL.yes rfl rfl (AO.call rfl rfl (ris_c T n.under 7 memA (fun c124 => ?_) (fun c124 => ?_)))
             ·refine AL.yes rfl rfl (AO.not rfl rfl (AL.yes rfl rfl (AO.move rfl rfl (AL.no rfl rfl rfl rfl (AL.no rfl rfl rfl rfl (AL.no rfl rfl rfl rfl (AL.no rfl rfl rfl rfl ?_)))))))
              refine AL.no rfl rfl rfl rfl (AL.yes rfl rfl (AO.pickF rfl rfl rfl (AL.go (AO.pickF rfl rfl rfl (AL.go (AO.assign rfl rfl (AL.nil (AK.seqN ?_))))))))
              refine AC.ret ?_
              exact AK.ret (L' := L) (F' := F) Tryz.results64 rfl subA (hF (fun e => (e.2.2.2.2.2 (List.length_pos_iff.1 (by omega))).1 c124))
             ·refine AL.yes rfl rfl (AO.not rfl rfl (AL.yes rfl rfl (AO.move rfl rfl ?_)))
              refine AL.yes rfl rfl (AO.loadBA rfl rfl ?_)
              refine AL.yes rfl rfl (AO.field rfl rfl ?_)
              refine AL.yes rfl rfl (AO.loadB rfl rfl ?_)
              refine AL.yes rfl rfl (AO.call rfl rfl (ris_c T n.under 1 memA (fun c130 => ?_) (fun c130 => ?_)))
              ·refine AL.yes rfl rfl (AO.not rfl rfl (AL.yes rfl rfl (AO.pickT rfl rfl rfl (AL.go (AO.pickF rfl rfl rfl (AL.go (AO.assign rfl rfl (AL.nil (AK.seqN ?_)))))))))
               refine AC.ret ?_
               exact AK.ret (L' := L) (F' := F) Tryz.results64 rfl subA (hF (fun e => (e.2.2.2.2.2 (List.length_pos_iff.1 (by omega))).2 c130))
              ·refine AL.yes rfl rfl (AO.not rfl rfl (AL.yes rfl rfl (AO.pickT rfl rfl rfl (AL.go (AO.pickF rfl rfl rfl (AL.go (AO.assign rfl rfl (AL.nil (AK.seqN ?_)))))))))
               refine AC.ret ?_
               exact AK.ret (L' := L) (F' := F) Tryz.results64 rfl subA (hT ⟨c15, hbd, hud, by omega, fun i hi => hmw i hi (by omega), fun _ => ⟨c124, c130⟩⟩)
         ·refine AL.yes rfl rfl (AO.move rfl rfl (AL.no rfl rfl rfl rfl (AL.no rfl rfl rfl rfl (AL.no rfl rfl rfl rfl (AL.yes rfl rfl (AO.pickF rfl rfl rfl (AL.go (AO.pickF rfl rfl rfl ?_))))))))
          refine AL.nil (AK.seqN (AC.condF rfl (AC.skip (AK.seqN (AC.seq ?_)))))
          refine AC.seq (AC.region (AL.go (AO.field rfl rfl ?_)))
          refine AL.go (AO.loadB rfl rfl ?_)
          have hud : underP T n := ⟨c32, c57, c62, by omega⟩
          refine AL.go (AO.len rfl rfl (fun hl76 => ?_) (enc := eMt) (lst := n.methods) (hm := mS))
          refine AL.go (AO.move rfl rfl (AL.nil (AK.seqN (AC.block ?_))))
          refine AC.loop (fun (q : Nat) => q ≤ n.methods.length ∧ ∀ j (hj : j < n.methods.length), j < q → methodP T n j hj) (fun q => [(2, .pointer (some ⟨b2, 0, none⟩)), (3, .pointer (some ⟨b3, 0, none⟩)), (5, .int .i64 n.bounds.length), (75, .slice a5 k5 c5), (76, .int .i64 n.methods.length), (77, .int .i64 (q : Int))]) (fun _ => _) (fun _ => F) (fun q => n.methods.length - q) 0 ⟨Nat.zero_le _, by omega⟩ srA (Sub.refl _ _) ?_
          rintro w ⟨hw, hmw⟩
          refine AC.seq (AC.region ?_)
          refine AL.go (AO.lss rfl rfl rfl (fun c78 => ?_) (fun c78 => ?_))
          ·refine AL.nil (AK.seqN (AC.seq (AC.condT rfl (AC.skip (AK.seqN ?_)))))
           refine AC.seq (AC.block (AC.seq (AC.region (AL.go (AO.move rfl rfl ?_)))))
           have hwl : w < n.methods.length := by omega
           have hwn := hn.meth _ (List.getElem_mem hwl)
           refine AL.go (AO.indexAddr rfl rfl rfl rfl (enc := eMt) (lst := n.methods) memA hwl (fun _ _ => ?_))
           refine AL.go (AO.loadFA rfl rfl ?_)
           refine AL.go (AO.alloc rfl (fun b9 => ?_))
           refine AL.go (AO.assign rfl rfl ?_)
           refine AL.go (AO.storeBA rfl rfl rfl rfl ?_)
           refine AL.nil (AK.seqN (AC.seq (AC.seq (AC.region (AL.go (AO.field rfl rfl ?_))))))
           refine AL.go (AO.loadB rfl rfl ?_)
           refine AL.go (AO.call rfl rfl (rname_c n.methods[w].name (by omega) (fun c84 => ?_) (fun c84 => ?_)))
           ·refine AL.go (AO.not rfl rfl (AL.go (AO.move rfl rfl ?_)))
            refine AL.yes rfl rfl (AO.loadBA rfl rfl ?_)
            refine AL.yes rfl rfl (AO.field rfl rfl ?_)
            refine AL.yes rfl rfl (AO.loadB rfl rfl ?_)
            refine AL.yes rfl rfl (AO.call rfl rfl (ris_c T n.methods[w].sig 5 memA (fun c90 => ?_) (fun c90 => ?_)))
            ·refine AL.yes rfl rfl (AO.not rfl rfl (AL.go (AO.pickF rfl rfl rfl (AL.go (AO.move rfl rfl ?_)))))
             refine AL.yes rfl rfl (AO.loadBA rfl rfl ?_)
             refine AL.yes rfl rfl (AO.field rfl rfl ?_)
             refine AL.yes rfl rfl (AO.loadB rfl rfl ?_)
             refine AL.yes rfl rfl (AO.move rfl rfl ?_)
             refine AL.yes rfl rfl (AO.call rfl rfl (rfewU_c T hr n.methods[w].sig n.bounds.length memA (fun c98 => ?_) (fun c98 => ?_)))
             ·refine AL.yes rfl rfl (AO.not rfl rfl (AL.go (AO.pickF rfl rfl rfl (AL.nil (AK.seqN (AC.condF rfl (AC.skip ?_)))))))
              refine AK.seqN (AC.seq ?_)
              refine AC.draw (fun _ => false) [(b9, _, _), (b3, _, _)] bxA rfl (fun hx hX => ?_)
              have hk5 := (len_of_fact (hX (fMs n.methods a5 k5 c5) memA)).1
              obtain ⟨p1, o1, e1, at1⟩ := row_of_fact (hX (fMs n.methods a5 k5 c5) memA) hwl
              cases e1
              cases hk5
              refine AH.takeW (i := 0) rfl (Y.move rfl) (by kernel_rfl) rfl rfl ?_
              refine AH.takeB (i := 1) rfl (Y.gtr rfl rfl) (by kernel_rfl) rfl rfl (fun c102 => ?_) (fun c102 => ?_)
              ·replace c102 := of_decide_eq_true c102
               refine AH.takeW (i := 2) rfl (Y.move rfl) (by kernel_rfl) rfl rfl ?_
               refine AH.takeW (i := 3) rfl (Y.field rfl) (by kernel_rfl) rfl rfl ?_
               refine AH.takeS (i := 4) rfl (Y.loadB rfl lmA (by rfl)) (by kernel_rfl) (by kernel_rfl) rfl rfl rfl ?_
               refine AH.takeW (i := 5) rfl (Y.move rfl) (by kernel_rfl) rfl rfl ?_
               refine AH.takeW (i := 6) rfl (Y.sub rfl rfl (by omega) (by omega)) (by kernel_rfl) rfl rfl ?_
               obtain ⟨p2, o2, e2, at2⟩ := row_of_fact (i := w - 1) (hX (fMs n.methods (some ⟨p1, o1, none⟩) _ c5) memA) (by omega)
               cases e2
               have hv2 := mt_cells at2 0 _ rfl
               refine AH.takeW (i := 7) rfl (Y.indexAddr (k := w - 1) rfl rfl (by omega) (by omega)) (by kernel_rfl) rfl rfl ?_
               refine AH.takeW (i := 8) rfl (Y.field rfl) (by kernel_rfl) rfl rfl ?_
               refine AH.takeS (i := 9) rfl (Y.loadF rfl hv2) (by kernel_rfl) (by kernel_rfl) rfl rfl rfl ?_
               refine AH.takeW (i := 10) rfl (Y.field rfl) (by kernel_rfl) rfl rfl ?_
               refine AH.takeS (i := 11) rfl (Y.loadB rfl lmA (by rfl)) (by kernel_rfl) (by kernel_rfl) rfl rfl rfl ?_
               refine AH.takeB (i := 12) rfl (Y.geqS rfl rfl) (by kernel_rfl) rfl rfl (fun c113 => ?_) (fun c113 => ?_)
               ·refine AH.takeW (i := 13) rfl (Y.pickT rfl rfl) (by kernel_rfl) rfl rfl ?_
                refine AH.done (by kernel_rfl) ?_
                refine AK.seqN (AC.condT rfl (AC.seq (AC.region (AL.go (AO.assign rfl rfl (AL.nil ?_))))))
                refine AK.seqN (AC.ret (AK.blkR (AK.seqR (AK.seqR (AK.blkR ?_)))))
                refine AK.seqR ?_
                exact AK.ret (L' := L) (F' := F) Tryz.results64 rfl subA (hF (fun e => by have h9 := (e.2.2.2.2.1 w hwl).2.2.2 (by omega); rw [getD_eq default (by omega)] at h9; simp [h9] at c113))
               ·refine AH.takeW (i := 13) rfl (Y.pickT rfl rfl) (by kernel_rfl) rfl rfl ?_
                refine AH.done (by kernel_rfl) ?_
                refine AK.seqN (AC.condF rfl (AC.skip (AK.blkN (AK.seqN (AC.region ?_)))))
                refine AL.go (AO.add rfl rfl rfl (by omega) (by omega) (AL.go (AO.move rfl rfl (AL.nil ?_))))
                refine AK.next (w + 1) ⟨by omega, fun j hj hjq => ?_⟩ (by omega) srA (Sub.drop.trans subF)
                rcases Nat.lt_succ_iff_lt_or_eq.1 hjq with k9 | rfl
                · exact hmw j hj k9
                · exact ⟨c84, c90, c98, fun _ => by rw [getD_eq default (by omega)]; simpa using c113⟩
              ·replace c102 := of_decide_eq_false c102
               refine AH.takeW (i := 2) rfl (Y.move rfl) (by kernel_rfl) rfl rfl ?_
               refine AH.skip (i := 3) rfl (by kernel_rfl) rfl rfl ?_
               refine AH.skip (i := 4) rfl (by kernel_rfl) rfl rfl ?_
               refine AH.skip (i := 5) rfl (by kernel_rfl) rfl rfl ?_
               refine AH.skip (i := 6) rfl (by kernel_rfl) rfl rfl ?_
               refine AH.skip (i := 7) rfl (by kernel_rfl) rfl rfl ?_
               refine AH.skip (i := 8) rfl (by kernel_rfl) rfl rfl ?_
               refine AH.skip (i := 9) rfl (by kernel_rfl) rfl rfl ?_
               refine AH.skip (i := 10) rfl (by kernel_rfl) rfl rfl ?_
               refine AH.skip (i := 11) rfl (by kernel_rfl) rfl rfl ?_
               refine AH.skip (i := 12) rfl (by kernel_rfl) rfl rfl ?_
               refine AH.takeW (i := 13) rfl (Y.pickF rfl rfl) (by kernel_rfl) rfl rfl ?_
               refine AH.done (by kernel_rfl) ?_
               refine AK.seqN (AC.condF rfl (AC.skip (AK.blkN (AK.seqN (AC.region ?_)))))
               refine AL.go (AO.add rfl rfl rfl (by omega) (by omega) (AL.go (AO.move rfl rfl (AL.nil ?_))))
               refine AK.next (w + 1) ⟨by omega, fun j hj hjq => ?_⟩ (by omega) srA (Sub.drop.trans subF)
               rcases Nat.lt_succ_iff_lt_or_eq.1 hjq with k9 | rfl
               · exact hmw j hj k9
               · exact ⟨c84, c90, c98, fun h0 => absurd h0 (by omega)⟩
             ·refine AL.yes rfl rfl (AO.not rfl rfl (AL.go (AO.pickF rfl rfl rfl (AL.nil (AK.seqN (AC.condT rfl (AC.seq ?_)))))))
              refine AC.region (AL.go (AO.assign rfl rfl (AL.nil (AK.seqN (AC.ret (AK.seqR ?_))))))
              refine AK.blkR (AK.seqR (AK.seqR (AK.blkR (AK.seqR ?_))))
              exact AK.ret (L' := L) (F' := F) Tryz.results64 rfl subA (hF (fun e => c98 (e.2.2.2.2.1 w hwl).2.2.1))
            ·refine AL.yes rfl rfl (AO.not rfl rfl (AL.go (AO.pickF rfl rfl rfl (AL.go (AO.move rfl rfl (AL.no rfl rfl rfl rfl (AL.no rfl rfl rfl rfl (AL.no rfl rfl rfl rfl ?_))))))))
             refine AL.no rfl rfl rfl rfl (AL.no rfl rfl rfl rfl (AL.no rfl rfl rfl rfl (AL.go (AO.pickT rfl rfl rfl (AL.nil (AK.seqN ?_))))))
             refine AC.condT rfl (AC.seq (AC.region (AL.go (AO.assign rfl rfl (AL.nil (AK.seqN ?_))))))
             refine AC.ret (AK.seqR (AK.blkR (AK.seqR (AK.seqR (AK.blkR ?_)))))
             refine AK.seqR ?_
             exact AK.ret (L' := L) (F' := F) Tryz.results64 rfl subA (hF (fun e => c90 (e.2.2.2.2.1 w hwl).2.1))
           ·refine AL.go (AO.not rfl rfl (AL.go (AO.move rfl rfl (AL.no rfl rfl rfl rfl (AL.no rfl rfl rfl rfl (AL.no rfl rfl rfl rfl (AL.no rfl rfl rfl rfl ?_)))))))
            refine AL.no rfl rfl rfl rfl (AL.go (AO.pickT rfl rfl rfl (AL.go (AO.move rfl rfl (AL.no rfl rfl rfl rfl (AL.no rfl rfl rfl rfl (AL.no rfl rfl rfl rfl ?_)))))))
            refine AL.no rfl rfl rfl rfl (AL.no rfl rfl rfl rfl (AL.no rfl rfl rfl rfl (AL.go (AO.pickT rfl rfl rfl (AL.nil (AK.seqN ?_))))))
            refine AC.condT rfl (AC.seq (AC.region (AL.go (AO.assign rfl rfl (AL.nil (AK.seqN ?_))))))
            refine AC.ret (AK.seqR (AK.blkR (AK.seqR (AK.seqR (AK.blkR ?_)))))
            refine AK.seqR ?_
            exact AK.ret (L' := L) (F' := F) Tryz.results64 rfl subA (hF (fun e => absurd (e.2.2.2.2.1 w hwl).1 (by rw [c84]; decide)))
          ·refine AL.nil (AK.seqN (AC.seq (AC.condF rfl (AC.exit (AK.seqX ?_)))))
           refine AK.seqX (AK.blkX (AK.seqN (AC.seq (AC.region (AL.go (AO.field rfl rfl ?_))))))
           refine AL.go (AO.loadB rfl rfl ?_)
           refine AL.go (AO.len rfl rfl (fun hl118 => ?_) (enc := eMt) (lst := n.methods) (hm := mS))
           refine AL.go (AO.eql rfl rfl rfl (fun c119 => ?_) (fun c119 => ?_))
           ·refine AL.go (AO.move rfl rfl (AL.no rfl rfl rfl rfl (AL.no rfl rfl rfl rfl (AL.no rfl rfl rfl rfl (AL.no rfl rfl rfl rfl (AL.no rfl rfl rfl rfl ?_))))))
            refine AL.no rfl rfl rfl rfl (AL.no rfl rfl rfl rfl (AL.no rfl rfl rfl rfl (AL.no rfl rfl rfl rfl (AL.no rfl rfl rfl rfl (AL.no rfl rfl rfl rfl ?_)))))
            refine AL.no rfl rfl rfl rfl (AL.go (AO.pickT rfl rfl rfl (AL.go (AO.assign rfl rfl (AL.nil (AK.seqN (AC.ret ?_)))))))
            exact AK.ret (L' := L) (F' := F) Tryz.results64 rfl subA (hT ⟨c15, hbd, hud, by omega, fun i hi => hmw i hi (by omega), fun h0 => absurd (List.length_pos_iff.2 h0) (by omega)⟩)
           ·refine AL.go (AO.move rfl rfl ?_)
            refine AL.yes rfl rfl (AO.loadBA rfl rfl ?_)
            refine AL.yes rfl rfl (AO.field rfl rfl ?_)
            refine AL.yes rfl rfl (AO.loadB rfl rfl ?_)
            refine AL.yes rfl rfl (AO.call rfl rfl (ris_c T n.under 7 memA (fun c124 => ?_) (fun c124 => ?_)))
            ·refine AL.yes rfl rfl (AO.not rfl rfl (AL.yes rfl rfl (AO.move rfl rfl (AL.no rfl rfl rfl rfl (AL.no rfl rfl rfl rfl (AL.no rfl rfl rfl rfl (AL.no rfl rfl rfl rfl ?_)))))))
             refine AL.no rfl rfl rfl rfl (AL.yes rfl rfl (AO.pickF rfl rfl rfl (AL.go (AO.pickF rfl rfl rfl (AL.go (AO.assign rfl rfl (AL.nil (AK.seqN ?_))))))))
             refine AC.ret ?_
             exact AK.ret (L' := L) (F' := F) Tryz.results64 rfl subA (hF (fun e => (e.2.2.2.2.2 (List.length_pos_iff.1 (by omega))).1 c124))
            ·refine AL.yes rfl rfl (AO.not rfl rfl (AL.yes rfl rfl (AO.move rfl rfl ?_)))
             refine AL.yes rfl rfl (AO.loadBA rfl rfl ?_)
             refine AL.yes rfl rfl (AO.field rfl rfl ?_)
             refine AL.yes rfl rfl (AO.loadB rfl rfl ?_)
             refine AL.yes rfl rfl (AO.call rfl rfl (ris_c T n.under 1 memA (fun c130 => ?_) (fun c130 => ?_)))
             ·refine AL.yes rfl rfl (AO.not rfl rfl (AL.yes rfl rfl (AO.pickT rfl rfl rfl (AL.go (AO.pickF rfl rfl rfl (AL.go (AO.assign rfl rfl (AL.nil (AK.seqN ?_)))))))))
              refine AC.ret ?_
              exact AK.ret (L' := L) (F' := F) Tryz.results64 rfl subA (hF (fun e => (e.2.2.2.2.2 (List.length_pos_iff.1 (by omega))).2 c130))
             ·refine AL.yes rfl rfl (AO.not rfl rfl (AL.yes rfl rfl (AO.pickT rfl rfl rfl (AL.go (AO.pickF rfl rfl rfl (AL.go (AO.assign rfl rfl (AL.nil (AK.seqN ?_)))))))))
              refine AC.ret ?_
              exact AK.ret (L' := L) (F' := F) Tryz.results64 rfl subA (hT ⟨c15, hbd, hud, by omega, fun i hi => hmw i hi (by omega), fun _ => ⟨c124, c130⟩⟩)
     ·refine AL.yes rfl rfl (AO.not rfl rfl (AL.go (AO.pickF rfl rfl rfl (AL.nil (AK.seqN (AC.condT rfl (AC.seq ?_)))))))
      refine AC.region (AL.go (AO.assign rfl rfl (AL.nil (AK.seqN (AC.ret (AK.seqR ?_))))))
      exact AK.ret (L' := L) (F' := F) Tryz.results64 rfl subA (hF (fun e => c32 e.2.2.1.1))
  ·refine AL.go (AO.not rfl rfl (AL.go (AO.move rfl rfl (AL.no rfl rfl rfl rfl (AL.no rfl rfl rfl rfl (AL.go (AO.pickT rfl rfl rfl (AL.go (AO.move rfl rfl ?_)))))))))
   refine AL.no rfl rfl rfl rfl (AL.no rfl rfl rfl rfl (AL.no rfl rfl rfl rfl (AL.no rfl rfl rfl rfl (AL.go (AO.pickT rfl rfl rfl (AL.go (AO.move rfl rfl ?_)))))))
   refine AL.no rfl rfl rfl rfl (AL.no rfl rfl rfl rfl (AL.no rfl rfl rfl rfl (AL.no rfl rfl rfl rfl (AL.no rfl rfl rfl rfl (AL.no rfl rfl rfl rfl ?_)))))
   refine AL.go (AO.pickT rfl rfl rfl (AL.nil (AK.seqN (AC.condT rfl (AC.seq (AC.region ?_))))))
   refine AL.go (AO.assign rfl rfl (AL.nil (AK.seqN (AC.ret (AK.seqR ?_)))))
   exact AK.ret (L' := L) (F' := F) Tryz.results64 rfl subA (hF (fun e => c15 e.1))
theorem rfits_c (N : List Nmd) (t : Ty) {a a2 a3 a4 : Option Addr} {k c k2 c2 k3 c3 k4 c4 : Nat} (m2 : fN N a2 k2 c2 ∈ F) (m4 : fK t a4 k4 c4 ∈ F)
    (hT : fitsU N t → R (.bool true) L F) (hF : ¬ fitsU N t → R (.bool false) L F) : ACalls Tryz.prog W0 65 #[.agg #[.slice a k c, .slice a2 k2 c2], vTy t a3 k3 c3 a4 k4 c4] L F R := by
  refine ACalls.body Tryz.func65 rfl Tryz.ntmps65 rfl ?_
  refine AC.seq (AC.region (AL.go (AO.box rfl rfl (fun b2 => ?_))))
  refine AL.go (AO.box rfl rfl (fun b3 => ?_))
  refine AL.go (AO.assign rfl rfl (AL.nil (AK.seqN (AC.seq (AC.seq (AC.region ?_))))))
  refine AL.go (AO.field rfl rfl ?_)
  refine AL.go (AO.loadB rfl rfl ?_)
  refine AL.go (AO.neq rfl rfl rfl (fun c8 => ?_) (fun c8 => ?_))
  ·refine AL.nil (AK.seqN (AC.condT rfl (AC.seq (AC.region (AL.go (AO.assign rfl rfl ?_))))))
   refine AL.nil (AK.seqN (AC.ret (AK.seqR ?_)))
   exact AK.ret (L' := L) (F' := F) Tryz.results65 rfl subA (hT (fun e => absurd e c8))
  ·refine AL.nil (AK.seqN (AC.condF rfl (AC.skip (AK.seqN (AC.seq ?_)))))
   refine AC.region ?_
   refine AL.go (AO.loadBA rfl rfl ?_)
   refine AL.go (AO.field rfl rfl ?_)
   refine AL.go (AO.loadB rfl rfl ?_)
   refine AL.go (AO.call rfl rfl (ruat_c N t.name m2 (fun q c12 => ?_) (fun c12 => ?_)))
   ·refine AL.go (AO.assign rfl rfl (AL.nil (AK.seqN (AC.seq ?_))))
    refine AC.draw (fun _ => false) [(b2, _, _), (b3, _, _)] bxA rfl (fun hx hX => ?_)
    obtain ⟨hql, _⟩ := atN_some c12
    have hk2 := (len_of_fact (hX (fN N a2 k2 c2) memA)).1
    have hk4 := (len_of_fact (hX (fK t a4 k4 c4) memA)).1
    obtain ⟨p1, o1, e1, at1⟩ := row_of_fact (hX (fN N a2 k2 c2) memA) hql
    cases e1
    obtain ⟨w1, x1, y1, w2, x2, y2, hv, hw1, hw2⟩ := nm_cells at1
    have hk1 := (len_of_fact hw1).1
    have hv1 := hv 1 _ rfl
    cases hk2
    cases hk4
    cases hk1
    refine AH.takeW (i := 0) rfl (Y.move rfl) (by kernel_rfl) rfl rfl ?_
    refine AH.takeB (i := 1) rfl (Y.geq rfl rfl) (by kernel_rfl) rfl rfl (fun _ => ?_) (fun c14 => absurd (of_decide_eq_false c14) (by omega))
    refine AH.takeW (i := 2) rfl (Y.move rfl) (by kernel_rfl) rfl rfl ?_
    refine AH.takeW (i := 3) rfl (Y.field rfl) (by kernel_rfl) rfl rfl ?_
    refine AH.takeS (i := 4) rfl (Y.loadB rfl lmA (by rfl)) (by kernel_rfl) (by kernel_rfl) rfl rfl rfl ?_
    refine AH.takeW (i := 5) rfl (Y.move rfl) (by kernel_rfl) rfl rfl ?_
    refine AH.takeW (i := 6) rfl (Y.indexAddr (k := q) rfl rfl (by omega) (by omega)) (by kernel_rfl) rfl rfl ?_
    refine AH.takeW (i := 7) rfl (Y.field rfl) (by kernel_rfl) rfl rfl ?_
    refine AH.takeS (i := 8) rfl (Y.loadF rfl hv1) (by kernel_rfl) (by kernel_rfl) rfl rfl rfl ?_
    refine AH.takeW (i := 9) rfl (Y.lenV rfl) (by kernel_rfl) rfl rfl ?_
    refine AH.takeW (i := 10) rfl (Y.field rfl) (by kernel_rfl) rfl rfl ?_
    refine AH.takeS (i := 11) rfl (Y.loadB rfl lmA (by rfl)) (by kernel_rfl) (by kernel_rfl) rfl rfl rfl ?_
    refine AH.takeW (i := 12) rfl (Y.lenV rfl) (by kernel_rfl) rfl rfl ?_
    refine AH.takeB (i := 13) rfl (Y.eql rfl rfl) (by kernel_rfl) rfl rfl (fun c26 => ?_) (fun c26 => ?_)
    ·replace c26 := eq_of_beq c26
     refine AH.takeW (i := 14) rfl (Y.pickT rfl rfl) (by kernel_rfl) rfl rfl ?_
     refine AH.takeW (i := 15) rfl (Y.assign rfl) (by kernel_rfl) rfl rfl ?_
     refine AH.done (by kernel_rfl) ?_
     refine AK.seqN (AC.ret ?_)
     exact AK.ret (L' := L) (F' := F) Tryz.results65 rfl subA (hT (fun _ => ⟨q, c12, by rw [getD_eq default hql]; omega⟩))
    ·replace c26 := ne_of_beqF c26
     refine AH.takeW (i := 14) rfl (Y.pickT rfl rfl) (by kernel_rfl) rfl rfl ?_
     refine AH.takeW (i := 15) rfl (Y.assign rfl) (by kernel_rfl) rfl rfl ?_
     refine AH.done (by kernel_rfl) ?_
     refine AK.seqN (AC.ret ?_)
     exact AK.ret (L' := L) (F' := F) Tryz.results65 rfl subA (hF (fun e => by obtain ⟨i, hi, h9⟩ := e ‹_›; rw [c12] at hi; injection hi with hi; subst hi; rw [getD_eq default hql] at h9; exact c26 (by omega)))
   ·refine AL.go (AO.assign rfl rfl (AL.nil (AK.seqN (AC.seq ?_))))
    refine AC.draw (fun _ => false) [(b2, _, _), (b3, _, _)] bxA rfl (fun hx hX => ?_)
    refine AH.takeW (i := 0) rfl (Y.move rfl) (by kernel_rfl) rfl rfl ?_
    refine AH.takeB (i := 1) rfl (Y.geq rfl rfl) (by kernel_rfl) rfl rfl (fun c14 => absurd (of_decide_eq_true c14) (by omega)) (fun _ => ?_)
    refine AH.takeW (i := 2) rfl (Y.move rfl) (by kernel_rfl) rfl rfl ?_
    refine AH.skip (i := 3) rfl (by kernel_rfl) rfl rfl ?_
    refine AH.skip (i := 4) rfl (by kernel_rfl) rfl rfl ?_
    refine AH.skip (i := 5) rfl (by kernel_rfl) rfl rfl ?_
    refine AH.skip (i := 6) rfl (by kernel_rfl) rfl rfl ?_
    refine AH.skip (i := 7) rfl (by kernel_rfl) rfl rfl ?_
    refine AH.skip (i := 8) rfl (by kernel_rfl) rfl rfl ?_
    refine AH.skip (i := 9) rfl (by kernel_rfl) rfl rfl ?_
    refine AH.skip (i := 10) rfl (by kernel_rfl) rfl rfl ?_
    refine AH.skip (i := 11) rfl (by kernel_rfl) rfl rfl ?_
    refine AH.skip (i := 12) rfl (by kernel_rfl) rfl rfl ?_
    refine AH.skip (i := 13) rfl (by kernel_rfl) rfl rfl ?_
    refine AH.takeW (i := 14) rfl (Y.pickF rfl rfl) (by kernel_rfl) rfl rfl ?_
    refine AH.takeW (i := 15) rfl (Y.assign rfl) (by kernel_rfl) rfl rfl ?_
    refine AH.done (by kernel_rfl) ?_
    refine AK.seqN (AC.ret ?_)
    exact AK.ret (L' := L) (F' := F) Tryz.results65 rfl subA (hF (fun e => by obtain ⟨i, hi, _⟩ := e c8; rw [c12] at hi; exact absurd hi (by simp)))
theorem ruright_c (T : List Ty) (N : List Nmd) (hok : ∀ t ∈ T, TyOk t) (hno : ∀ n ∈ N, NmOk n) {a a2 : Option Addr} {k c k2 c2 : Nat} (mL : fL T a k c ∈ F) (mN : fN N a2 k2 c2 ∈ F)
    (hT : rightU T N → R (.bool true) L F) (hF : ¬ rightU T N → R (.bool false) L F) : ACalls Tryz.prog W0 23 #[.agg #[.slice a k c, .slice a2 k2 c2]] L F R := by
  refine ACalls.body Tryz.func23 rfl Tryz.ntmps23 rfl ?_
  refine AC.seq (AC.region (AL.go (AO.box rfl rfl (fun b1 => ?_))))
  refine AL.go (AO.assign rfl rfl (AL.nil (AK.seqN (AC.seq (AC.seq (AC.region ?_))))))
  refine AL.go (AO.field rfl rfl ?_)
  refine AL.go (AO.loadB rfl rfl ?_)
  refine AL.go (AO.call rfl rfl (rright_c T hok mL (fun c9 => ?_) (fun c9 => ?_)))
  ·refine AL.go (AO.not rfl rfl (AL.go (AO.move rfl rfl (AL.yes rfl rfl (AO.field rfl rfl ?_)))))
   refine AL.yes rfl rfl (AO.loadB rfl rfl ?_)
   refine AL.yes rfl rfl (AO.len rfl rfl (fun hl14 => ?_) (enc := eNm) (lst := N) (hm := mN))
   refine AL.yes rfl rfl (AO.gtr rfl rfl rfl (fun c15 => ?_) (fun c15 => ?_))
   ·refine AL.go (AO.pickF rfl rfl rfl (AL.nil (AK.seqN (AC.condT rfl (AC.seq (AC.region ?_))))))
    refine AL.go (AO.assign rfl rfl (AL.nil (AK.seqN (AC.ret (AK.seqR ?_)))))
    exact AK.ret (L' := L) (F' := F) Tryz.results23 rfl subA (hF (fun e => absurd e.2.1 (by omega)))
   ·refine AL.go (AO.pickF rfl rfl rfl (AL.nil (AK.seqN (AC.condF rfl (AC.skip (AK.seqN ?_))))))
    refine AC.seq (AC.seq (AC.region (AL.go (AO.field rfl rfl ?_))))
    refine AL.go (AO.loadB rfl rfl ?_)
    refine AL.go (AO.len rfl rfl (fun hl19 => ?_) (enc := eNm) (lst := N) (hm := memA))
    refine AL.go (AO.move rfl rfl (AL.nil (AK.seqN (AC.block ?_))))
    refine AC.loop (fun (q : Nat) => q ≤ N.length ∧ ∀ j (hj : j < N.length), j < q → nameAt T N j hj) (fun q => [(1, .pointer (some ⟨b1, 0, none⟩)), (18, .slice a2 k2 c2), (19, .int .i64 N.length), (20, .int .i64 (q : Int))]) (fun _ => _) (fun _ => _) (fun q => N.length - q) 0 ⟨Nat.zero_le _, by omega⟩ srA (Sub.refl _ _) ?_
    rintro q ⟨hq, hin⟩
    refine AC.seq (AC.region ?_)
    refine AL.go (AO.lss rfl rfl rfl (fun c21 => ?_) (fun c21 => ?_))
    ·refine AL.nil (AK.seqN (AC.seq (AC.condT rfl (AC.skip (AK.seqN ?_)))))
     refine AC.seq (AC.block (AC.seq (AC.region (AL.go (AO.move rfl rfl ?_)))))
     have hql : q < N.length := by omega
     refine AL.go (AO.indexAddr rfl rfl rfl rfl (enc := eNm) (lst := N) memA hql (fun _ _ => ?_))
     refine AL.go (AO.loadFA rfl rfl ?_)
     intro a26 k26 z26 d26 e26 f26
     refine AL.go (AO.alloc rfl (fun b4 => ?_))
     refine AL.go (AO.assign rfl rfl ?_)
     refine AL.go (AO.storeBA rfl rfl rfl rfl ?_)
     refine AL.nil (AK.seqN (AC.seq ?_))
     refine AC.draw (fun _ => false) [(b4, _, _), (b1, _, _)] bxA rfl (fun hx hX => ?_)
     have hk2 := (len_of_fact (hX (fN N a2 k2 c2) memA)).1
     obtain ⟨p1, o1, e1, at1⟩ := row_of_fact (hX (fN N a2 k2 c2) memA) hql
     cases e1
     cases hk2
     refine AH.takeS (i := 0) rfl (Y.loadBA rfl lmA (by rfl)) (by kernel_rfl) (by kernel_rfl) rfl rfl rfl ?_
     refine AH.takeS (i := 1) rfl (Y.loadBA rfl lmA (by rfl)) (by kernel_rfl) (by kernel_rfl) rfl rfl rfl ?_
     refine AH.one (i := 2) (by kernel_rfl) rfl rfl (fun _ => ?_)
     refine AO.call rfl rfl (rnamedU_c T c9 N[q] (hno _ (List.getElem_mem hql)) (show fL T a k c ∈ _ from memA) (show fBd N[q] _ _ _ ∈ _ from memA) (show fMs N[q].methods _ _ _ ∈ _ from memA) (fun c27 => ?_) (fun c27 => ?_))
     all_goals refine AT.held bxA memB ?_
     ·refine AH.takeW (i := 3) rfl (Y.not rfl) (by kernel_rfl) rfl rfl ?_
      refine AH.takeW (i := 4) rfl (Y.move rfl) (by kernel_rfl) rfl rfl ?_
      refine AH.takeW (i := 5) rfl (Y.move rfl) (by kernel_rfl) rfl rfl ?_
      refine AH.takeB (i := 6) rfl (Y.gtr rfl rfl) (by kernel_rfl) rfl rfl (fun c31 => ?_) (fun c31 => ?_)
      ·replace c31 := of_decide_eq_true c31
       refine AH.takeW (i := 7) rfl (Y.move rfl) (by kernel_rfl) rfl rfl ?_
       refine AH.takeW (i := 8) rfl (Y.field rfl) (by kernel_rfl) rfl rfl ?_
       refine AH.takeS (i := 9) rfl (Y.loadB rfl lmA (by rfl)) (by kernel_rfl) (by kernel_rfl) rfl rfl rfl ?_
       refine AH.takeW (i := 10) rfl (Y.move rfl) (by kernel_rfl) rfl rfl ?_
       refine AH.takeW (i := 11) rfl (Y.sub rfl rfl (by omega) (by omega)) (by kernel_rfl) rfl rfl ?_
       obtain ⟨p2, o2, e2, at2⟩ := row_of_fact (i := q - 1) (hX (fN N (some ⟨p1, o1, none⟩) _ c2) memA) (by omega)
       cases e2
       obtain ⟨w1, x1, y1, w2, x2, y2, hv, hw1, hw2⟩ := nm_cells at2
       have hv2 := hv 0 _ rfl
       refine AH.takeW (i := 12) rfl (Y.indexAddr (k := q - 1) rfl rfl (by omega) (by omega)) (by kernel_rfl) rfl rfl ?_
       refine AH.takeW (i := 13) rfl (Y.field rfl) (by kernel_rfl) rfl rfl ?_
       refine AH.takeS (i := 14) rfl (Y.loadF rfl hv2) (by kernel_rfl) (by kernel_rfl) rfl rfl rfl ?_
       refine AH.takeW (i := 15) rfl (Y.field rfl) (by kernel_rfl) rfl rfl ?_
       refine AH.takeS (i := 16) rfl (Y.loadB rfl lmA (by rfl)) (by kernel_rfl) (by kernel_rfl) rfl rfl rfl ?_
       refine AH.takeB (i := 17) rfl (Y.geqS rfl rfl) (by kernel_rfl) rfl rfl (fun c42 => ?_) (fun c42 => ?_)
       ·refine AH.takeW (i := 18) rfl (Y.pickT rfl rfl) (by kernel_rfl) rfl rfl ?_
        refine AH.takeW (i := 19) rfl (Y.pickF rfl rfl) (by kernel_rfl) rfl rfl ?_
        refine AH.done (by kernel_rfl) ?_
        refine AK.seqN (AC.condT rfl (AC.seq (AC.region (AL.go (AO.assign rfl rfl (AL.nil ?_))))))
        refine AK.seqN (AC.ret (AK.blkR (AK.seqR (AK.seqR (AK.blkR ?_)))))
        refine AK.seqR ?_
        exact AK.ret (L' := L) (F' := F) Tryz.results23 rfl subA (hF (fun e => by have h9 := (e.2.2.1 q hql).2 (by omega); rw [getD_eq default (by omega)] at h9; simp [h9] at c42))
       ·refine AH.takeW (i := 18) rfl (Y.pickT rfl rfl) (by kernel_rfl) rfl rfl ?_
        refine AH.takeW (i := 19) rfl (Y.pickF rfl rfl) (by kernel_rfl) rfl rfl ?_
        refine AH.done (by kernel_rfl) ?_
        refine AK.seqN (AC.condF rfl (AC.skip (AK.blkN (AK.seqN (AC.region ?_)))))
        refine AL.go (AO.add rfl rfl rfl (by omega) (by omega) (AL.go (AO.move rfl rfl (AL.nil ?_))))
        refine AK.next (q + 1) ⟨by omega, fun j hj hjq => ?_⟩ (by omega) srA (Sub.drop.trans subF)
        rcases Nat.lt_succ_iff_lt_or_eq.1 hjq with k9 | rfl
        · exact hin j hj k9
        · exact ⟨c27, fun _ => by rw [getD_eq default (by omega)]; simpa using c42⟩
      ·replace c31 := of_decide_eq_false c31
       refine AH.takeW (i := 7) rfl (Y.move rfl) (by kernel_rfl) rfl rfl ?_
       refine AH.skip (i := 8) rfl (by kernel_rfl) rfl rfl ?_
       refine AH.skip (i := 9) rfl (by kernel_rfl) rfl rfl ?_
       refine AH.skip (i := 10) rfl (by kernel_rfl) rfl rfl ?_
       refine AH.skip (i := 11) rfl (by kernel_rfl) rfl rfl ?_
       refine AH.skip (i := 12) rfl (by kernel_rfl) rfl rfl ?_
       refine AH.skip (i := 13) rfl (by kernel_rfl) rfl rfl ?_
       refine AH.skip (i := 14) rfl (by kernel_rfl) rfl rfl ?_
       refine AH.skip (i := 15) rfl (by kernel_rfl) rfl rfl ?_
       refine AH.skip (i := 16) rfl (by kernel_rfl) rfl rfl ?_
       refine AH.skip (i := 17) rfl (by kernel_rfl) rfl rfl ?_
       refine AH.takeW (i := 18) rfl (Y.pickF rfl rfl) (by kernel_rfl) rfl rfl ?_
       refine AH.takeW (i := 19) rfl (Y.pickF rfl rfl) (by kernel_rfl) rfl rfl ?_
       refine AH.done (by kernel_rfl) ?_
       refine AK.seqN (AC.condF rfl (AC.skip (AK.blkN (AK.seqN (AC.region ?_)))))
       refine AL.go (AO.add rfl rfl rfl (by omega) (by omega) (AL.go (AO.move rfl rfl (AL.nil ?_))))
       refine AK.next (q + 1) ⟨by omega, fun j hj hjq => ?_⟩ (by omega) srA (Sub.drop.trans subF)
       rcases Nat.lt_succ_iff_lt_or_eq.1 hjq with k9 | rfl
       · exact hin j hj k9
       · exact ⟨c27, fun h0 => absurd h0 (by omega)⟩
     ·refine AH.takeW (i := 3) rfl (Y.not rfl) (by kernel_rfl) rfl rfl ?_
      refine AH.takeW (i := 4) rfl (Y.move rfl) (by kernel_rfl) rfl rfl ?_
      refine AH.skip (i := 5) rfl (by kernel_rfl) rfl rfl ?_
      refine AH.skip (i := 6) rfl (by kernel_rfl) rfl rfl ?_
      refine AH.skip (i := 7) rfl (by kernel_rfl) rfl rfl ?_
      refine AH.skip (i := 8) rfl (by kernel_rfl) rfl rfl ?_
      refine AH.skip (i := 9) rfl (by kernel_rfl) rfl rfl ?_
      refine AH.skip (i := 10) rfl (by kernel_rfl) rfl rfl ?_
      refine AH.skip (i := 11) rfl (by kernel_rfl) rfl rfl ?_
      refine AH.skip (i := 12) rfl (by kernel_rfl) rfl rfl ?_
      refine AH.skip (i := 13) rfl (by kernel_rfl) rfl rfl ?_
      refine AH.skip (i := 14) rfl (by kernel_rfl) rfl rfl ?_
      refine AH.skip (i := 15) rfl (by kernel_rfl) rfl rfl ?_
      refine AH.skip (i := 16) rfl (by kernel_rfl) rfl rfl ?_
      refine AH.skip (i := 17) rfl (by kernel_rfl) rfl rfl ?_
      refine AH.skip (i := 18) rfl (by kernel_rfl) rfl rfl ?_
      refine AH.takeW (i := 19) rfl (Y.pickT rfl rfl) (by kernel_rfl) rfl rfl ?_
      refine AH.done (by kernel_rfl) ?_
      refine AK.seqN (AC.condT rfl (AC.seq (AC.region (AL.go (AO.assign rfl rfl (AL.nil ?_))))))
      refine AK.seqN (AC.ret (AK.blkR (AK.seqR (AK.seqR (AK.blkR ?_)))))
      refine AK.seqR ?_
      exact AK.ret (L' := L) (F' := F) Tryz.results23 rfl subA (hF (fun e => c27 (e.2.2.1 q hql).1))
    ·refine AL.nil (AK.seqN (AC.seq (AC.condF rfl (AC.exit (AK.seqX ?_)))))
     refine AK.seqX (AK.blkX (AK.seqN (AC.seq (AC.seq (AC.region ?_)))))
     refine AL.go (AO.field rfl rfl ?_)
     refine AL.go (AO.loadB rfl rfl ?_)
     refine AL.go (AO.len rfl rfl (fun hl48 => ?_) (enc := eTy) (lst := T) (hm := memA))
     refine AL.go (AO.move rfl rfl (AL.nil (AK.seqN (AC.block ?_))))
     refine AC.loop (fun (q : Nat) => q ≤ T.length ∧ ∀ j (hj : j < T.length), j < q → fitsU N T[j]) (fun q => [(1, .pointer (some ⟨b1, 0, none⟩)), (47, .slice a k c), (48, .int .i64 T.length), (49, .int .i64 (q : Int))]) (fun _ => _) (fun _ => _) (fun q => T.length - q) 0 ⟨Nat.zero_le _, by omega⟩ srA (Sub.refl _ _) ?_
     rintro w ⟨hw, hfw⟩
     refine AC.seq (AC.region ?_)
     refine AL.go (AO.lss rfl rfl rfl (fun c50 => ?_) (fun c50 => ?_))
     ·refine AL.nil (AK.seqN (AC.seq (AC.condT rfl (AC.skip (AK.seqN ?_)))))
      refine AC.seq (AC.block (AC.seq (AC.region ?_)))
      have hwl : w < T.length := by omega
      refine AL.go (AO.indexAddr rfl rfl rfl rfl (enc := eTy) (lst := T) memA hwl (fun _ _ => ?_))
      refine AL.go (AO.loadFA rfl rfl ?_)
      intro a52 k52 z52 d52 e52 f52
      refine AL.go (AO.alloc rfl (fun b6 => ?_))
      refine AL.go (AO.storeBA rfl rfl rfl rfl ?_)
      refine AL.nil (AK.seqN (AC.seq (AC.region ?_)))
      refine AL.go (AO.loadBA rfl rfl ?_)
      refine AL.go (AO.loadBA rfl rfl ?_)
      refine AL.go (AO.call rfl rfl (rfits_c N T[w] (show fN N a2 k2 c2 ∈ _ from memA) (show fK T[w] _ _ _ ∈ _ from memA) (fun c55 => ?_) (fun c55 => ?_)))
      ·refine AL.go (AO.not rfl rfl (AL.nil (AK.seqN (AC.condF rfl (AC.skip (AK.blkN ?_))))))
       refine AK.seqN (AC.region (AL.go (AO.add rfl rfl rfl (by omega) (by omega) (AL.go (AO.move rfl rfl (AL.nil ?_))))))
       refine AK.next (w + 1) ⟨by omega, fun j hj hjq => ?_⟩ (by omega) srA (Sub.drop.trans subF)
       rcases Nat.lt_succ_iff_lt_or_eq.1 hjq with k9 | rfl
       · exact hfw j hj k9
       · exact c55
      ·refine AL.go (AO.not rfl rfl (AL.nil (AK.seqN (AC.condT rfl (AC.seq (AC.region ?_))))))
       refine AL.go (AO.assign rfl rfl (AL.nil (AK.seqN (AC.ret (AK.blkR (AK.seqR ?_))))))
       refine AK.seqR (AK.blkR (AK.seqR ?_))
       exact AK.ret (L' := L) (F' := F) Tryz.results23 rfl subA (hF (fun e => c55 (e.2.2.2 _ (List.getElem_mem hwl))))
     ·refine AL.nil (AK.seqN (AC.seq (AC.condF rfl (AC.exit (AK.seqX ?_)))))
      refine AK.seqX (AK.blkX (AK.seqN (AC.seq (AC.region (AL.go (AO.assign rfl rfl ?_))))))
      refine AL.nil (AK.seqN (AC.ret ?_))
      refine AK.ret (L' := L) (F' := F) Tryz.results23 rfl subA (hT ⟨c9, by omega, fun i hi => hin i hi (by omega), fun t ht => ?_⟩)
      obtain ⟨j, hj, rfl⟩ := List.getElem_of_mem ht
      exact hfw j hj (by omega)
  ·refine AL.go (AO.not rfl rfl (AL.go (AO.move rfl rfl (AL.no rfl rfl rfl rfl (AL.no rfl rfl rfl rfl (AL.no rfl rfl rfl rfl (AL.no rfl rfl rfl rfl ?_)))))))
   refine AL.go (AO.pickT rfl rfl rfl (AL.nil (AK.seqN (AC.condT rfl (AC.seq (AC.region ?_))))))
   refine AL.go (AO.assign rfl rfl (AL.nil (AK.seqN (AC.ret (AK.seqR ?_)))))
   exact AK.ret (L' := L) (F' := F) Tryz.results23 rfl subA (hF (fun e => c9 e.1))
theorem rmethods_c (l m : List Mth) {a1 a2 : Option Addr} {k1 c1 k2 c2 : Nat} (m1 : fMs l a1 k1 c1 ∈ F) (m2 : fMs m a2 k2 c2 ∈ F) (hT : l = m → R (.bool true) L F) (hF : l ≠ m → R (.bool false) L F) :
    ACalls Tryz.prog W0 56 #[.slice a1 k1 c1, .slice a2 k2 c2] L F R := by
  refine ACalls.body Tryz.func56 rfl Tryz.ntmps56 rfl ?_
  refine AC.seq (AC.region (AL.go (AO.assign rfl rfl (AL.nil (AK.seqN (AC.seq ?_))))))
  refine AC.seq (AC.region (AL.go (AO.move rfl rfl ?_)))
  refine AL.go (AO.len rfl rfl (fun hl1 => ?_) (enc := eMt) (lst := l) (hm := m1))
  refine AL.go (AO.move rfl rfl ?_)
  refine AL.go (AO.len rfl rfl (fun hl2 => ?_) (enc := eMt) (lst := m) (hm := m2))
  refine AL.go (AO.neq rfl rfl rfl (fun c10 => ?_) (fun c10 => ?_))
  ·refine AL.nil (AK.seqN (AC.condT rfl (AC.seq (AC.region (AL.go (AO.assign rfl rfl ?_))))))
   refine AL.nil (AK.seqN (AC.ret (AK.seqR ?_)))
   first | refine AK.ret Tryz.results56 rfl subA (hT ?_) | refine AK.ret Tryz.results56 rfl subA (hF ?_)
   first
   | exact ne_at hkl hkm (fun e => c26 (by rw [e]))
   | exact ne_at hkl hkm (fun e => c51 (by rw [e]))
   | exact ne_at hkl hkm (fun e => by rw [e] at c38; simp at c38)
   | exact fun e => c10 (by rw [e])
   | exact all_of_take hok (by omega) (by omega)
  ·refine AL.nil (AK.seqN (AC.condF rfl (AC.skip (AK.seqN (AC.seq ?_)))))
   refine AC.seq (AC.region (AL.go (AO.move rfl rfl ?_)))
   refine AL.go (AO.len rfl rfl (fun hl3 => ?_) (enc := eMt) (lst := l) (hm := m1))
   refine AL.go (AO.move rfl rfl (AL.nil (AK.seqN (AC.block ?_))))
   refine AC.loop (fun k => k ≤ l.length ∧ l.take k = m.take k) (fun k => [(0, .slice a1 k1 c1), (1, .slice a2 k2 c2), (12, .int .i64 l.length), (13, .int .i64 (k : Int))]) (fun _ => L) (fun _ => F) (fun k => l.length - k) 0 ⟨by omega, by simp⟩ srA (Sub.refl _ _) ?_
   rintro k ⟨hk, hok⟩
   refine AC.seq (AC.region ?_)
   refine AL.go (AO.lss rfl rfl rfl (fun c14 => ?_) (fun c14 => ?_))
   ·refine AL.nil (AK.seqN (AC.seq (AC.condT rfl (AC.skip (AK.seqN ?_)))))
    refine AC.seq (AC.block (AC.seq (AC.region (AL.go (AO.move rfl rfl (AL.go (AO.assign rfl rfl ?_)))))))
    refine AL.nil (AK.seqN (AC.seq ?_))
    refine AC.draw (fun _ => false) [] bxA rfl (fun hx hX => ?_)
    have hkl : k < l.length := by omega
    have hkm : k < m.length := by omega
    have hkk1 := (len_of_fact (hX _ m1)).1
    have hkk3 := (len_of_fact (hX _ m2)).1
    obtain ⟨p1, o1, rfl, at1⟩ := row_of_fact (hX _ m1) hkl
    obtain ⟨p2, o2, rfl, at2⟩ := row_of_fact (hX _ m2) hkm
    have hv1 := mt_cells at1
    have hv2 := mt_cells at2
    have h10 := hv1 0 _ rfl
    have h11 := hv1 1 _ rfl
    have h12 := hv1 2 _ rfl
    have h20 := hv2 0 _ rfl
    have h21 := hv2 1 _ rfl
    have h22 := hv2 2 _ rfl
    refine AH.takeW (i := 0) rfl (Y.move rfl) (by kernel_rfl) rfl rfl ?_
    refine AH.takeW (i := 1) rfl (Y.move rfl) (by kernel_rfl) rfl rfl ?_
    refine AH.takeW (i := 2) rfl (Y.indexAddr rfl rfl rfl (by omega)) (by kernel_rfl) rfl rfl ?_
    refine AH.takeW (i := 3) rfl (Y.field rfl) (by kernel_rfl) rfl rfl ?_
    refine AH.takeS (i := 4) rfl (Y.loadF rfl (by assumption)) (by kernel_rfl) (by kernel_rfl) rfl rfl rfl ?_
    refine AH.takeW (i := 5) rfl (Y.move rfl) (by kernel_rfl) rfl rfl ?_
    refine AH.takeW (i := 6) rfl (Y.move rfl) (by kernel_rfl) rfl rfl ?_
    refine AH.takeW (i := 7) rfl (Y.indexAddr rfl rfl rfl (by omega)) (by kernel_rfl) rfl rfl ?_
    refine AH.takeW (i := 8) rfl (Y.field rfl) (by kernel_rfl) rfl rfl ?_
    refine AH.takeS (i := 9) rfl (Y.loadF rfl (by assumption)) (by kernel_rfl) (by kernel_rfl) rfl rfl rfl ?_
    refine AH.takeB (i := 10) rfl (Y.neqS rfl rfl) (by kernel_rfl) rfl rfl (fun c26 => ?_) (fun c26 => ?_)
    ·replace c26 := ne_of_nbeq c26
     refine AH.takeW (i := 11) rfl (Y.move rfl) (by kernel_rfl) rfl rfl ?_
     refine AH.skip (i := 12) rfl (by kernel_rfl) rfl rfl ?_
     refine AH.skip (i := 13) rfl (by kernel_rfl) rfl rfl ?_
     refine AH.skip (i := 14) rfl (by kernel_rfl) rfl rfl ?_
     refine AH.skip (i := 15) rfl (by kernel_rfl) rfl rfl ?_
     refine AH.skip (i := 16) rfl (by kernel_rfl) rfl rfl ?_
     refine AH.skip (i := 17) rfl (by kernel_rfl) rfl rfl ?_
     refine AH.skip (i := 18) rfl (by kernel_rfl) rfl rfl ?_
     refine AH.skip (i := 19) rfl (by kernel_rfl) rfl rfl ?_
     refine AH.skip (i := 20) rfl (by kernel_rfl) rfl rfl ?_
     refine AH.skip (i := 21) rfl (by kernel_rfl) rfl rfl ?_
     refine AH.skip (i := 22) rfl (by kernel_rfl) rfl rfl ?_
     refine AH.takeW (i := 23) rfl (Y.pickT rfl rfl) (by kernel_rfl) rfl rfl ?_
     refine AH.takeW (i := 24) rfl (Y.move rfl) (by kernel_rfl) rfl rfl ?_
     refine AH.skip (i := 25) rfl (by kernel_rfl) rfl rfl ?_
     refine AH.skip (i := 26) rfl (by kernel_rfl) rfl rfl ?_
     refine AH.skip (i := 27) rfl (by kernel_rfl) rfl rfl ?_
     refine AH.skip (i := 28) rfl (by kernel_rfl) rfl rfl ?_
     refine AH.skip (i := 29) rfl (by kernel_rfl) rfl rfl ?_
     refine AH.skip (i := 30) rfl (by kernel_rfl) rfl rfl ?_
     refine AH.skip (i := 31) rfl (by kernel_rfl) rfl rfl ?_
     refine AH.skip (i := 32) rfl (by kernel_rfl) rfl rfl ?_
     refine AH.skip (i := 33) rfl (by kernel_rfl) rfl rfl ?_
     refine AH.skip (i := 34) rfl (by kernel_rfl) rfl rfl ?_
     refine AH.skip (i := 35) rfl (by kernel_rfl) rfl rfl ?_
     refine AH.takeW (i := 36) rfl (Y.pickT rfl rfl) (by kernel_rfl) rfl rfl ?_
     refine AH.done (by kernel_rfl) ?_
     refine AK.seqN (AC.condT rfl (AC.seq (AC.region (AL.go (AO.assign rfl rfl (AL.nil ?_))))))
     refine AK.seqN (AC.ret (AK.blkR (AK.seqR (AK.seqR (AK.blkR ?_)))))
     refine AK.seqR ?_
     first | refine AK.ret Tryz.results56 rfl subA (hT ?_) | refine AK.ret Tryz.results56 rfl subA (hF ?_)
     first
     | exact ne_at hkl hkm (fun e => c26 (by rw [e]))
     | exact ne_at hkl hkm (fun e => c51 (by rw [e]))
     | exact ne_at hkl hkm (fun e => by rw [e] at c38; simp at c38)
     | exact fun e => c10 (by rw [e])
     | exact all_of_take hok (by omega) (by omega)
    ·replace c26 := eq_of_nbeqF c26
     refine AH.takeW (i := 11) rfl (Y.move rfl) (by kernel_rfl) rfl rfl ?_
     refine AH.takeW (i := 12) rfl (Y.move rfl) (by kernel_rfl) rfl rfl ?_
     refine AH.takeW (i := 13) rfl (Y.move rfl) (by kernel_rfl) rfl rfl ?_
     refine AH.takeW (i := 14) rfl (Y.indexAddr rfl rfl rfl (by omega)) (by kernel_rfl) rfl rfl ?_
     refine AH.takeW (i := 15) rfl (Y.field rfl) (by kernel_rfl) rfl rfl ?_
     refine AH.takeS (i := 16) rfl (Y.loadF rfl (by assumption)) (by kernel_rfl) (by kernel_rfl) rfl rfl rfl ?_
     refine AH.takeW (i := 17) rfl (Y.move rfl) (by kernel_rfl) rfl rfl ?_
     refine AH.takeW (i := 18) rfl (Y.move rfl) (by kernel_rfl) rfl rfl ?_
     refine AH.takeW (i := 19) rfl (Y.indexAddr rfl rfl rfl (by omega)) (by kernel_rfl) rfl rfl ?_
     refine AH.takeW (i := 20) rfl (Y.field rfl) (by kernel_rfl) rfl rfl ?_
     refine AH.takeS (i := 21) rfl (Y.loadF rfl (by assumption)) (by kernel_rfl) (by kernel_rfl) rfl rfl rfl ?_
     refine AH.takeB (i := 22) rfl (Y.neqB rfl rfl) (by kernel_rfl) rfl rfl (fun c38 => ?_) (fun c38 => ?_)
     ·refine AH.takeW (i := 23) rfl (Y.pickF rfl rfl) (by kernel_rfl) rfl rfl ?_
      refine AH.takeW (i := 24) rfl (Y.move rfl) (by kernel_rfl) rfl rfl ?_
      refine AH.skip (i := 25) rfl (by kernel_rfl) rfl rfl ?_
      refine AH.skip (i := 26) rfl (by kernel_rfl) rfl rfl ?_
      refine AH.skip (i := 27) rfl (by kernel_rfl) rfl rfl ?_
      refine AH.skip (i := 28) rfl (by kernel_rfl) rfl rfl ?_
      refine AH.skip (i := 29) rfl (by kernel_rfl) rfl rfl ?_
      refine AH.skip (i := 30) rfl (by kernel_rfl) rfl rfl ?_
      refine AH.skip (i := 31) rfl (by kernel_rfl) rfl rfl ?_
      refine AH.skip (i := 32) rfl (by kernel_rfl) rfl rfl ?_
      refine AH.skip (i := 33) rfl (by kernel_rfl) rfl rfl ?_
      refine AH.skip (i := 34) rfl (by kernel_rfl) rfl rfl ?_
      refine AH.skip (i := 35) rfl (by kernel_rfl) rfl rfl ?_
      refine AH.takeW (i := 36) rfl (Y.pickT rfl rfl) (by kernel_rfl) rfl rfl ?_
      refine AH.done (by kernel_rfl) ?_
      refine AK.seqN (AC.condT rfl (AC.seq (AC.region (AL.go (AO.assign rfl rfl (AL.nil ?_))))))
      refine AK.seqN (AC.ret (AK.blkR (AK.seqR (AK.seqR (AK.blkR ?_)))))
      refine AK.seqR ?_
      first | refine AK.ret Tryz.results56 rfl subA (hT ?_) | refine AK.ret Tryz.results56 rfl subA (hF ?_)
      first
      | exact ne_at hkl hkm (fun e => c26 (by rw [e]))
      | exact ne_at hkl hkm (fun e => c51 (by rw [e]))
      | exact ne_at hkl hkm (fun e => by rw [e] at c38; simp at c38)
      | exact fun e => c10 (by rw [e])
      | exact all_of_take hok (by omega) (by omega)
     ·refine AH.takeW (i := 23) rfl (Y.pickF rfl rfl) (by kernel_rfl) rfl rfl ?_
      refine AH.takeW (i := 24) rfl (Y.move rfl) (by kernel_rfl) rfl rfl ?_
      refine AH.takeW (i := 25) rfl (Y.move rfl) (by kernel_rfl) rfl rfl ?_
      refine AH.takeW (i := 26) rfl (Y.move rfl) (by kernel_rfl) rfl rfl ?_
      refine AH.takeW (i := 27) rfl (Y.indexAddr rfl rfl rfl (by omega)) (by kernel_rfl) rfl rfl ?_
      refine AH.takeW (i := 28) rfl (Y.field rfl) (by kernel_rfl) rfl rfl ?_
      refine AH.takeS (i := 29) rfl (Y.loadF rfl (by assumption)) (by kernel_rfl) (by kernel_rfl) rfl rfl rfl ?_
      refine AH.takeW (i := 30) rfl (Y.move rfl) (by kernel_rfl) rfl rfl ?_
      refine AH.takeW (i := 31) rfl (Y.move rfl) (by kernel_rfl) rfl rfl ?_
      refine AH.takeW (i := 32) rfl (Y.indexAddr rfl rfl rfl (by omega)) (by kernel_rfl) rfl rfl ?_
      refine AH.takeW (i := 33) rfl (Y.field rfl) (by kernel_rfl) rfl rfl ?_
      refine AH.takeS (i := 34) rfl (Y.loadF rfl (by assumption)) (by kernel_rfl) (by kernel_rfl) rfl rfl rfl ?_
      refine AH.takeB (i := 35) rfl (Y.neq rfl rfl) (by kernel_rfl) rfl rfl (fun c51 => ?_) (fun c51 => ?_)
      ·replace c51 := ne_of_bne c51
       refine AH.takeW (i := 36) rfl (Y.pickF rfl rfl) (by kernel_rfl) rfl rfl ?_
       refine AH.done (by kernel_rfl) ?_
       refine AK.seqN (AC.condT rfl (AC.seq (AC.region (AL.go (AO.assign rfl rfl (AL.nil ?_))))))
       refine AK.seqN (AC.ret (AK.blkR (AK.seqR (AK.seqR (AK.blkR ?_)))))
       refine AK.seqR ?_
       first | refine AK.ret Tryz.results56 rfl subA (hT ?_) | refine AK.ret Tryz.results56 rfl subA (hF ?_)
       first
       | exact ne_at hkl hkm (fun e => c26 (by rw [e]))
       | exact ne_at hkl hkm (fun e => c51 (by rw [e]))
       | exact ne_at hkl hkm (fun e => by rw [e] at c38; simp at c38)
       | exact fun e => c10 (by rw [e])
       | exact all_of_take hok (by omega) (by omega)
      ·replace c51 := eq_of_bneF c51
       refine AH.takeW (i := 36) rfl (Y.pickF rfl rfl) (by kernel_rfl) rfl rfl ?_
       refine AH.done (by kernel_rfl) ?_
       refine AK.seqN (AC.condF rfl (AC.skip (AK.blkN (AK.seqN (AC.region ?_)))))
       refine AL.go (AO.add rfl rfl rfl (by omega) (by omega) (AL.go (AO.move rfl rfl (AL.nil ?_))))
       refine AK.next (k + 1) ⟨by omega, take_step hok hkl hkm (mt_ext c26 (by simpa using c38) c51)⟩ (by omega) srA subF
   ·refine AL.nil (AK.seqN (AC.seq (AC.condF rfl (AC.exit (AK.seqX ?_)))))
    refine AK.seqX (AK.blkX (AK.seqN (AC.seq (AC.region (AL.go (AO.assign rfl rfl ?_))))))
    refine AL.nil (AK.seqN (AC.ret ?_))
    first | refine AK.ret Tryz.results56 rfl subA (hT ?_) | refine AK.ret Tryz.results56 rfl subA (hF ?_)
    first
    | exact ne_at hkl hkm (fun e => c26 (by rw [e]))
    | exact ne_at hkl hkm (fun e => c51 (by rw [e]))
    | exact ne_at hkl hkm (fun e => by rw [e] at c38; simp at c38)
    | exact fun e => c10 (by rw [e])
    | exact all_of_take hok (by omega) (by omega)
theorem rulike_c (T U : List Ty) (N M : List Nmd) {a a2 a3 a4 : Option Addr} {k c k2 c2 k3 c3 k4 c4 : Nat} (m1 : fL T a k c ∈ F) (m2 : fN N a2 k2 c2 ∈ F) (m3 : fL U a3 k3 c3 ∈ F) (m4 : fN M a4 k4 c4 ∈ F) (hT : T = U → N = M → R (.bool true) L F) (hF : ¬(T = U ∧ N = M) → R (.bool false) L F) :
    ACalls Tryz.prog W0 16 #[.agg #[.slice a k c, .slice a2 k2 c2], .agg #[.slice a3 k3 c3, .slice a4 k4 c4]] L F R := by
  refine ACalls.body Tryz.func16 rfl Tryz.ntmps16 rfl ?_
  refine AC.seq (AC.region (AL.go (AO.box rfl rfl (fun b2 => ?_))))
  refine AL.go (AO.box rfl rfl (fun b3 => ?_))
  refine AL.go (AO.assign rfl rfl (AL.nil (AK.seqN (AC.seq (AC.seq (AC.region ?_))))))
  refine AL.go (AO.field rfl rfl ?_)
  refine AL.go (AO.loadB rfl rfl ?_)
  refine AL.go (AO.field rfl rfl ?_)
  refine AL.go (AO.loadB rfl rfl ?_)
  refine AL.go (AO.call rfl rfl (ref_Arenas_c T U (fun c13 => ?_) (fun c13 => ?_) m1 m3))
  ·refine AL.go (AO.not rfl rfl (AL.go (AO.move rfl rfl (AL.yes rfl rfl (AO.field rfl rfl ?_)))))
   refine AL.yes rfl rfl (AO.loadB rfl rfl ?_)
   refine AL.yes rfl rfl (AO.len rfl rfl (fun hl18 => ?_) (enc := eNm) (lst := N) (hm := m2))
   refine AL.yes rfl rfl (AO.field rfl rfl ?_)
   refine AL.yes rfl rfl (AO.loadB rfl rfl ?_)
   refine AL.yes rfl rfl (AO.len rfl rfl (fun hl21 => ?_) (enc := eNm) (lst := M) (hm := m4))
   refine AL.yes rfl rfl (AO.neq rfl rfl rfl (fun c22 => ?_) (fun c22 => ?_))
   ·refine AL.go (AO.pickF rfl rfl rfl (AL.nil (AK.seqN (AC.condT rfl (AC.seq (AC.region ?_))))))
    refine AL.go (AO.assign rfl rfl (AL.nil (AK.seqN (AC.ret (AK.seqR ?_)))))
    first | refine AK.ret (L' := L) (F' := F) Tryz.results16 rfl subA (hT ?_ ?_) | refine AK.ret (L' := L) (F' := F) Tryz.results16 rfl subA (hF ?_)
    first
    | (exact c13; exact all_of_take hok (by omega) (by omega))
    | exact fun e => c13 e.1
    | exact fun e => c22 (by rw [e.2])
    | exact fun e => ne_at hqn hqm (fun x => c44 (by rw [x])) e.2
    | exact fun e => ne_at hqn hqm (fun x => c50 (by rw [x])) e.2
    | exact fun e => ne_at hqn hqm (fun x => c59 (by rw [x])) e.2
    | exact fun e => ne_at hqn hqm (fun x => c66 (by rw [x])) e.2
    | exact fun e => ne_at hqn hqm (fun x => ne_at hkl hkm c85 (by rw [x])) e.2
   ·refine AL.go (AO.pickF rfl rfl rfl (AL.nil (AK.seqN (AC.condF rfl (AC.skip (AK.seqN ?_))))))
    refine AC.seq (AC.seq (AC.region (AL.go (AO.field rfl rfl ?_))))
    refine AL.go (AO.loadB rfl rfl ?_)
    refine AL.go (AO.len rfl rfl (fun hl26 => ?_) (enc := eNm) (lst := N) (hm := m2))
    refine AL.go (AO.move rfl rfl (AL.nil (AK.seqN (AC.block ?_))))
    refine AC.loop (fun q => q ≤ N.length ∧ N.take q = M.take q) (fun q => [(2, .pointer (some ⟨b2, 0, none⟩)), (3, .pointer (some ⟨b3, 0, none⟩)), (26, .int .i64 N.length), (27, .int .i64 (q : Int))]) (fun _ => _) (fun _ => F) (fun q => N.length - q) 0 ⟨Nat.zero_le _, by simp⟩ srA (Sub.refl _ _) ?_
    rintro q ⟨hq, hok⟩
    refine AC.seq (AC.region ?_)
    refine AL.go (AO.lss rfl rfl rfl (fun c28 => ?_) (fun c28 => ?_))
    ·refine AL.nil (AK.seqN (AC.seq (AC.condT rfl (AC.skip (AK.seqN ?_)))))
     refine AC.seq (AC.block (AC.seq (AC.region (AL.go (AO.move rfl rfl (AL.go (AO.assign rfl rfl ?_)))))))
     refine AL.nil (AK.seqN (AC.seq (AC.region (AL.go (AO.field rfl rfl ?_)))))
     refine AL.go (AO.loadB rfl rfl ?_)
     refine AL.go (AO.move rfl rfl ?_)
     have hqn : q < N.length := by omega
     have hqm : q < M.length := by omega
     refine AL.go (AO.indexAddr rfl rfl rfl rfl (enc := eNm) (lst := N) memA hqn (fun _ _ => ?_))
     refine AL.go (AO.loadFA rfl rfl ?_)
     intro a34 k34 z34 d34 e34 f34
     refine AL.go (AO.alloc rfl (fun b6 => ?_))
     refine AL.go (AO.storeBA rfl rfl rfl rfl ?_)
     refine AL.nil (AK.seqN (AC.seq (AC.region (AL.go (AO.field rfl rfl ?_)))))
     refine AL.go (AO.loadB rfl rfl ?_)
     refine AL.go (AO.move rfl rfl ?_)
     refine AL.go (AO.indexAddr rfl rfl rfl rfl (enc := eNm) (lst := M) memA hqm (fun _ _ => ?_))
     refine AL.go (AO.loadFA rfl rfl ?_)
     intro a39 k39 z39 d39 e39 f39
     refine AL.go (AO.alloc rfl (fun b7 => ?_))
     refine AL.go (AO.storeBA rfl rfl rfl rfl ?_)
     refine AL.nil (AK.seqN (AC.seq (AC.seq (AC.region (AL.go (AO.field rfl rfl ?_))))))
     refine AL.go (AO.loadB rfl rfl ?_)
     refine AL.go (AO.field rfl rfl ?_)
     refine AL.go (AO.loadB rfl rfl ?_)
     refine AL.go (AO.neqS rfl rfl rfl (fun c44 => ?_) (fun c44 => ?_))
     ·refine AL.go (AO.move rfl rfl (AL.no rfl rfl rfl rfl (AL.no rfl rfl rfl rfl (AL.no rfl rfl rfl rfl (AL.no rfl rfl rfl rfl (AL.no rfl rfl rfl rfl ?_))))))
      refine AL.go (AO.pickT rfl rfl rfl (AL.go (AO.move rfl rfl (AL.no rfl rfl rfl rfl (AL.no rfl rfl rfl rfl (AL.no rfl rfl rfl rfl (AL.no rfl rfl rfl rfl ?_)))))))
      refine AL.no rfl rfl rfl rfl (AL.no rfl rfl rfl rfl (AL.no rfl rfl rfl rfl (AL.go (AO.pickT rfl rfl rfl (AL.go (AO.move rfl rfl (AL.no rfl rfl rfl rfl ?_)))))))
      refine AL.no rfl rfl rfl rfl (AL.no rfl rfl rfl rfl (AL.no rfl rfl rfl rfl (AL.no rfl rfl rfl rfl (AL.no rfl rfl rfl rfl (AL.go (AO.pickT rfl rfl rfl ?_))))))
      refine AL.nil (AK.seqN (AC.condT rfl (AC.seq (AC.region (AL.go (AO.assign rfl rfl ?_))))))
      refine AL.nil (AK.seqN (AC.ret (AK.seqR (AK.blkR (AK.seqR ?_)))))
      refine AK.seqR (AK.blkR (AK.seqR ?_))
      first | refine AK.ret (L' := L) (F' := F) Tryz.results16 rfl subA (hT ?_ ?_) | refine AK.ret (L' := L) (F' := F) Tryz.results16 rfl subA (hF ?_)
      first
      | (exact c13; exact all_of_take hok (by omega) (by omega))
      | exact fun e => c13 e.1
      | exact fun e => c22 (by rw [e.2])
      | exact fun e => ne_at hqn hqm (fun x => c44 (by rw [x])) e.2
      | exact fun e => ne_at hqn hqm (fun x => c50 (by rw [x])) e.2
      | exact fun e => ne_at hqn hqm (fun x => c59 (by rw [x])) e.2
      | exact fun e => ne_at hqn hqm (fun x => c66 (by rw [x])) e.2
      | exact fun e => ne_at hqn hqm (fun x => ne_at hkl hkm c85 (by rw [x])) e.2
     ·refine AL.go (AO.move rfl rfl (AL.yes rfl rfl (AO.field rfl rfl ?_)))
      refine AL.yes rfl rfl (AO.loadB rfl rfl ?_)
      refine AL.yes rfl rfl (AO.field rfl rfl ?_)
      refine AL.yes rfl rfl (AO.loadB rfl rfl ?_)
      refine AL.yes rfl rfl (AO.neq rfl rfl rfl (fun c50 => ?_) (fun c50 => ?_))
      ·refine AL.go (AO.pickF rfl rfl rfl (AL.go (AO.move rfl rfl (AL.no rfl rfl rfl rfl (AL.no rfl rfl rfl rfl (AL.no rfl rfl rfl rfl (AL.no rfl rfl rfl rfl ?_)))))))
       refine AL.no rfl rfl rfl rfl (AL.no rfl rfl rfl rfl (AL.no rfl rfl rfl rfl (AL.go (AO.pickT rfl rfl rfl (AL.go (AO.move rfl rfl (AL.no rfl rfl rfl rfl ?_)))))))
       refine AL.no rfl rfl rfl rfl (AL.no rfl rfl rfl rfl (AL.no rfl rfl rfl rfl (AL.no rfl rfl rfl rfl (AL.no rfl rfl rfl rfl (AL.go (AO.pickT rfl rfl rfl ?_))))))
       refine AL.nil (AK.seqN (AC.condT rfl (AC.seq (AC.region (AL.go (AO.assign rfl rfl ?_))))))
       refine AL.nil (AK.seqN (AC.ret (AK.seqR (AK.blkR (AK.seqR ?_)))))
       refine AK.seqR (AK.blkR (AK.seqR ?_))
       first | refine AK.ret (L' := L) (F' := F) Tryz.results16 rfl subA (hT ?_ ?_) | refine AK.ret (L' := L) (F' := F) Tryz.results16 rfl subA (hF ?_)
       first
       | (exact c13; exact all_of_take hok (by omega) (by omega))
       | exact fun e => c13 e.1
       | exact fun e => c22 (by rw [e.2])
       | exact fun e => ne_at hqn hqm (fun x => c44 (by rw [x])) e.2
       | exact fun e => ne_at hqn hqm (fun x => c50 (by rw [x])) e.2
       | exact fun e => ne_at hqn hqm (fun x => c59 (by rw [x])) e.2
       | exact fun e => ne_at hqn hqm (fun x => c66 (by rw [x])) e.2
       | exact fun e => ne_at hqn hqm (fun x => ne_at hkl hkm c85 (by rw [x])) e.2
      ·refine AL.go (AO.pickF rfl rfl rfl (AL.go (AO.move rfl rfl (AL.yes rfl rfl (AO.field rfl rfl ?_)))))
       refine AL.yes rfl rfl (AO.loadB rfl rfl ?_)
       refine AL.yes rfl rfl (AO.len rfl rfl (fun hl55 => ?_) (enc := eI) (lst := N[q].bounds) (hm := memA))
       refine AL.yes rfl rfl (AO.field rfl rfl ?_)
       refine AL.yes rfl rfl (AO.loadB rfl rfl ?_)
       refine AL.yes rfl rfl (AO.len rfl rfl (fun hl58 => ?_) (enc := eI) (lst := M[q].bounds) (hm := memA))
       refine AL.yes rfl rfl (AO.neq rfl rfl rfl (fun c59 => ?_) (fun c59 => ?_))
       ·refine AL.go (AO.pickF rfl rfl rfl (AL.go (AO.move rfl rfl (AL.no rfl rfl rfl rfl (AL.no rfl rfl rfl rfl (AL.no rfl rfl rfl rfl (AL.no rfl rfl rfl rfl ?_)))))))
        refine AL.no rfl rfl rfl rfl (AL.no rfl rfl rfl rfl (AL.go (AO.pickT rfl rfl rfl (AL.nil (AK.seqN (AC.condT rfl ?_))))))
        refine AC.seq (AC.region (AL.go (AO.assign rfl rfl (AL.nil (AK.seqN (AC.ret ?_))))))
        refine AK.seqR (AK.blkR (AK.seqR (AK.seqR (AK.blkR (AK.seqR ?_)))))
        first | refine AK.ret (L' := L) (F' := F) Tryz.results16 rfl subA (hT ?_ ?_) | refine AK.ret (L' := L) (F' := F) Tryz.results16 rfl subA (hF ?_)
        first
        | (exact c13; exact all_of_take hok (by omega) (by omega))
        | exact fun e => c13 e.1
        | exact fun e => c22 (by rw [e.2])
        | exact fun e => ne_at hqn hqm (fun x => c44 (by rw [x])) e.2
        | exact fun e => ne_at hqn hqm (fun x => c50 (by rw [x])) e.2
        | exact fun e => ne_at hqn hqm (fun x => c59 (by rw [x])) e.2
        | exact fun e => ne_at hqn hqm (fun x => c66 (by rw [x])) e.2
        | exact fun e => ne_at hqn hqm (fun x => ne_at hkl hkm c85 (by rw [x])) e.2
       ·refine AL.go (AO.pickF rfl rfl rfl (AL.go (AO.move rfl rfl (AL.yes rfl rfl (AO.field rfl rfl ?_)))))
        refine AL.yes rfl rfl (AO.loadB rfl rfl ?_)
        refine AL.yes rfl rfl (AO.field rfl rfl ?_)
        refine AL.yes rfl rfl (AO.loadB rfl rfl ?_)
        refine AL.yes rfl rfl (AO.call rfl rfl (rmethods_c N[q].methods M[q].methods memA memA (fun c66 => ?_) (fun c66 => ?_)))
        ·refine AL.yes rfl rfl (AO.not rfl rfl (AL.go (AO.pickF rfl rfl rfl (AL.nil (AK.seqN (AC.condF rfl (AC.skip ?_)))))))
         refine AK.seqN (AC.seq (AC.region (AL.go (AO.field rfl rfl ?_))))
         refine AL.go (AO.loadB rfl rfl ?_)
         refine AL.go (AO.len rfl rfl (fun hl71 => ?_) (enc := eI) (lst := N[q].bounds) (hm := memA))
         refine AL.go (AO.move rfl rfl (AL.nil (AK.seqN (AC.block ?_))))
         refine AC.loop (fun v => v ≤ N[q].bounds.length ∧ N[q].bounds.take v = M[q].bounds.take v) (fun v => [(2, .pointer (some ⟨b2, 0, none⟩)), (3, .pointer (some ⟨b3, 0, none⟩)), (6, .pointer (some ⟨b6, 0, none⟩)), (7, .pointer (some ⟨b7, 0, none⟩)), (26, .int .i64 N.length), (27, .int .i64 (q : Int)), (71, .int .i64 N[q].bounds.length), (72, .int .i64 (v : Int))]) (fun _ => _) (fun _ => _) (fun v => N[q].bounds.length - v) 0 ⟨Nat.zero_le _, by simp⟩ srA (Sub.refl _ _) ?_
         rintro v ⟨hv, hov⟩
         refine AC.seq (AC.region ?_)
         refine AL.go (AO.lss rfl rfl rfl (fun c73 => ?_) (fun c73 => ?_))
         ·refine AL.nil (AK.seqN (AC.seq (AC.condT rfl (AC.skip (AK.seqN ?_)))))
          refine AC.seq (AC.block (AC.seq (AC.region (AL.go (AO.move rfl rfl (AL.go (AO.assign rfl rfl ?_)))))))
          refine AL.nil (AK.seqN (AC.seq ?_))
          refine AC.draw (fun _ => false) [(b6, _, _), (b7, _, _)] bxA rfl (fun hx hX => ?_)
          have hkl : v < N[q].bounds.length := by omega
          have hkm : v < M[q].bounds.length := by omega
          have hkk1 := (len_of_fact (hX (fBd N[q] a34 k34 z34) memA)).1
          have hkk3 := (len_of_fact (hX (fBd M[q] a39 k39 z39) memA)).1
          obtain ⟨p1, o1, rfl, at1⟩ := row_of_fact (hX (fBd N[q] a34 k34 z34) memA) hkl
          obtain ⟨p2, o2, rfl, at2⟩ := row_of_fact (hX (fBd M[q] a39 k39 z39) memA) hkm
          obtain ⟨v1, hv1, hc1⟩ := at1 0 _ rfl
          obtain ⟨v2, hv2, hc2⟩ := at2 0 _ rfl
          cases hc1
          cases hc2
          refine AH.takeW (i := 0) rfl (Y.field rfl) (by kernel_rfl) rfl rfl ?_
          refine AH.takeS (i := 1) rfl (Y.loadB rfl lmA (by rfl)) (by kernel_rfl) (by kernel_rfl) rfl rfl rfl ?_
          refine AH.takeW (i := 2) rfl (Y.move rfl) (by kernel_rfl) rfl rfl ?_
          refine AH.takeW (i := 3) rfl (Y.indexAddr rfl rfl rfl (by omega)) (by kernel_rfl) rfl rfl ?_
          refine AH.takeS (i := 4) rfl (Y.loadF rfl (by assumption)) (by kernel_rfl) (by kernel_rfl) rfl rfl rfl ?_
          refine AH.takeW (i := 5) rfl (Y.field rfl) (by kernel_rfl) rfl rfl ?_
          refine AH.takeS (i := 6) rfl (Y.loadB rfl lmA (by rfl)) (by kernel_rfl) (by kernel_rfl) rfl rfl rfl ?_
          refine AH.takeW (i := 7) rfl (Y.move rfl) (by kernel_rfl) rfl rfl ?_
          refine AH.takeW (i := 8) rfl (Y.indexAddr rfl rfl rfl (by omega)) (by kernel_rfl) rfl rfl ?_
          refine AH.takeS (i := 9) rfl (Y.loadF rfl (by assumption)) (by kernel_rfl) (by kernel_rfl) rfl rfl rfl ?_
          refine AH.takeB (i := 10) rfl (Y.neq rfl rfl) (by kernel_rfl) rfl rfl (fun c85 => ?_) (fun c85 => ?_)
          ·replace c85 := ne_of_bne c85
           refine AH.done (by kernel_rfl) ?_
           refine AK.seqN (AC.condT rfl (AC.seq (AC.region (AL.go (AO.assign rfl rfl (AL.nil ?_))))))
           refine AK.seqN (AC.ret (AK.blkR (AK.seqR (AK.seqR (AK.blkR ?_)))))
           refine AK.blkR (AK.seqR (AK.seqR (AK.blkR (AK.seqR ?_))))
           first | refine AK.ret (L' := L) (F' := F) Tryz.results16 rfl subA (hT ?_ ?_) | refine AK.ret (L' := L) (F' := F) Tryz.results16 rfl subA (hF ?_)
           first
           | (exact c13; exact all_of_take hok (by omega) (by omega))
           | exact fun e => c13 e.1
           | exact fun e => c22 (by rw [e.2])
           | exact fun e => ne_at hqn hqm (fun x => c44 (by rw [x])) e.2
           | exact fun e => ne_at hqn hqm (fun x => c50 (by rw [x])) e.2
           | exact fun e => ne_at hqn hqm (fun x => c59 (by rw [x])) e.2
           | exact fun e => ne_at hqn hqm (fun x => c66 (by rw [x])) e.2
           | exact fun e => ne_at hqn hqm (fun x => ne_at hkl hkm c85 (by rw [x])) e.2
          ·replace c85 := eq_of_bneF c85
           refine AH.done (by kernel_rfl) ?_
           refine AK.seqN (AC.condF rfl (AC.skip (AK.blkN (AK.seqN (AC.region ?_)))))
           refine AL.go (AO.add rfl rfl rfl (by omega) (by omega) (AL.go (AO.move rfl rfl (AL.nil ?_))))
           refine AK.next (v + 1) ⟨by omega, take_step hov hkl hkm c85⟩ (by omega) srA subF
         ·refine AL.nil (AK.seqN (AC.seq (AC.condF rfl (AC.exit (AK.seqX ?_)))))
          refine AK.seqX (AK.blkX (AK.blkN (AK.seqN (AC.region (AL.go (AO.add rfl rfl rfl (by omega) (by omega) ?_))))))
          refine AL.go (AO.move rfl rfl (AL.nil ?_))
          refine AK.next (q + 1) ⟨by omega, take_step hok hqn hqm (nm_ext c44 (all_of_take hov (by omega) (by omega)) c50 c66)⟩ (by omega) srA (Sub.drop.trans (Sub.drop.trans subF))
        ·refine AL.yes rfl rfl (AO.not rfl rfl (AL.go (AO.pickF rfl rfl rfl (AL.nil (AK.seqN (AC.condT rfl (AC.seq ?_)))))))
         refine AC.region (AL.go (AO.assign rfl rfl (AL.nil (AK.seqN (AC.ret (AK.seqR ?_))))))
         refine AK.blkR (AK.seqR (AK.seqR (AK.blkR (AK.seqR ?_))))
         first | refine AK.ret (L' := L) (F' := F) Tryz.results16 rfl subA (hT ?_ ?_) | refine AK.ret (L' := L) (F' := F) Tryz.results16 rfl subA (hF ?_)
         first
         | (exact c13; exact all_of_take hok (by omega) (by omega))
         | exact fun e => c13 e.1
         | exact fun e => c22 (by rw [e.2])
         | exact fun e => ne_at hqn hqm (fun x => c44 (by rw [x])) e.2
         | exact fun e => ne_at hqn hqm (fun x => c50 (by rw [x])) e.2
         | exact fun e => ne_at hqn hqm (fun x => c59 (by rw [x])) e.2
         | exact fun e => ne_at hqn hqm (fun x => c66 (by rw [x])) e.2
         | exact fun e => ne_at hqn hqm (fun x => ne_at hkl hkm c85 (by rw [x])) e.2
    ·refine AL.nil (AK.seqN (AC.seq (AC.condF rfl (AC.exit (AK.seqX ?_)))))
     refine AK.seqX (AK.blkX (AK.seqN (AC.seq (AC.region (AL.go (AO.assign rfl rfl ?_))))))
     refine AL.nil (AK.seqN (AC.ret ?_))
     first | refine AK.ret (L' := L) (F' := F) Tryz.results16 rfl subA (hT ?_ ?_) | refine AK.ret (L' := L) (F' := F) Tryz.results16 rfl subA (hF ?_)
     first
     | (exact c13; exact all_of_take hok (by omega) (by omega))
     | exact fun e => c13 e.1
     | exact fun e => c22 (by rw [e.2])
     | exact fun e => ne_at hqn hqm (fun x => c44 (by rw [x])) e.2
     | exact fun e => ne_at hqn hqm (fun x => c50 (by rw [x])) e.2
     | exact fun e => ne_at hqn hqm (fun x => c59 (by rw [x])) e.2
     | exact fun e => ne_at hqn hqm (fun x => c66 (by rw [x])) e.2
     | exact fun e => ne_at hqn hqm (fun x => ne_at hkl hkm c85 (by rw [x])) e.2
  ·refine AL.go (AO.not rfl rfl (AL.go (AO.move rfl rfl (AL.no rfl rfl rfl rfl (AL.no rfl rfl rfl rfl (AL.no rfl rfl rfl rfl (AL.no rfl rfl rfl rfl ?_)))))))
   refine AL.no rfl rfl rfl rfl (AL.no rfl rfl rfl rfl (AL.no rfl rfl rfl rfl (AL.go (AO.pickT rfl rfl rfl (AL.nil (AK.seqN ?_))))))
   refine AC.condT rfl (AC.seq (AC.region (AL.go (AO.assign rfl rfl (AL.nil (AK.seqN ?_))))))
   refine AC.ret (AK.seqR ?_)
   first | refine AK.ret (L' := L) (F' := F) Tryz.results16 rfl subA (hT ?_ ?_) | refine AK.ret (L' := L) (F' := F) Tryz.results16 rfl subA (hF ?_)
   first
   | (exact c13; exact all_of_take hok (by omega) (by omega))
   | exact fun e => c13 e.1
   | exact fun e => c22 (by rw [e.2])
   | exact fun e => ne_at hqn hqm (fun x => c44 (by rw [x])) e.2
   | exact fun e => ne_at hqn hqm (fun x => c50 (by rw [x])) e.2
   | exact fun e => ne_at hqn hqm (fun x => c59 (by rw [x])) e.2
   | exact fun e => ne_at hqn hqm (fun x => c66 (by rw [x])) e.2
   | exact fun e => ne_at hqn hqm (fun x => ne_at hkl hkm c85 (by rw [x])) e.2
end
end Go.Sy
namespace Go.Sy
open Go Go.Proofs Go.RowKit
def oneS (t : Ty) : Ty := ⟨t.kind, t.name.take (min t.name.length 50), t.n, t.words.take (min t.words.length 18), t.kids.take (min t.kids.length 18)⟩
def fewS (l : List Ty) (most : Nat) : List Ty := (l.take (min l.length most)).map oneS
structure TyUp (t : Ty) : Prop where
  inn : TyIn t
  word : ∀ w ∈ t.words, w.length ≤ 1048576
theorem oneS_ok {t : Ty} (h : TyUp t) : TyOk (oneS t) := by
  refine ⟨h.inn.kind, h.inn.n, by simp [oneS]; omega, by simp [oneS]; omega, ?_, by simp [oneS]; omega, fun k hk => h.inn.kid k (List.mem_of_mem_take hk)⟩
  intro w hw
  exact h.word w (List.mem_of_mem_take hw)
theorem fewS_ok {l : List Ty} {m : Nat} (h : ∀ t ∈ l, TyUp t) : ∀ t ∈ fewS l m, TyOk t := by
  intro t ht
  unfold fewS at ht
  obtain ⟨x, hx, rfl⟩ := List.mem_map.1 ht
  exact oneS_ok (h x (List.mem_of_mem_take hx))
theorem fewS_step {l : List Ty} {q : Nat} (hq : q < l.length) : (l.take q).map oneS ++ [oneS l[q]] = (l.take (q + 1)).map oneS := by
  rw [List.take_succ_eq_append_getElem hq, List.map_append]; rfl
def paramT : Ty := ⟨9, [], 0, [], []⟩
def pslT : Ty := ⟨2, [], 0, [], [22]⟩
def aliveL : List Ty := startL ++ [paramT, pslT]
theorem param_right : rightP (startL ++ [paramT]) := right_snoc start_right (by decide) ⟨fun k hk => by simp [paramT] at hk, by decide, fun _ => rfl, fun _ _ => rfl, (madeK_9 rfl).2 ⟨by decide, by decide, rfl⟩⟩ (by rw [start_len]; decide)
theorem alive_right : rightP aliveL := by
  have h : aliveL = (startL ++ [paramT]) ++ [pslT] := by unfold aliveL; simp
  rw [h]
  refine right_snoc param_right (by decide) ⟨fun k hk => ?_, by decide, fun _ => rfl, fun _ _ => rfl, Or.inr (Or.inl ⟨rfl, rfl, rfl⟩)⟩ (by decide)
  have : k = 22 := by simpa [pslT] using hk
  rw [this]; decide
theorem ok_inj {a b : List Ty} {i j : Int} {x : Except Int (List Ty × Int)} (h1 : x = .ok (a, i)) (h2 : x = .ok (b, j)) : a = b ∧ i = j := by
  rw [h1] at h2; injection h2 with h; injection h with h h'; exact ⟨h, h'⟩
theorem err_ok {i j : Int} {b : List Ty} {x : Except Int (List Ty × Int)} (h1 : x = .error i) (h2 : x = .ok (b, j)) : False := by
  rw [h1] at h2; cases h2
attribute [local irreducible] AC AT AO AK AH ACalls Sub Res.cells Res.nix Res.own Res.map Exit.then Exit.inBlock bodyPost Code.wp Next Post Kont
section
variable {W0 : World} {L : List Res} {F : List Fact} {R : Value → List Res → List Fact → Prop}
set_option maxRecDepth 100000
set_option maxHeartbeats 16000000
theorem rstartO_c (h : ∀ a k c, R (.slice a k c) (Res.own (.slice a k c) 29 5 (startL.map eTy) :: L) F) : ACalls Tryz.prog W0 50 #[] L F R := by
  refine ACalls.body Tryz.func50 rfl Tryz.ntmps50 rfl ?_
  refine AC.seq (AC.region (AL.go (AO.assign rfl rfl (AL.nil (AK.seqN (AC.seq ?_))))))
  refine AC.region ?_
  refine AL.go (AO.buildSlice0 rfl (fun b4 => ?_))
  refine AT.sub (Sub.trans (Sub.toOwn (i := 0) (k := 0) (sz := 5) (enc := eTy) [] rfl .nil (fun _ => rfl) rfl (by decide)) (Sub.nilF (sz := 1))) ?_
  refine AL.go (AO.assign rfl rfl (AL.nil (AK.seqN (AC.seq (AC.seq (AC.region ?_))))))
  refine AL.go (AO.call rfl rfl (rnames_c (fun b5 => ?_)))
  refine AL.go (AO.len rfl rfl (fun hl6 => ?_) (hm := by repeat (first | exact mem0 | assumption | refine memS ?_)))
  refine AL.go (AO.move rfl rfl (AL.nil (AK.seqN (AC.block ?_))))
  refine AC.loop (fun (i : Nat × Option Addr × Nat × Nat) => i.1 ≤ startNames.length) (fun i => [(1, .slice i.2.1 i.2.2.1 i.2.2.2), (5, .slice (some ⟨b5, 0, none⟩) 20 20), (6, .int .i64 startNames.length), (7, .int .i64 (i.1 : Int))]) (fun i => Res.own (.slice i.2.1 i.2.2.1 i.2.2.2) 29 5 (((startNames.take i.1).map basicT).map eTy) :: L) (fun _ => _) (fun i => startNames.length - i.1) (0, some ⟨b4, 0, none⟩, 0, 0) (by simp) srA (Sub.refl _ _) ?_
  rintro ⟨q, a1, k1, c1⟩ hq
  simp only at hq ⊢
  refine AC.seq (AC.region ?_)
  refine AL.go (AO.lss rfl rfl rfl (fun c8 => ?_) (fun c8 => ?_))
  ·refine AL.nil (AK.seqN (AC.seq (AC.condT rfl (AC.skip (AK.seqN ?_)))))
   refine AC.seq (AC.block (AC.seq (AC.region ?_)))
   have hql : q < startNames.length := by omega
   have hnl := names_len
   have htl : ((startNames.take q).map basicT).length = q := by simp; omega
   refine AL.go (AO.indexAddr rfl rfl rfl rfl memA hql (fun _ _ => ?_))
   refine AL.go (AO.loadF rfl rfl ?_)
   intros
   refine AL.go (AO.assign rfl rfl (AL.nil (AK.seqN (AC.region (AL.go (AO.move rfl rfl (AL.go (AO.move rfl rfl ?_))))))))
   refine AL.go (AO.build rfl rfl rfl ?_)
   refine AL.go (AO.buildSlice rfl rfl rfl rfl rfl (fun b13 => ?_))
   refine AL.go (AO.append (i := 0) (enc := eTy) (lst := (startNames.take q).map basicT) [basicT startNames[q]] rfl rfl rfl rfl (.val (.val (.val (.slc (.slc .nil memA) memA)))) rfl rfl (fun _ => rfl) (by rw [htl]; simp [maxLen]; omega) (by rw [htl]; omega) (fun a14 k14 c14 => ?_))
   rw [basic_step hql]
   refine AL.go (AO.assign rfl rfl (AL.nil (AK.blkN (AK.seqN (AC.region (AL.go (AO.add rfl rfl rfl (by omega) (by omega) ?_)))))))
   refine AL.go (AO.move rfl rfl (AL.nil ?_))
   refine AK.next (q + 1, a14, k14, c14) (by simp only; omega) (by simp only; omega) srA subF
  ·refine AL.nil (AK.seqN (AC.seq (AC.condF rfl (AC.exit (AK.seqX ?_)))))
   refine AK.seqX (AK.blkX (AK.seqN (AC.seq (AC.region ?_))))
   refine AL.go (AO.move rfl rfl ?_)
   have hall : startNames.take q = startNames := List.take_of_length_le (by omega)
   rw [hall]
   refine AL.go (AO.build rfl rfl rfl ?_)
   refine AL.go (AO.build rfl rfl rfl ?_)
   refine AL.go (AO.buildSlice rfl rfl rfl rfl rfl (fun b19 => ?_))
   refine AL.go (AO.append (i := 0) (enc := eTy) (lst := startNames.map basicT) [⟨7, [], 0, [], []⟩, ⟨7, [], 1, [], []⟩] rfl rfl rfl rfl (.val (.val (.val (.slc (.slc (.val (.val (.val (.slc (.slc .nil memA) memA)))) memA) memA)))) rfl rfl (fun _ => rfl) (by decide) (by decide) (fun a20 k20 c20 => ?_))
   refine AL.go (AO.assign rfl rfl (AL.nil (AK.seqN (AC.seq (AC.region (AL.go (AO.move rfl rfl ?_)))))))
   refine AL.go (AO.assign rfl rfl (AL.nil (AK.seqN (AC.ret ?_))))
   exact AK.ret (L' := Res.own (.slice a20 k20 c20) 29 5 (startL.map eTy) :: L) (F' := F) Tryz.results50 rfl subF (h _ _ _)
end
end Go.Sy
