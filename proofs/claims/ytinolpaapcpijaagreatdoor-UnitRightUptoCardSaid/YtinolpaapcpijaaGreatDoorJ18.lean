/- Joined of my own texts: UnF, SubW, UnG, UnH. -/
import Derived.Test.YtinolpaapcpijaaGreatDoorJ17
namespace Go.Sy
open Go Go.Proofs Go.RowKit
def oneN (n : Nmd) : Nmd := ⟨n.name.take (min n.name.length 50), n.bounds.take (min n.bounds.length 18), n.under, n.methods.take (min n.methods.length 18)⟩
def fewN (N : List Nmd) (most : Nat) : List Nmd := (N.take (min N.length most)).map oneN
structure NmUp (n : Nmd) : Prop where
  under : -9223372036854775808 ≤ n.under ∧ n.under ≤ 9223372036854775807
  bound : ∀ b ∈ n.bounds, -9223372036854775808 ≤ b ∧ b ≤ 9223372036854775807
  sig : ∀ m ∈ n.methods, -9223372036854775808 ≤ m.sig ∧ m.sig ≤ 9223372036854775807
  meth : ∀ m ∈ n.methods, m.name.length ≤ 1048576
theorem oneN_ok {n : Nmd} (h : NmUp n) : NmOk (oneN n) := by
  refine ⟨by simp [oneN]; omega, fun m hm => h.meth m (List.mem_of_mem_take hm)⟩
theorem fewN_ok {N : List Nmd} {m : Nat} (h : ∀ n ∈ N, NmUp n) : ∀ n ∈ fewN N m, NmOk n := by
  intro t ht
  unfold fewN at ht
  obtain ⟨x, hx, rfl⟩ := List.mem_map.1 ht
  exact oneN_ok (h x (List.mem_of_mem_take hx))
theorem fewN_step {N : List Nmd} {q : Nat} (hq : q < N.length) : (N.take q).map oneN ++ [oneN N[q]] = (N.take (q + 1)).map oneN := by
  rw [List.take_succ_eq_append_getElem hq, List.map_append]; rfl
attribute [local irreducible] AC AT AO AK AH ACalls Sub Res.cells Res.nix Res.own Res.map Exit.then Exit.inBlock bodyPost Code.wp Next Post Kont
section
variable {W0 : World} {L : List Res} {F : List Fact} {R : Value → List Res → List Fact → Prop}
set_option maxRecDepth 100000
set_option maxHeartbeats 16000000
theorem ufew_c (l : List Ty) (N : List Nmd) {a a2 : Option Addr} {k c k2 c2 : Nat} (m1 : fL l a k c ∈ F) (m2 : fN N a2 k2 c2 ∈ F) (h : ∀ a k c a2 k2 c2, R (.agg #[.slice a k c, .slice a2 k2 c2]) L (fL (fewS l 402) a k c :: fN (fewN N 62) a2 k2 c2 :: F)) : ACalls Tryz.prog W0 9 #[.agg #[.slice a k c, .slice a2 k2 c2]] L F R := by
  refine ACalls.body Tryz.func9 rfl Tryz.ntmps9 rfl ?_
  refine AC.seq (AC.region (AL.go (AO.box rfl rfl (fun b1 => ?_))))
  refine AL.go (AO.alloc rfl (fun b2 => ?_))
  refine AL.nil (AK.seqN (AC.seq (AC.region (AL.go (AO.build rfl rfl rfl (AL.go (AO.alloc rfl (fun b3 => ?_))))))))
  refine AL.go (AO.storeBA rfl rfl rfl rfl ?_)
  refine AL.nil (AK.seqN (AC.seq (AC.seq (AC.region (AL.go (AO.field rfl rfl ?_))))))
  refine AL.go (AO.loadB rfl rfl ?_)
  refine AL.go (AO.field rfl rfl ?_)
  refine AL.go (AO.loadB rfl rfl ?_)
  refine AL.go (AO.len rfl rfl (fun hl13 => ?_) (enc := eTy) (lst := l) (hm := memA))
  refine AL.go (AO.min rfl rfl rfl ?_)
  refine AL.go (AO.sliceH (j' := min l.length 402) rfl rfl rfl (by omega) (enc := eTy) (lst := l) memA (by omega) (fun a15 k15 c15 => ?_))
  refine AL.go (AO.len rfl rfl (fun hl16 => ?_) (enc := eTy) (lst := l.take (min l.length 402)) (hm := memA))
  refine AL.go (AO.move rfl rfl (AL.nil (AK.seqN (AC.block ?_))))
  have hfew : fewS l 402 = (l.take (min l.length 402)).map oneS := rfl
  have hwl : (l.take (min l.length 402)).length ≤ 402 := by simp only [List.length_take]; omega
  generalize l.take (min l.length 402) = l' at hwl hfew ⊢
  refine AC.loop (fun (i : Nat × Option Addr × Nat × Nat) => i.1 ≤ l'.length) (fun i => [(1, .pointer (some ⟨b1, 0, none⟩)), (2, .pointer (some ⟨b2, 0, none⟩)), (3, .pointer (some ⟨b3, 0, none⟩)), (15, .slice a15 k15 c15), (16, .int .i64 l'.length), (17, .int .i64 (i.1 : Int))]) (fun i => Res.own (.slice i.2.1 i.2.2.1 i.2.2.2) 29 5 (((l'.take i.1).map oneS).map eTy) :: Res.cells b3 #[.slice i.2.1 i.2.2.1 i.2.2.2, .slice none 0 0] _ :: _) (fun _ => fL l' a15 k15 c15 :: F) (fun i => l'.length - i.1) (0, none, 0, 0) (by simp) srA Sub.ownNil ?_
  rintro ⟨q, a3, k3, c3⟩ hq
  simp only at hq ⊢
  refine AC.seq (AC.region ?_)
  refine AL.go (AO.lss rfl rfl rfl (fun c18 => ?_) (fun c18 => ?_))
  ·refine AL.nil (AK.seqN (AC.seq (AC.condT rfl (AC.skip (AK.seqN ?_)))))
   refine AC.seq (AC.block (AC.seq (AC.region ?_)))
   have hql : q < l'.length := by omega
   refine AL.go (AO.indexAddr rfl rfl rfl rfl (enc := eTy) (lst := l') memA hql (fun _ _ => ?_))
   refine AL.go (AO.loadFA rfl rfl ?_)
   intro a18 k18 z18 d18 e18 f18
   refine AL.go (AO.alloc rfl (fun b5 => ?_))
   refine AL.go (AO.storeBA rfl rfl rfl rfl ?_)
   refine AL.nil (AK.seqN (AC.seq ?_))
   refine AC.draw (fun i => Nat.beq i 22 || Nat.beq i 24 || Nat.beq i 26) [(b5, _, _)] bxA rfl (fun hx hX => ?_)
   have hk1 := (len_of_fact (hX (fW l'[q] a18 k18 z18) memA)).1
   have hk2 := (len_of_fact (hX (fK l'[q] d18 e18 f18) memA)).1
   have hc1 := (len_of_fact (hX (fW l'[q] a18 k18 z18) memA)).2
   have hc2 := (len_of_fact (hX (fK l'[q] d18 e18 f18) memA)).2
   subst hk1 hk2
   refine AH.weak (Sub.part (enc := eS) (lst := l'[q].words) 0 (min l'[q].words.length 18) z18 (show fW l'[q] _ _ z18 ∈ _ from memA) (by omega) (by omega) (by omega) (by omega)) ?_
   refine AH.weak (Sub.part (enc := eI) (lst := l'[q].kids) 0 (min l'[q].kids.length 18) f18 (show fK l'[q] _ _ f18 ∈ _ from memA) (by omega) (by omega) (by omega) (by omega)) ?_
   refine AH.takeW (i := 0) rfl (Y.field rfl) (by kernel_rfl) rfl rfl ?_
   refine AH.takeS (i := 1) rfl (Y.loadB rfl lmA (by rfl)) (by kernel_rfl) (by kernel_rfl) rfl rfl rfl ?_
   refine AH.takeW (i := 2) rfl (Y.field rfl) (by kernel_rfl) rfl rfl ?_
   refine AH.takeS (i := 3) rfl (Y.loadB rfl lmA (by rfl)) (by kernel_rfl) (by kernel_rfl) rfl rfl rfl ?_
   refine AH.takeW (i := 4) rfl (Y.lenS rfl) (by kernel_rfl) rfl rfl ?_
   refine AH.takeW (i := 5) rfl (Y.min rfl rfl) (by kernel_rfl) rfl rfl ?_
   refine AH.takeW (i := 6) rfl (Y.sliceSH (j' := min l'[q].name.length 50) rfl rfl (by omega) (by omega)) (by kernel_rfl) rfl rfl ?_
   refine AH.takeW (i := 7) rfl (Y.field rfl) (by kernel_rfl) rfl rfl ?_
   refine AH.takeS (i := 8) rfl (Y.loadB rfl lmA (by rfl)) (by kernel_rfl) (by kernel_rfl) rfl rfl rfl ?_
   refine AH.takeW (i := 9) rfl (Y.field rfl) (by kernel_rfl) rfl rfl ?_
   refine AH.takeS (i := 10) rfl (Y.loadB rfl lmA (by rfl)) (by kernel_rfl) (by kernel_rfl) rfl rfl rfl ?_
   refine AH.takeW (i := 11) rfl (Y.lenV rfl) (by kernel_rfl) rfl rfl ?_
   refine AH.takeW (i := 12) rfl (Y.min rfl rfl) (by kernel_rfl) rfl rfl ?_
   refine AH.takeW (i := 13) rfl (Y.sliceH (j' := min l'[q].words.length 18) rfl rfl (by omega) (by omega)) (by kernel_rfl) rfl rfl ?_
   refine AH.takeW (i := 14) rfl (Y.field rfl) (by kernel_rfl) rfl rfl ?_
   refine AH.takeS (i := 15) rfl (Y.loadB rfl lmA (by rfl)) (by kernel_rfl) (by kernel_rfl) rfl rfl rfl ?_
   refine AH.takeW (i := 16) rfl (Y.field rfl) (by kernel_rfl) rfl rfl ?_
   refine AH.takeS (i := 17) rfl (Y.loadB rfl lmA (by rfl)) (by kernel_rfl) (by kernel_rfl) rfl rfl rfl ?_
   refine AH.takeW (i := 18) rfl (Y.lenV rfl) (by kernel_rfl) rfl rfl ?_
   refine AH.takeW (i := 19) rfl (Y.min rfl rfl) (by kernel_rfl) rfl rfl ?_
   refine AH.takeW (i := 20) rfl (Y.sliceH (j' := min l'[q].kids.length 18) rfl rfl (by omega) (by omega)) (by kernel_rfl) rfl rfl ?_
   refine AH.takeW (i := 21) rfl (Y.field rfl) (by kernel_rfl) rfl rfl ?_
   refine AH.one (i := 22) (by kernel_rfl) rfl rfl (fun _ => ?_)
   refine AO.storeB rfl rfl rfl ?_
   refine AT.spoilt rfl ?_
   refine AH.takeW (i := 23) rfl (Y.field rfl) (by kernel_rfl) rfl rfl ?_
   refine AH.one (i := 24) (by kernel_rfl) rfl rfl (fun _ => ?_)
   refine AO.storeB rfl rfl rfl ?_
   refine AT.spoilt rfl ?_
   refine AH.takeW (i := 25) rfl (Y.field rfl) (by kernel_rfl) rfl rfl ?_
   refine AH.one (i := 26) (by kernel_rfl) rfl rfl (fun _ => ?_)
   refine AO.storeB rfl rfl rfl ?_
   refine AT.spoilt rfl ?_
   refine AH.done (by kernel_rfl) ?_
   refine AK.seqN (AC.region (AL.go (AO.field rfl rfl ?_)))
   refine AL.go (AO.loadB rfl rfl ?_)
   refine AL.go (AO.loadBA rfl rfl ?_)
   refine AL.go (AO.buildSlice rfl rfl rfl rfl rfl (fun b48 => ?_))
   have htl : ((l'.take q).map oneS).length = q := by rw [List.length_map, List.length_take]; omega
   refine AL.go (AO.append (i := 1) (enc := eTy) (lst := (l'.take q).map oneS) [oneS l'[q]] rfl rfl rfl rfl (.val (.val (.val (.slc (.slc .nil memA) memA)))) rfl rfl (fun _ => rfl) (by rw [htl]; simp only [maxLen]; omega) (by rw [htl]; omega) (fun a49 k49 c49 => ?_))
   rw [fewS_step hql]
   refine AL.go (AO.field rfl rfl ?_)
   refine AL.go (AO.storeB rfl rfl rfl ?_)
   refine AL.nil (AK.blkN (AK.seqN (AC.region (AL.go (AO.add rfl rfl rfl (by omega) (by omega) (AL.go (AO.move rfl rfl ?_)))))))
   refine AL.nil ?_
   refine AK.next (q + 1, a49, k49, c49) (by simp only; omega) (by simp only; omega) srA (Sub.drop.trans subF)
  ·refine AL.nil (AK.seqN (AC.seq (AC.condF rfl (AC.exit (AK.seqX ?_)))))
   refine AK.seqX (AK.blkX (AK.seqN (AC.seq (AC.seq (AC.region ?_)))))
   refine AL.go (AO.field rfl rfl ?_)
   have hall : l'.take q = l' := List.take_of_length_le (by omega)
   rw [hall]
   refine AT.sub ((Sub.commit (i := 0) rfl).trans Sub.drop) ?_
   refine AL.go (AO.loadB rfl rfl ?_)
   refine AL.go (AO.field rfl rfl ?_)
   refine AL.go (AO.loadB rfl rfl ?_)
   refine AL.go (AO.len rfl rfl (fun hl56 => ?_) (enc := eNm) (lst := N) (hm := memA))
   refine AL.go (AO.min rfl rfl rfl ?_)
   refine AL.go (AO.sliceH (j' := min N.length 62) rfl rfl rfl (by omega) (enc := eNm) (lst := N) memA (by omega) (fun a58 k58 c58 => ?_))
   refine AL.go (AO.len rfl rfl (fun hl59 => ?_) (enc := eNm) (lst := N.take (min N.length 62)) (hm := memA))
   refine AL.go (AO.move rfl rfl (AL.nil (AK.seqN (AC.block ?_))))
   have hfewN : fewN N 62 = (N.take (min N.length 62)).map oneN := rfl
   have hwN : (N.take (min N.length 62)).length ≤ 62 := by simp only [List.length_take]; omega
   generalize N.take (min N.length 62) = N' at hwN hfewN ⊢
   refine AC.loop (fun (i : Nat × Option Addr × Nat × Nat) => i.1 ≤ N'.length) (fun i => [(2, .pointer (some ⟨b2, 0, none⟩)), (3, .pointer (some ⟨b3, 0, none⟩)), (58, .slice a58 k58 c58), (59, .int .i64 N'.length), (60, .int .i64 (i.1 : Int))]) (fun i => Res.own (.slice i.2.1 i.2.2.1 i.2.2.2) 78 4 (((N'.take i.1).map oneN).map eNm) :: Res.cells b3 #[.slice a3 k3 c3, .slice i.2.1 i.2.2.1 i.2.2.2] _ :: _) (fun _ => fN N' a58 k58 c58 :: fL (l'.map oneS) a3 k3 c3 :: F) (fun i => N'.length - i.1) (0, none, 0, 0) (by simp) srA (Sub.ownNil.trans (Sub.facts (mem2 memA memA (fun x hx => by repeat (first | exact hx | refine List.mem_cons_of_mem _ ?_))))) ?_
   rintro ⟨w, a4, k4, c4⟩ hw
   simp only at hw ⊢
   refine AC.seq (AC.region ?_)
   refine AL.go (AO.lss rfl rfl rfl (fun c61 => ?_) (fun c61 => ?_))
   ·refine AL.nil (AK.seqN (AC.seq (AC.condT rfl (AC.skip (AK.seqN ?_)))))
    refine AC.seq (AC.block (AC.seq (AC.region ?_)))
    have hwl' : w < N'.length := by omega
    refine AL.go (AO.indexAddr rfl rfl rfl rfl (enc := eNm) (lst := N') memA hwl' (fun _ _ => ?_))
    refine AL.go (AO.loadFA rfl rfl ?_)
    intro a63 k63 z63 d63 e63 f63
    refine AL.go (AO.alloc rfl (fun b7 => ?_))
    refine AL.go (AO.storeBA rfl rfl rfl rfl ?_)
    refine AL.nil (AK.seqN (AC.seq ?_))
    refine AC.draw (fun i => Nat.beq i 22 || Nat.beq i 24 || Nat.beq i 26) [(b7, _, _)] bxA rfl (fun hx hX => ?_)
    have hk1 := (len_of_fact (hX (fBd N'[w] a63 k63 z63) memA)).1
    have hk2 := (len_of_fact (hX (fMs N'[w].methods d63 e63 f63) memA)).1
    have hc1 := (len_of_fact (hX (fBd N'[w] a63 k63 z63) memA)).2
    have hc2 := (len_of_fact (hX (fMs N'[w].methods d63 e63 f63) memA)).2
    subst hk1 hk2
    refine AH.weak (Sub.part (enc := eI) (lst := N'[w].bounds) 0 (min N'[w].bounds.length 18) z63 (show fBd N'[w] _ _ z63 ∈ _ from memA) (by omega) (by omega) (by omega) (by omega)) ?_
    refine AH.weak (Sub.part (enc := eMt) (lst := N'[w].methods) 0 (min N'[w].methods.length 18) f63 (show fMs N'[w].methods _ _ f63 ∈ _ from memA) (by omega) (by omega) (by omega) (by omega)) ?_
    refine AH.takeW (i := 0) rfl (Y.field rfl) (by kernel_rfl) rfl rfl ?_
    refine AH.takeS (i := 1) rfl (Y.loadB rfl lmA (by rfl)) (by kernel_rfl) (by kernel_rfl) rfl rfl rfl ?_
    refine AH.takeW (i := 2) rfl (Y.field rfl) (by kernel_rfl) rfl rfl ?_
    refine AH.takeS (i := 3) rfl (Y.loadB rfl lmA (by rfl)) (by kernel_rfl) (by kernel_rfl) rfl rfl rfl ?_
    refine AH.takeW (i := 4) rfl (Y.lenS rfl) (by kernel_rfl) rfl rfl ?_
    refine AH.takeW (i := 5) rfl (Y.min rfl rfl) (by kernel_rfl) rfl rfl ?_
    refine AH.takeW (i := 6) rfl (Y.sliceSH (j' := min N'[w].name.length 50) rfl rfl (by omega) (by omega)) (by kernel_rfl) rfl rfl ?_
    refine AH.takeW (i := 7) rfl (Y.field rfl) (by kernel_rfl) rfl rfl ?_
    refine AH.takeS (i := 8) rfl (Y.loadB rfl lmA (by rfl)) (by kernel_rfl) (by kernel_rfl) rfl rfl rfl ?_
    refine AH.takeW (i := 9) rfl (Y.field rfl) (by kernel_rfl) rfl rfl ?_
    refine AH.takeS (i := 10) rfl (Y.loadB rfl lmA (by rfl)) (by kernel_rfl) (by kernel_rfl) rfl rfl rfl ?_
    refine AH.takeW (i := 11) rfl (Y.lenV rfl) (by kernel_rfl) rfl rfl ?_
    refine AH.takeW (i := 12) rfl (Y.min rfl rfl) (by kernel_rfl) rfl rfl ?_
    refine AH.takeW (i := 13) rfl (Y.sliceH (j' := min N'[w].bounds.length 18) rfl rfl (by omega) (by omega)) (by kernel_rfl) rfl rfl ?_
    refine AH.takeW (i := 14) rfl (Y.field rfl) (by kernel_rfl) rfl rfl ?_
    refine AH.takeS (i := 15) rfl (Y.loadB rfl lmA (by rfl)) (by kernel_rfl) (by kernel_rfl) rfl rfl rfl ?_
    refine AH.takeW (i := 16) rfl (Y.field rfl) (by kernel_rfl) rfl rfl ?_
    refine AH.takeS (i := 17) rfl (Y.loadB rfl lmA (by rfl)) (by kernel_rfl) (by kernel_rfl) rfl rfl rfl ?_
    refine AH.takeW (i := 18) rfl (Y.lenV rfl) (by kernel_rfl) rfl rfl ?_
    refine AH.takeW (i := 19) rfl (Y.min rfl rfl) (by kernel_rfl) rfl rfl ?_
    refine AH.takeW (i := 20) rfl (Y.sliceH (j' := min N'[w].methods.length 18) rfl rfl (by omega) (by omega)) (by kernel_rfl) rfl rfl ?_
    refine AH.takeW (i := 21) rfl (Y.field rfl) (by kernel_rfl) rfl rfl ?_
    refine AH.one (i := 22) (by kernel_rfl) rfl rfl (fun _ => ?_)
    refine AO.storeB rfl rfl rfl ?_
    refine AT.spoilt rfl ?_
    refine AH.takeW (i := 23) rfl (Y.field rfl) (by kernel_rfl) rfl rfl ?_
    refine AH.one (i := 24) (by kernel_rfl) rfl rfl (fun _ => ?_)
    refine AO.storeB rfl rfl rfl ?_
    refine AT.spoilt rfl ?_
    refine AH.takeW (i := 25) rfl (Y.field rfl) (by kernel_rfl) rfl rfl ?_
    refine AH.one (i := 26) (by kernel_rfl) rfl rfl (fun _ => ?_)
    refine AO.storeB rfl rfl rfl ?_
    refine AT.spoilt rfl ?_
    refine AH.done (by kernel_rfl) ?_
    refine AK.seqN (AC.region (AL.go (AO.field rfl rfl ?_)))
    refine AL.go (AO.loadB rfl rfl ?_)
    refine AL.go (AO.loadBA rfl rfl ?_)
    refine AL.go (AO.buildSlice rfl rfl rfl rfl rfl (fun b91 => ?_))
    have htl : ((N'.take w).map oneN).length = w := by rw [List.length_map, List.length_take]; omega
    refine AL.go (AO.append (i := 1) (enc := eNm) (lst := (N'.take w).map oneN) [oneN N'[w]] rfl rfl rfl rfl (.val (.slc (.val (.slc .nil memA)) memA)) rfl rfl (fun _ => rfl) (by rw [htl]; simp only [maxLen]; omega) (by rw [htl]; omega) (fun a92 k92 c92 => ?_))
    rw [fewN_step hwl']
    refine AL.go (AO.field rfl rfl ?_)
    refine AL.go (AO.storeB rfl rfl rfl ?_)
    refine AL.nil (AK.blkN (AK.seqN (AC.region (AL.go (AO.add rfl rfl rfl (by omega) (by omega) (AL.go (AO.move rfl rfl ?_)))))))
    refine AL.nil ?_
    refine AK.next (w + 1, a92, k92, c92) (by simp only; omega) (by simp only; omega) srA (Sub.drop.trans subF)
   ·refine AL.nil (AK.seqN (AC.seq (AC.condF rfl (AC.exit (AK.seqX ?_)))))
    refine AK.seqX (AK.blkX (AK.seqN (AC.seq (AC.region ?_))))
    have hallN : N'.take w = N' := List.take_of_length_le (by omega)
    rw [hallN]
    refine AT.sub ((Sub.commit (i := 0) rfl).trans Sub.drop) ?_
    refine AL.go (AO.loadBA rfl rfl ?_)
    refine AL.go (AO.storeBA rfl rfl rfl rfl ?_)
    refine AL.nil (AK.seqN (AC.ret ?_))
    rw [hfew, hfewN] at h
    exact AK.retV (rs := [.cell 2 _]) (L' := L) (F' := fL (l'.map oneS) a3 k3 c3 :: fN (N'.map oneN) a4 k4 c4 :: F) Tryz.results9 (.agg (j := 1) rfl rfl rfl .nil) (Sub.drop.trans (Sub.drop.trans (Sub.drop.trans (Sub.facts (mem2 memA memA (fun x hx => by repeat (first | exact hx | refine List.mem_cons_of_mem _ ?_))))))) (h _ _ _ _ _ _)
end
end Go.Sy
namespace Go.Sy
open Go Go.Proofs Go.RowKit
theorem put_err {out : List Ty} {ins : List Int} {t : Ty} {e : Int} (h : putS out ins t = .error e) : e ≠ 0 := by
  unfold putS at h
  by_cases c : t.kind = 7 ∧ oddP out t
  · rw [if_pos c] at h; injection h with h; omega
  · rw [if_neg c] at h
    by_cases c2 : (addF out (if t.kind = 7 then termsT out.length t else t)).2.2 = 0
    · rw [if_pos c2] at h; cases h
    · rw [if_neg c2] at h
      injection h with h
      rw [← h]; exact c2
theorem subN_err {l : List Ty} {args A : List Int} {M : List Bool} {e : Int} : ∀ n, subN l args A M n = .error e → e ≠ 0
  | 0, h => by cases h
  | n + 1, h => by
    rw [subN] at h
    cases hs : subN l args A M n with
    | error e2 => rw [hs] at h; injection h with h; subst h; exact subN_err n hs
    | ok x =>
      obtain ⟨out, ins⟩ := x
      rw [hs] at h
      simp only at h
      unfold stepS at h
      split at h
      · cases h
      · split at h
        · cases h
        · exact put_err h
theorem subR_err {l : List Ty} {i : Nat} {args : List Int} {e : Int} (h : subR l i args = .error e) : e ≠ 0 := by
  unfold subR at h
  split at h
  · injection h with h; omega
  · cases hs : subN l args (asksL (l.take (i + 1))) (partsL l i) (i + 1) with
    | error e2 => rw [hs] at h; injection h with h; subst h; exact subN_err _ hs
    | ok x => obtain ⟨out, ins⟩ := x; rw [hs] at h; cases h
attribute [local irreducible] AC AT AO AK AH ACalls Sub Res.cells Res.nix Res.own Res.map Exit.then Exit.inBlock bodyPost Code.wp Next Post Kont
section
variable {W0 : World} {L : List Res} {F : List Fact} {R : Value → List Res → List Fact → Prop}
set_option maxRecDepth 100000
set_option maxHeartbeats 16000000
end
end Go.Sy
namespace Go.Sy
open Go Go.Proofs Go.RowKit
def nmT : Ty := ⟨8, [112, 46, 84], 0, [], [2]⟩
def aliveU : List Ty := aliveL ++ [nmT]
def nm0 : Nmd := ⟨[112, 46, 84], [20], 23, []⟩
def aliveN : List Nmd := [nm0]
theorem aliveU_len : aliveU.length = 25 := by decide
theorem aliveU_right : rightP aliveU := by
  refine right_snoc alive_right (by decide) ⟨fun k hk => ?_, by decide, fun e => absurd rfl e, fun _ _ => rfl, (madeK_8 rfl).2 ⟨rfl, by unfold namedP; decide⟩⟩ (by decide)
  have : k = 2 := by simpa [nmT] using hk
  rw [this]; decide
theorem aliveU_low : ∀ q, q ≤ 22 → subN aliveU [2] (asksL (aliveU.take 24)) (partsL aliveU 23) q = .ok (aliveU, (List.range q).map Int.ofNat)
  | 0, _ => rfl
  | q + 1, h => by
    have hM : ∀ q, q < 22 → (partsL aliveU 23).getD q false = false := by decide
    rw [sub_out (aliveU_low q (by omega)) (.inl (hM q (by omega))), List.range_succ, List.map_append]; rfl
theorem aliveU_new : sliceT ∉ aliveU := by decide
theorem aliveU_made : madeP aliveU sliceT := by
  refine ⟨fun k hk => ?_, by decide, fun _ => rfl, fun _ _ => rfl, Or.inr (Or.inl ⟨rfl, rfl, rfl⟩)⟩
  have : k = 2 := by simpa [sliceT] using hk
  rw [aliveU_len]; omega
theorem aliveU_sub : subR aliveU 23 [2] = .ok (aliveU ++ [sliceT], 25) := by
  have h22 := aliveU_low 22 (by omega)
  have h23 := sub_param (q := 22) h22 (by decide) (by decide) (by decide) (by decide)
  have h24 := sub_put (q := 23) h23 (by decide) (by decide) (by decide) (by decide)
  have hP : AddP aliveU (mapK ((List.range 22).map Int.ofNat ++ [([2] : List Int).getD (aliveU[22]'(by decide)).n.toNat 0]) (aliveU[23]'(by decide))) (aliveU ++ [sliceT]) 25 0 :=
    Or.inr ⟨aliveU_new, Or.inr (Or.inr ⟨aliveU_made, by decide, rfl, rfl, rfl⟩)⟩
  rw [put_plain aliveU_right (by decide) hP, if_pos rfl] at h24
  have hb : ¬ badArgs aliveU 23 [2] := not_bad (by decide) (by decide)
  rw [subR_ok hb h24]
  rfl
theorem aliveU_right2 : rightP (aliveU ++ [sliceT]) := right_snoc aliveU_right aliveU_new aliveU_made (by decide)
theorem nm0_named : namedU aliveU nm0 := by
  refine ⟨by unfold namedP; decide, ⟨by decide, fun b hb => ?_⟩, ⟨by unfold fewA; decide, by unfold isK; decide, by unfold isK; decide, by decide⟩, by decide, fun j hj => absurd hj (by simp [nm0]), fun e => absurd rfl e⟩
  have : b = 20 := by simpa [nm0] using hb
  subst this
  exact ⟨by unfold isK; decide, by unfold fewA; decide⟩
theorem aliveU_rightU : rightU aliveU aliveN := by
  refine ⟨aliveU_right, by decide, fun i hi => ?_, fun t ht h8 => ?_⟩
  · have h0 : i = 0 := by have : aliveN.length = 1 := rfl; omega
    subst h0
    exact ⟨nm0_named, fun h => absurd h (by decide)⟩
  · have hn : ∀ t ∈ aliveL, t.kind ≠ 8 := by decide
    rcases List.mem_append.1 ht with h | h
    · exact absurd h8 (hn t h)
    · have : t = nmT := by simpa using h
      subst this
      exact ⟨0, rfl, rfl⟩
theorem aliveN_ok : ∀ n ∈ aliveN, NmOk n := by
  intro n hn
  have : n = nm0 := by simpa [aliveN] using hn
  subst this
  exact ⟨by decide, fun m hm => by simp [nm0] at hm⟩
theorem at_und {T : List Ty} {N : List Nmd} (h : rightU T N) {j : Nat} (hj : j < N.length) : ∃ u : Nat, N[j].under = (u : Int) ∧ u < T.length := by
  obtain ⟨h1, h2, _⟩ := (h.2.2.1 j hj).1.2.2.1.1
  exact ⟨N[j].under.toNat, by omega, by omega⟩
attribute [local irreducible] AC AT AO AK AH ACalls Sub Res.cells Res.nix Res.own Res.map Exit.then Exit.inBlock bodyPost Code.wp Next Post Kont
section
variable {W0 : World} {L : List Res} {F : List Fact} {R : Value → List Res → List Fact → Prop}
set_option maxRecDepth 100000
set_option maxHeartbeats 16000000
theorem uthere_c (g : Glob W0) (T : List Ty) (N : List Nmd) (hok : ∀ t ∈ T, TyOk t) (hno : ∀ n ∈ N, NmOk n) (i : Int) {a a2 : Option Addr} {k c k2 c2 : Nat} (mL : fL T a k c ∈ F) (mN : fN N a2 k2 c2 ∈ F)
    (h1 : ∀ e, (¬ rightU T N ∧ e = 1) ∨ (rightU T N ∧ ¬(0 ≤ i ∧ i < T.length) ∧ e = 8) → R (.int .i64 e) L F) (h3 : rightU T N → 0 ≤ i ∧ i < T.length → R (.int .i64 0) L F) : ACalls Tryz.prog W0 53 #[.agg #[.slice a k c, .slice a2 k2 c2], .int .i64 i] L F R := by
  refine ACalls.body Tryz.func53 rfl Tryz.ntmps53 rfl ?_
  refine AC.seq (AC.region (AL.go (AO.box rfl rfl (fun b2 => ?_))))
  refine AL.go (AO.assign rfl rfl (AL.nil (AK.seqN (AC.seq (AC.block (AC.seq ?_))))))
  refine AC.region ?_
  refine AL.go (AO.loadBA rfl rfl ?_)
  refine AL.go (AO.call rfl rfl (uright_c g T N hok hno mL mN (fun c7 => ?_) (fun c7 => ?_)))
  ·refine AL.go (AO.not rfl rfl (AL.go (AO.assign rfl rfl (AL.nil (AK.seqN (AC.condF rfl (AC.seq ?_)))))))
   refine AC.region (AL.go (AO.move rfl rfl ?_))
   refine AL.go (AO.lss rfl rfl rfl (fun c11 => ?_) (fun c11 => ?_))
   ·refine AL.go (AO.move rfl rfl (AL.no rfl rfl rfl rfl (AL.no rfl rfl rfl rfl (AL.no rfl rfl rfl rfl (AL.no rfl rfl rfl rfl (AL.no rfl rfl rfl rfl ?_))))))
    refine AL.go (AO.pickT rfl rfl rfl (AL.go (AO.assign rfl rfl (AL.nil (AK.seqN (AC.condT rfl (AC.seq ?_)))))))
    refine AC.region (AL.go (AO.assign rfl rfl (AL.nil (AK.seqN (AC.ret (AK.blkR ?_))))))
    refine AK.seqR ?_
    first | exact AK.ret (L' := L) (F' := F) Tryz.results53 rfl subA (h1 1 (.inl ⟨c7, rfl⟩)) | exact AK.ret (L' := L) (F' := F) Tryz.results53 rfl subA (h1 8 (.inr ⟨c7, by omega, rfl⟩)) | exact AK.ret (L' := L) (F' := F) Tryz.results53 rfl subA (h3 c7 (by omega))
   ·refine AL.go (AO.move rfl rfl (AL.yes rfl rfl (AO.move rfl rfl (AL.yes rfl rfl (AO.field rfl rfl ?_)))))
    refine AL.yes rfl rfl (AO.loadB rfl rfl ?_)
    refine AL.yes rfl rfl (AO.len rfl rfl (fun hl16 => ?_) (enc := eTy) (lst := T) (hm := memA))
    refine AL.yes rfl rfl (AO.geq rfl rfl rfl (fun c17 => ?_) (fun c17 => ?_))
    ·refine AL.go (AO.pickF rfl rfl rfl (AL.go (AO.assign rfl rfl (AL.nil (AK.seqN (AC.condT rfl (AC.seq ?_)))))))
     refine AC.region (AL.go (AO.assign rfl rfl (AL.nil (AK.seqN (AC.ret (AK.blkR ?_))))))
     refine AK.seqR ?_
     first | exact AK.ret (L' := L) (F' := F) Tryz.results53 rfl subA (h1 1 (.inl ⟨c7, rfl⟩)) | exact AK.ret (L' := L) (F' := F) Tryz.results53 rfl subA (h1 8 (.inr ⟨c7, by omega, rfl⟩)) | exact AK.ret (L' := L) (F' := F) Tryz.results53 rfl subA (h3 c7 (by omega))
    ·refine AL.go (AO.pickF rfl rfl rfl (AL.go (AO.assign rfl rfl (AL.nil (AK.seqN (AC.condF rfl (AC.skip ?_)))))))
     refine AK.blkN (AK.seqN (AC.seq (AC.region (AL.go (AO.assign rfl rfl (AL.nil ?_))))))
     refine AK.seqN (AC.ret ?_)
     first | exact AK.ret (L' := L) (F' := F) Tryz.results53 rfl subA (h1 1 (.inl ⟨c7, rfl⟩)) | exact AK.ret (L' := L) (F' := F) Tryz.results53 rfl subA (h1 8 (.inr ⟨c7, by omega, rfl⟩)) | exact AK.ret (L' := L) (F' := F) Tryz.results53 rfl subA (h3 c7 (by omega))
  ·refine AL.go (AO.not rfl rfl (AL.go (AO.assign rfl rfl (AL.nil (AK.seqN (AC.condT rfl (AC.seq ?_)))))))
   refine AC.region (AL.go (AO.assign rfl rfl (AL.nil (AK.seqN (AC.ret (AK.blkR ?_))))))
   refine AK.seqR ?_
   first | exact AK.ret (L' := L) (F' := F) Tryz.results53 rfl subA (h1 1 (.inl ⟨c7, rfl⟩)) | exact AK.ret (L' := L) (F' := F) Tryz.results53 rfl subA (h1 8 (.inr ⟨c7, by omega, rfl⟩)) | exact AK.ret (L' := L) (F' := F) Tryz.results53 rfl subA (h3 c7 (by omega))
theorem uwith_c (g : Glob W0) (l : List Ty) (hok : ∀ t ∈ l, TyOk t) (hr : rightP l) (n : Nat) (hn : n < l.length) (args : List Int) (hargs : args.length ≤ 1000) {a a2 a3 : Option Addr} {k c k2 c2 k3 c3 : Nat} (mL : fL l a k c ∈ F) (mA : fI args a3 k3 c3 ∈ F) (mN : Fact.slc (.slice none 0 0) 5 [] ∈ F)
    (h3 : ∀ e, e ≠ 0 → subR l n args = .error e → R (.tuple #[.agg #[.slice none 0 0, .slice none 0 0], .int .i64 0, .int .i64 e]) L F)
    (h4 : ∀ o q a k c, subR l n args = .ok (o, q) → R (.tuple #[.agg #[.slice a k c, .slice a2 k2 c2], .int .i64 q, .int .i64 0]) L (fL o a k c :: F)) :
    ACalls Tryz.prog W0 55 #[.agg #[.slice a k c, .slice a2 k2 c2], .int .i64 (n : Int), .slice a3 k3 c3] L F R := by
  refine ACalls.body Tryz.func55 rfl Tryz.ntmps55 rfl ?_
  refine AC.seq (AC.region (AL.go (AO.box rfl rfl (fun b3 => ?_))))
  refine AL.go (AO.alloc rfl (fun b6 => ?_))
  refine AL.go (AO.assign rfl rfl (AL.go (AO.assign rfl rfl (AL.nil (AK.seqN (AC.seq (AC.region ?_)))))))
  refine AL.go (AO.field rfl rfl ?_)
  refine AL.go (AO.loadB rfl rfl ?_)
  refine AL.go (AO.move rfl rfl (AL.go (AO.move rfl rfl ?_)))
  refine AL.go (AO.call rfl rfl (substIn_c g l hok hr n hn args hargs mL mA mN (fun e he => ?_) (fun o q a17 k17 c17 hq => ?_)))
  ·refine AL.go (AO.move rfl rfl (AL.go (AO.extract rfl rfl rfl (AL.go (AO.extract rfl rfl rfl (AL.go (AO.extract rfl rfl rfl (AL.go (AO.assign rfl rfl (AL.go (AO.assign rfl rfl ?_)))))))))))
   refine AL.go (AO.assign rfl rfl (AL.nil (AK.seqN (AC.seq (AC.seq (AC.region ?_))))))
   refine AL.go (AO.move rfl rfl ?_)
   refine AL.go (AO.neq rfl rfl rfl (fun c22 => ?_) (fun c22 => absurd c22 (subR_err he)))
   refine AL.nil (AK.seqN (AC.condT rfl (AC.seq (AC.region ?_))))
   refine AL.go (AO.build rfl rfl rfl ?_)
   refine AL.go (AO.move rfl rfl ?_)
   refine AL.go (AO.storeBA rfl rfl rfl rfl ?_)
   refine AL.go (AO.assign rfl rfl (AL.go (AO.assign rfl rfl (AL.nil (AK.seqN (AC.ret (AK.seqR ?_)))))))
   first
   | exact AK.retV (rs := [.cell 6 _, .tmp 7, .tmp 8]) (L' := L) (F' := F) Tryz.results55 (.agg (j := 0) rfl rfl rfl (.tmp rfl (.tmp rfl .nil))) subA (h3 e (subR_err he) he)
   | exact AK.retV (rs := [.cell 6 _, .tmp 7, .tmp 8]) (L' := L) (F' := fL o a17 k17 c17 :: F) Tryz.results55 (.agg (j := 0) rfl rfl rfl (.tmp rfl (.tmp rfl .nil))) (Sub.drop.trans Sub.drop) (h4 o q a17 k17 c17 hq)
  ·refine AL.go (AO.move rfl rfl (AL.go (AO.extract rfl rfl rfl (AL.go (AO.extract rfl rfl rfl (AL.go (AO.extract rfl rfl rfl (AL.go (AO.assign rfl rfl (AL.go (AO.assign rfl rfl ?_)))))))))))
   refine AL.go (AO.assign rfl rfl (AL.nil (AK.seqN (AC.seq (AC.seq (AC.region ?_))))))
   refine AL.go (AO.move rfl rfl ?_)
   refine AL.go (AO.neq rfl rfl rfl (fun c22 => absurd rfl c22) (fun _ => ?_))
   refine AL.nil (AK.seqN (AC.condF rfl (AC.skip (AK.seqN (AC.seq ?_)))))
   refine AC.region (AL.go (AO.move rfl rfl (AL.go (AO.field rfl rfl ?_))))
   refine AL.go (AO.storeB rfl rfl rfl ?_)
   refine AL.nil (AK.seqN (AC.seq (AC.region ?_)))
   refine AL.go (AO.loadBA rfl rfl ?_)
   refine AL.go (AO.move rfl rfl ?_)
   refine AL.go (AO.storeBA rfl rfl rfl rfl ?_)
   refine AL.go (AO.assign rfl rfl (AL.go (AO.assign rfl rfl (AL.nil (AK.seqN (AC.ret ?_))))))
   first
   | exact AK.retV (rs := [.cell 6 _, .tmp 7, .tmp 8]) (L' := L) (F' := F) Tryz.results55 (.agg (j := 0) rfl rfl rfl (.tmp rfl (.tmp rfl .nil))) subA (h3 e (subR_err he) he)
   | exact AK.retV (rs := [.cell 6 _, .tmp 7, .tmp 8]) (L' := L) (F' := fL o a17 k17 c17 :: F) Tryz.results55 (.agg (j := 0) rfl rfl rfl (.tmp rfl (.tmp rfl .nil))) (Sub.drop.trans Sub.drop) (h4 o q a17 k17 c17 hq)
theorem uunder_c (g : Glob W0) (T : List Ty) (N : List Nmd) (hok : ∀ t ∈ T, TyOk t) (hno : ∀ n ∈ N, NmOk n) (i : Int) {a a2 : Option Addr} {k c k2 c2 : Nat} (mL : fL T a k c ∈ F) (mN : fN N a2 k2 c2 ∈ F) (mE : Fact.slc (.slice none 0 0) 5 [] ∈ F)
    (h1 : ¬ rightU T N → R (.tuple #[.agg #[.slice none 0 0, .slice none 0 0], .int .i64 0, .int .i64 1]) L F)
    (h2 : rightU T N → ¬(0 ≤ i ∧ i < T.length) → R (.tuple #[.agg #[.slice none 0 0, .slice none 0 0], .int .i64 0, .int .i64 8]) L F)
    (h3 : rightU T N → ∀ n : Nat, i = n → ∀ hn : n < T.length, T[n].kind ≠ 8 → R (.tuple #[.agg #[.slice a k c, .slice a2 k2 c2], .int .i64 i, .int .i64 0]) L F)
    (h4 : rightU T N → ∀ n : Nat, i = n → ∀ hn : n < T.length, T[n].kind = 8 → ∀ j (hj : j < N.length), atN N T[n].name = some j → ∀ u : Nat, N[j].under = u → u < T.length → ∀ e, e ≠ 0 → subR T u T[n].kids = .error e → R (.tuple #[.agg #[.slice none 0 0, .slice none 0 0], .int .i64 0, .int .i64 e]) L F)
    (h5 : rightU T N → ∀ n : Nat, i = n → ∀ hn : n < T.length, T[n].kind = 8 → ∀ j (hj : j < N.length), atN N T[n].name = some j → ∀ u : Nat, N[j].under = u → u < T.length → ∀ o q a k c, subR T u T[n].kids = .ok (o, q) → R (.tuple #[.agg #[.slice a k c, .slice a2 k2 c2], .int .i64 q, .int .i64 0]) L (fL o a k c :: F)) :
    ACalls Tryz.prog W0 15 #[.agg #[.slice a k c, .slice a2 k2 c2], .int .i64 i] L F R := by
  refine ACalls.body Tryz.func15 rfl Tryz.ntmps15 rfl ?_
  refine AC.seq (AC.region (AL.go (AO.box rfl rfl (fun b2 => ?_))))
  refine AL.go (AO.alloc rfl (fun b4 => ?_))
  refine AL.go (AO.assign rfl rfl (AL.go (AO.assign rfl rfl (AL.nil (AK.seqN (AC.seq (AC.seq ?_)))))))
  refine AC.region ?_
  refine AL.go (AO.loadBA rfl rfl ?_)
  refine AL.go (AO.move rfl rfl ?_)
  refine AL.go (AO.call rfl rfl (uthere_c g T N hok hno i mL mN (fun e he => ?_) (fun c13 d13 => ?_)))
  ·refine AL.go (AO.assign rfl rfl (AL.nil (AK.seqN (AC.seq (AC.region (AL.go (AO.move rfl rfl ?_)))))))
   refine AL.go (AO.neq rfl rfl rfl (fun _ => ?_) (fun c15 => absurd c15 (by rcases he with ⟨_, h⟩ | ⟨_, _, h⟩ <;> omega)))
   refine AL.nil (AK.seqN (AC.condT rfl (AC.seq (AC.region ?_))))
   refine AL.go (AO.build rfl rfl rfl ?_)
   refine AL.go (AO.move rfl rfl ?_)
   refine AL.go (AO.storeBA rfl rfl rfl rfl ?_)
   refine AL.go (AO.assign rfl rfl (AL.go (AO.assign rfl rfl (AL.nil (AK.seqN (AC.ret (AK.seqR ?_)))))))
   rcases he with ⟨h, rfl⟩ | ⟨h, h', rfl⟩
   · exact AK.retV (rs := [.cell 4 _, .tmp 5, .tmp 6]) (L' := L) (F' := F) Tryz.results15 (.agg (j := 0) rfl rfl rfl (.tmp rfl (.tmp rfl .nil))) subA (h1 h)
   · exact AK.retV (rs := [.cell 4 _, .tmp 5, .tmp 6]) (L' := L) (F' := F) Tryz.results15 (.agg (j := 0) rfl rfl rfl (.tmp rfl (.tmp rfl .nil))) subA (h2 h h')
  ·refine AL.go (AO.assign rfl rfl (AL.nil (AK.seqN (AC.seq (AC.region (AL.go (AO.move rfl rfl ?_)))))))
   refine AL.go (AO.neq rfl rfl rfl (fun c15 => absurd rfl c15) (fun _ => ?_))
   refine AL.nil (AK.seqN (AC.condF rfl (AC.skip (AK.seqN (AC.seq ?_)))))
   refine AC.region (AL.go (AO.field rfl rfl ?_))
   refine AL.go (AO.loadB rfl rfl ?_)
   refine AL.go (AO.move rfl rfl ?_)
   obtain ⟨n, rfl⟩ : ∃ n : Nat, i = (n : Int) := ⟨i.toNat, by omega⟩
   have hn : n < T.length := by omega
   have hkl := (hok _ (List.getElem_mem hn)).kids
   refine AL.go (AO.indexAddr rfl rfl rfl rfl (enc := eTy) (lst := T) memA hn (fun _ _ => ?_))
   refine AL.go (AO.loadFA rfl rfl ?_)
   intro a22 k22 z22 d22 e22 f22
   refine AL.go (AO.alloc rfl (fun b8 => ?_))
   refine AL.go (AO.storeBA rfl rfl rfl rfl ?_)
   refine AL.nil (AK.seqN (AC.seq (AC.seq (AC.region (AL.go (AO.field rfl rfl ?_))))))
   refine AL.go (AO.loadB rfl rfl ?_)
   refine AL.go (AO.neq rfl rfl rfl (fun c25 => ?_) (fun c25 => ?_))
   ·refine AL.nil (AK.seqN (AC.condT rfl (AC.seq (AC.region ?_))))
    refine AL.go (AO.loadBA rfl rfl ?_)
    refine AL.go (AO.move rfl rfl ?_)
    refine AL.go (AO.storeBA rfl rfl rfl rfl ?_)
    refine AL.go (AO.assign rfl rfl (AL.go (AO.assign rfl rfl (AL.nil (AK.seqN (AC.ret (AK.seqR ?_)))))))
    exact AK.retV (rs := [.cell 4 _, .tmp 5, .tmp 6]) (L' := L) (F' := F) Tryz.results15 (.agg (j := 1) rfl rfl rfl (.tmp rfl (.tmp rfl .nil))) subA (h3 c13 n rfl hn c25)
   ·refine AL.nil (AK.seqN (AC.condF rfl (AC.skip (AK.seqN (AC.seq ?_)))))
    refine AC.region ?_
    refine AL.go (AO.loadBA rfl rfl ?_)
    refine AL.go (AO.field rfl rfl ?_)
    refine AL.go (AO.loadB rfl rfl ?_)
    refine AL.go (AO.call rfl rfl (at_c N T[n].name memA (fun j c32 => ?_) (fun c32 => by obtain ⟨i, hi, _⟩ := c13.2.2.2 _ (List.getElem_mem hn) c25; rw [c32] at hi; exact absurd hi (by simp))))
    refine AL.go (AO.move rfl rfl (AL.go (AO.extract rfl rfl rfl (AL.go (AO.extract rfl rfl rfl (AL.go (AO.assign rfl rfl (AL.go (AO.assign rfl rfl (AL.nil ?_))))))))))
    refine AK.seqN (AC.seq ?_)
    refine AC.draw (fun i => Nat.beq i 13) [(b2, _, _), (b8, _, _)] bxA rfl (fun hx hX => ?_)
    obtain ⟨hjl, _⟩ := atN_some c32
    obtain ⟨u, hu, hul⟩ := at_und c13 hjl
    have hk2 := (len_of_fact (hX (fN N a2 k2 c2) memA)).1
    obtain ⟨p1, o1, e1, at1⟩ := row_of_fact (hX (fN N a2 k2 c2) memA) hjl
    cases e1
    obtain ⟨w1, x1, y1, w2, x2, y2, hv, hw1, hw2⟩ := nm_cells at1
    have hv2 := hv 2 _ rfl
    rw [hu] at hv2
    cases hk2
    refine AH.takeS (i := 0) rfl (Y.loadBA rfl lmA (by rfl)) (by kernel_rfl) (by kernel_rfl) rfl rfl rfl ?_
    refine AH.takeW (i := 1) rfl (Y.field rfl) (by kernel_rfl) rfl rfl ?_
    refine AH.takeS (i := 2) rfl (Y.loadB rfl lmA (by rfl)) (by kernel_rfl) (by kernel_rfl) rfl rfl rfl ?_
    refine AH.takeW (i := 3) rfl (Y.move rfl) (by kernel_rfl) rfl rfl ?_
    refine AH.takeW (i := 4) rfl (Y.indexAddr (k := j) rfl rfl (by omega) (by omega)) (by kernel_rfl) rfl rfl ?_
    refine AH.takeW (i := 5) rfl (Y.field rfl) (by kernel_rfl) rfl rfl ?_
    refine AH.takeS (i := 6) rfl (Y.loadF rfl hv2) (by kernel_rfl) (by kernel_rfl) rfl rfl rfl ?_
    refine AH.takeW (i := 7) rfl (Y.field rfl) (by kernel_rfl) rfl rfl ?_
    refine AH.takeS (i := 8) rfl (Y.loadB rfl lmA (by rfl)) (by kernel_rfl) (by kernel_rfl) rfl rfl rfl ?_
    refine AH.one (i := 9) (by kernel_rfl) rfl rfl (fun _ => ?_)
    refine AO.call rfl rfl (uwith_c g T hok c13.1 u hul T[n].kids (by omega) (show fL T a k c ∈ _ from memA) (show fK T[n] _ _ _ ∈ _ from memA) memA (fun e h0 he => ?_) (fun o q a44 k44 c44 hq => ?_))
    all_goals refine AT.held bxA memB ?_
    ·refine AH.takeW (i := 10) rfl (Y.extract rfl rfl) (by kernel_rfl) rfl rfl ?_
     refine AH.takeW (i := 11) rfl (Y.extract rfl rfl) (by kernel_rfl) rfl rfl ?_
     refine AH.takeW (i := 12) rfl (Y.extract rfl rfl) (by kernel_rfl) rfl rfl ?_
     refine AH.one (i := 13) (by kernel_rfl) rfl rfl (fun _ => ?_)
     refine AO.storeBA rfl rfl rfl rfl ?_
     refine AT.spoilt rfl ?_
     refine AH.takeW (i := 14) rfl (Y.assign rfl) (by kernel_rfl) rfl rfl ?_
     refine AH.takeW (i := 15) rfl (Y.assign rfl) (by kernel_rfl) rfl rfl ?_
     refine AH.done (by kernel_rfl) ?_
     refine AK.seqN (AC.ret ?_)
     exact AK.retV (rs := [.cell 4 _, .tmp 5, .tmp 6]) (L' := L) (F' := F) Tryz.results15 (.agg (j := 1) rfl rfl rfl (.tmp rfl (.tmp rfl .nil))) subA (h4 c13 n rfl hn c25 j hjl c32 u hu hul e h0 he)
    ·refine AH.takeW (i := 10) rfl (Y.extract rfl rfl) (by kernel_rfl) rfl rfl ?_
     refine AH.takeW (i := 11) rfl (Y.extract rfl rfl) (by kernel_rfl) rfl rfl ?_
     refine AH.takeW (i := 12) rfl (Y.extract rfl rfl) (by kernel_rfl) rfl rfl ?_
     refine AH.one (i := 13) (by kernel_rfl) rfl rfl (fun _ => ?_)
     refine AO.storeBA rfl rfl rfl rfl ?_
     refine AT.spoilt rfl ?_
     refine AH.takeW (i := 14) rfl (Y.assign rfl) (by kernel_rfl) rfl rfl ?_
     refine AH.takeW (i := 15) rfl (Y.assign rfl) (by kernel_rfl) rfl rfl ?_
     refine AH.done (by kernel_rfl) ?_
     refine AK.seqN (AC.ret ?_)
     exact AK.retV (rs := [.cell 4 _, .tmp 5, .tmp 6]) (L' := L) (F' := fL o a44 k44 c44 :: F) Tryz.results15 (.agg (j := 1) rfl rfl rfl (.tmp rfl (.tmp rfl .nil))) (Sub.drop.trans (Sub.drop.trans (Sub.drop.trans (Sub.headF (fun x hx => by repeat (first | exact hx | refine List.mem_cons_of_mem _ ?_)))))) (h5 c13 n rfl hn c25 j hjl c32 u hu hul o q a44 k44 c44 hq)
theorem ualive_c (g : Glob W0) (h : R (.bool true) L F) : ACalls Tryz.prog W0 11 #[] L F R := by
  refine ACalls.weak ((Sub.nilF (sz := 3)).trans ((Sub.nilF (sz := 1)).trans (Sub.nilF (sz := 5)))) ?_
  refine ACalls.body Tryz.func11 rfl Tryz.ntmps11 rfl ?_
  refine AC.seq (AC.region (AL.go (AO.assign rfl rfl (AL.nil (AK.seqN (AC.seq ?_))))))
  refine AC.region ?_
  refine AL.go (AO.call rfl rfl (rstartO_c (fun a7 k7 c7 => ?_)))
  refine AL.go (AO.build rfl rfl rfl ?_)
  refine AL.go (AO.buildSlice rfl rfl rfl rfl rfl (fun b9 => ?_))
  refine AT.sub (Sub.trans (Sub.lit (i := 0) (enc := eI) (sz := 1) [22] rfl (.val .nil) (fun _ => rfl) rfl (by decide)) Sub.drop) ?_
  refine AL.go (AO.build rfl rfl rfl ?_)
  refine AL.go (AO.buildSlice rfl rfl rfl rfl rfl (fun b11 => ?_))
  refine AT.sub (Sub.trans (Sub.lit (i := 0) (enc := eI) (sz := 1) [2] rfl (.val .nil) (fun _ => rfl) rfl (by decide)) Sub.drop) ?_
  refine AL.go (AO.build rfl rfl rfl ?_)
  refine AL.go (AO.buildSlice rfl rfl rfl rfl rfl (fun b13 => ?_))
  refine AL.go (AO.append (i := 0) (enc := eTy) (lst := startL) [paramT, pslT, nmT] rfl rfl rfl rfl (.val (.val (.val (.slc (.slc (.val (.val (.val (.slc (.slc (.val (.val (.val (.slc (.slc .nil memA) memA)))) memA) memA)))) memA) memA)))) rfl rfl (fun _ => rfl) (by decide) (by decide) (fun a14 k14 c14 => ?_))
  refine AT.sub ((Sub.commit (i := 0) rfl).trans Sub.drop) ?_
  refine AL.go (AO.assign rfl rfl (AL.nil (AK.seqN (AC.seq (AC.region (AL.go (AO.move rfl rfl ?_)))))))
  refine AL.go (AO.buildSlice rfl rfl rfl rfl rfl (fun b17 => ?_))
  refine AT.sub (Sub.trans (Sub.lit (i := 0) (enc := eI) (sz := 1) [20] rfl (.val .nil) (fun _ => rfl) rfl (by decide)) Sub.drop) ?_
  refine AL.go (AO.build rfl rfl rfl ?_)
  refine AL.go (AO.buildSlice rfl rfl rfl rfl rfl (fun b19 => ?_))
  refine AT.sub (Sub.trans (Sub.lit (i := 0) (enc := eNm) (sz := 4) aliveN rfl (.val (.slc (.val (.slc .nil memA)) memA)) (fun _ => rfl) rfl (by decide)) Sub.drop) ?_
  refine AL.go (AO.build rfl rfl rfl ?_)
  refine AL.go (AO.call rfl rfl (uunder_c g aliveU aliveN (right_ok aliveU_right) aliveN_ok 24 (show fL aliveU _ _ _ ∈ _ from memA) (show fN aliveN _ _ _ ∈ _ from memA) memA (fun c => absurd aliveU_rightU c) (fun _ c => absurd (by rw [aliveU_len]; decide) c) (fun _ n e hn hk => ?_) (fun _ n e hn hk j hj hat u hu hul e2 h0 he => ?_) (fun _ n e hn hk j hj hat u hu hul o q a21 k21 c21 hq => ?_)))
  rotate_left 2
  obtain rfl : n = 24 := by omega
  obtain rfl : j = 0 := by have : aliveN.length = 1 := rfl; omega
  obtain rfl : u = 23 := by have : (23 : Int) = u := hu; omega
  obtain ⟨rfl, rfl⟩ := ok_inj hq aliveU_sub
  rotate_left
  · obtain rfl : n = 24 := by omega
    exact absurd rfl hk
  · obtain rfl : n = 24 := by omega
    obtain rfl : j = 0 := by have : aliveN.length = 1 := rfl; omega
    obtain rfl : u = 23 := by have : (23 : Int) = u := hu; omega
    exact absurd (err_ok he aliveU_sub) id
  refine AL.go (AO.move rfl rfl (AL.go (AO.extract rfl rfl rfl (AL.go (AO.extract rfl rfl rfl (AL.go (AO.extract rfl rfl rfl (AL.go (AO.alloc rfl (fun b2 => ?_))))))))))
  refine AL.go (AO.storeBA rfl rfl rfl rfl ?_)
  refine AL.go (AO.assign rfl rfl (AL.go (AO.assign rfl rfl (AL.nil (AK.seqN (AC.seq (AC.region ?_)))))))
  refine AL.go (AO.field rfl rfl ?_)
  refine AL.go (AO.loadB rfl rfl ?_)
  refine AL.go (AO.move rfl rfl ?_)
  refine AL.go (AO.call rfl rfl (ptextS_c g (aliveU ++ [sliceT]) (right_ok aliveU_right2) aliveU_right2 25 2 (by decide) rfl (by decide) rfl rfl memA ?_))
  refine AL.go (AO.move rfl rfl (AL.go (AO.extract rfl rfl rfl (AL.go (AO.extract rfl rfl rfl (AL.go (AO.assign rfl rfl (AL.go (AO.assign rfl rfl (AL.nil ?_))))))))))
  refine AK.seqN (AC.seq (AC.region (AL.go (AO.move rfl rfl ?_))))
  refine AL.go (AO.eql rfl rfl rfl (fun c33 => ?_) (fun c33 => ?_))
  ·refine AL.go (AO.move rfl rfl (AL.yes rfl rfl (AO.move rfl rfl ?_)))
   refine AL.yes rfl rfl (AO.eql rfl rfl rfl (fun c36 => ?_) (fun c36 => ?_))
   ·refine AL.go (AO.pickT rfl rfl rfl (AL.go (AO.move rfl rfl (AL.yes rfl rfl (AO.move rfl rfl ?_)))))
    refine AL.yes rfl rfl (AO.eqlS rfl rfl rfl (fun c40 => ?_) (fun c40 => ?_))
    ·refine AL.go (AO.pickT rfl rfl rfl (AL.go (AO.assign rfl rfl (AL.nil (AK.seqN (AC.ret ?_))))))
     first | exact AK.ret (L' := L) (F' := F) Tryz.results11 rfl subA h | exact absurd rfl c33 | exact absurd rfl c36 | exact absurd (by decide) c40
    ·refine AL.go (AO.pickT rfl rfl rfl (AL.go (AO.assign rfl rfl (AL.nil (AK.seqN (AC.ret ?_))))))
     first | exact AK.ret (L' := L) (F' := F) Tryz.results11 rfl subA h | exact absurd rfl c33 | exact absurd rfl c36 | exact absurd (by decide) c40
   ·refine AL.go (AO.pickT rfl rfl rfl (AL.go (AO.move rfl rfl (AL.no rfl rfl rfl rfl (AL.no rfl rfl rfl rfl (AL.go (AO.pickF rfl rfl rfl (AL.go (AO.assign rfl rfl ?_)))))))))
    refine AL.nil (AK.seqN (AC.ret ?_))
    first | exact AK.ret (L' := L) (F' := F) Tryz.results11 rfl subA h | exact absurd rfl c33 | exact absurd rfl c36 | exact absurd (by decide) c40
  ·refine AL.go (AO.move rfl rfl (AL.no rfl rfl rfl rfl (AL.no rfl rfl rfl rfl (AL.go (AO.pickF rfl rfl rfl (AL.go (AO.move rfl rfl (AL.no rfl rfl rfl rfl ?_))))))))
   refine AL.no rfl rfl rfl rfl (AL.go (AO.pickF rfl rfl rfl (AL.go (AO.assign rfl rfl (AL.nil (AK.seqN (AC.ret ?_)))))))
   first | exact AK.ret (L' := L) (F' := F) Tryz.results11 rfl subA h | exact absurd rfl c33 | exact absurd rfl c36 | exact absurd (by decide) c40
end
end Go.Sy
namespace Go.Sy
open Go Go.Proofs Go.RowKit
def FindP (T : List Ty) (N : List Nmd) (s : List UInt8) (i e : Int) : Prop :=
  (¬ rightU T N ∧ i = 0 ∧ e = 1) ∨ (rightU T N ∧ atN N s = none ∧ i = 0 ∧ e = 8) ∨ (rightU T N ∧ ∃ q : Nat, atN N s = some q ∧ i = q ∧ e = 0)
theorem some_q {N : List Nmd} {s : List UInt8} {p q : Nat} (h1 : atN N s = some p) (h2 : atN N s = some q) : p = q := by
  rw [h1] at h2; injection h2
attribute [local irreducible] AC AT AO AK AH ACalls Sub Res.cells Res.nix Res.own Res.map Exit.then Exit.inBlock bodyPost Code.wp Next Post Kont
section
variable {W0 : World} {L : List Res} {F : List Fact} {R : Value → List Res → List Fact → Prop}
set_option maxRecDepth 100000
set_option maxHeartbeats 16000000
theorem find2_c (g : Glob W0) (T : List Ty) (N : List Nmd) (hok : ∀ t ∈ T, TyOk t) (hno : ∀ n ∈ N, NmOk n) (s : List UInt8) {a a2 : Option Addr} {k c k2 c2 : Nat} (mL : fL T a k c ∈ F) (mN : fN N a2 k2 c2 ∈ F)
    (h : ∀ i e, FindP T N s i e → R (.tuple #[.int .i64 i, .int .i64 e]) L F) :
    ACalls Tryz.prog W0 26 #[.agg #[.slice a k c, .slice a2 k2 c2], S s] L F R :=
  find_c g T N hok hno s mL mN (fun h1 => h 0 1 (.inl ⟨h1, rfl, rfl⟩)) (fun h1 h2 => h 0 8 (.inr (.inl ⟨h1, h2, rfl, rfl⟩))) (fun h1 q h2 => h q 0 (.inr (.inr ⟨h1, q, h2, rfl, rfl⟩)))
theorem unitRight_c (g : Glob W0) (T0 U0 : List Ty) (N0 M0 : List Nmd) (s0 : List UInt8) (hT : ∀ t ∈ T0, TyUp t) (hN : ∀ n ∈ N0, NmUp n) {a a2 a3 a4 : Option Addr} {k c k2 c2 k3 c3 k4 c4 : Nat}
    (m1 : fL T0 a k c ∈ F) (m2 : fN N0 a2 k2 c2 ∈ F) (m3 : fL U0 a3 k3 c3 ∈ F) (m4 : fN M0 a4 k4 c4 ∈ F) (h : R (.bool true) L F) :
    ACalls Tryz.prog W0 5 #[.agg #[.slice a k c, .slice a2 k2 c2], .agg #[.slice a3 k3 c3, .slice a4 k4 c4], S s0] L F R := by
  have hok := fewS_ok (m := 402) hT
  have hno := fewN_ok (m := 62) hN
  refine ACalls.body Tryz.func5 rfl Tryz.ntmps5 rfl ?_
  refine AC.seq (AC.region (AL.go (AO.box rfl rfl (fun b3 => ?_))))
  refine AL.go (AO.box rfl rfl (fun b4 => ?_))
  refine AL.go (AO.assign rfl rfl (AL.nil (AK.seqN (AC.seq ?_))))
  refine AC.drawM [([(b3, _, _)], fun j => Nat.beq j 9 || Nat.beq j 10), ([(b4, _, _)], fun j => Nat.beq j 10)] (.cons bxA (.cons bxA .nil)) rfl (fun hx hX => ?_)
  refine AJ.takeS (i := 0) (.head _) rfl (Y.loadBA rfl (.head _) (by rfl)) (by kernel_rfl) (by kernel_rfl) rfl rfl rfl ?_
  refine AJ.takeS (i := 2) (.tail _ (.head _)) rfl (Y.loadBA rfl (.head _) (by rfl)) (by kernel_rfl) (by kernel_rfl) rfl rfl rfl ?_
  refine AJ.takeW (i := 4) rfl (Y.move rfl) (by kernel_rfl) rfl rfl ?_
  refine AJ.takeW (i := 5) rfl (Y.move rfl) (by kernel_rfl) rfl rfl ?_
  refine AJ.takeW (i := 6) rfl (Y.lenS rfl) (by kernel_rfl) rfl rfl ?_
  refine AJ.takeW (i := 7) rfl (Y.min rfl rfl) (by kernel_rfl) rfl rfl ?_
  refine AJ.takeW (i := 8) rfl (Y.sliceSH (j' := min s0.length 50) rfl rfl (by omega) (by omega)) (by kernel_rfl) rfl rfl ?_
  refine AJ.ups (is := [1]) (by kernel_rfl) (by simp) (Ups.cons rfl rfl (fun _ => ?_) Ups.nil)
  refine AO.call rfl rfl (ufew_c T0 N0 (show fL T0 a k c ∈ _ from memA) (show fN N0 a2 k2 c2 ∈ _ from memA) (fun a11 k11 z11 d11 e11 f11 => ?_))
  refine AT.go (.held bxA (.held bxA .nil)) memA ?_
  refine AJ.ups (is := [3]) (by kernel_rfl) (by simp) (Ups.cons rfl rfl (fun _ => ?_) Ups.nil)
  refine AO.call rfl rfl (ufew_c U0 M0 (show fL U0 a3 k3 c3 ∈ _ from memA) (show fN M0 a4 k4 c4 ∈ _ from memA) (fun a13 k13 z13 d13 e13 f13 => ?_))
  refine AT.go (.held bxA (.held bxA .nil)) memA ?_
  refine AJ.ups (is := [9]) (by kernel_rfl) (by simp) (Ups.cons rfl rfl (fun _ => ?_) Ups.nil)
  refine AO.storeBA rfl rfl rfl rfl ?_
  refine AT.go (.spoil rfl (.held bxA .nil)) memA ?_
  refine AJ.ups (is := [10]) (by kernel_rfl) (by simp) (Ups.cons rfl rfl (fun _ => ?_) Ups.nil)
  refine AO.storeBA rfl rfl rfl rfl ?_
  refine AT.go (.spoil rfl (.spoil rfl .nil)) memA ?_
  refine AJ.takeW (i := 11) rfl (Y.assign rfl) (by kernel_rfl) rfl rfl ?_
  refine AJ.done (by kernel_rfl) ?_
  refine AK.seqN (AC.seq (AC.region ?_))
  refine AL.go (AO.loadBA rfl rfl ?_)
  refine AL.go (AO.move rfl rfl ?_)
  refine AL.go (AO.call rfl rfl (find2_c g (fewS T0 402) (fewN N0 62) hok hno (s0.take (min s0.length 50)) memA memA (fun i22 e22 hf => ?_)))
  refine AL.go (AO.move rfl rfl (AL.go (AO.extract rfl rfl rfl (AL.go (AO.extract rfl rfl rfl (AL.go (AO.assign rfl rfl (AL.go (AO.assign rfl rfl (AL.nil ?_))))))))))
  refine AK.seqN (AC.seq (AC.region ?_))
  refine AL.go (AO.loadBA rfl rfl ?_)
  refine AL.go (AO.call rfl rfl (ruright_c (fewS T0 402) (fewN N0 62) hok hno memA memA (fun c26 => ?_) (fun c26 => ?_)))
  ·refine AL.go (AO.assign rfl rfl (AL.nil (AK.seqN (AC.seq (AC.seq ?_)))))
   refine AC.draw (fun _ => false) [(b3, _, _), (b4, _, _)] bxA rfl (fun hx hX => ?_)
   refine AH.takeS (i := 0) rfl (Y.loadBA rfl lmA (by rfl)) (by kernel_rfl) (by kernel_rfl) rfl rfl rfl ?_
   refine AH.takeW (i := 2) rfl (Y.move rfl) (by kernel_rfl) rfl rfl ?_
   refine AH.one (i := 1) (by kernel_rfl) rfl rfl (fun _ => ?_)
   refine AO.call rfl rfl (uright_c g (fewS T0 402) (fewN N0 62) hok hno memA memA (fun _ => ?_) (fun c28 => absurd c26 c28))
   refine AT.held bxA memB ?_
   refine AH.takeW (i := 3) rfl (Y.neqB rfl rfl) (by kernel_rfl) rfl rfl ?_
   refine AH.takeW (i := 4) rfl (Y.move rfl) (by kernel_rfl) rfl rfl ?_
   refine AH.takeS (i := 5) rfl (Y.loadBA rfl lmA (by rfl)) (by kernel_rfl) (by kernel_rfl) rfl rfl rfl ?_
   refine AH.takeS (i := 6) rfl (Y.loadBA rfl lmA (by rfl)) (by kernel_rfl) (by kernel_rfl) rfl rfl rfl ?_
   refine AH.takeS (i := 8) rfl (Y.loadBA rfl lmA (by rfl)) (by kernel_rfl) (by kernel_rfl) rfl rfl rfl ?_
   refine AH.takeS (i := 9) rfl (Y.loadBA rfl lmA (by rfl)) (by kernel_rfl) (by kernel_rfl) rfl rfl rfl ?_
   refine AH.one (i := 7) (by kernel_rfl) rfl rfl (fun _ => ?_)
   refine AO.call rfl rfl (ulike_c (fewS T0 402) (fewS U0 402) (fewN N0 62) (fewN M0 62) memA memA memA memA (fun c34 d34 => ?_) (fun c34 => ?_))
   all_goals refine AT.held bxA memB ?_
   ·refine AH.one (i := 10) (by kernel_rfl) rfl rfl (fun _ => ?_)
    refine AO.call rfl rfl (rulike_c (fewS T0 402) (fewS U0 402) (fewN N0 62) (fewN M0 62) memA memA memA memA (fun _ _ => ?_) (fun c37 => absurd ⟨c34, d34⟩ c37))
    refine AT.held bxA memB ?_
    refine AH.takeW (i := 11) rfl (Y.neqB rfl rfl) (by kernel_rfl) rfl rfl ?_
    refine AH.takeW (i := 12) rfl (Y.pickF rfl rfl) (by kernel_rfl) rfl rfl ?_
    refine AH.takeW (i := 13) rfl (Y.move rfl) (by kernel_rfl) rfl rfl ?_
    refine AH.takeS (i := 14) rfl (Y.loadBA rfl lmA (by rfl)) (by kernel_rfl) (by kernel_rfl) rfl rfl rfl ?_
    refine AH.takeS (i := 15) rfl (Y.loadBA rfl lmA (by rfl)) (by kernel_rfl) (by kernel_rfl) rfl rfl rfl ?_
    refine AH.one (i := 16) (by kernel_rfl) rfl rfl (fun _ => ?_)
    refine AO.call rfl rfl (ulike_c (fewS T0 402) (fewS T0 402) (fewN N0 62) (fewN N0 62) memA memA memA memA (fun _ _ => ?_) (fun c43 => absurd ⟨rfl, rfl⟩ c43))
    refine AT.held bxA memB ?_
    refine AH.takeW (i := 17) rfl (Y.not rfl) (by kernel_rfl) rfl rfl ?_
    refine AH.takeW (i := 18) rfl (Y.pickF rfl rfl) (by kernel_rfl) rfl rfl ?_
    refine AH.takeW (i := 19) rfl (Y.move rfl) (by kernel_rfl) rfl rfl ?_
    refine AH.one (i := 20) (by kernel_rfl) rfl rfl (fun _ => ?_)
    refine AO.call rfl rfl (ualive_c g ?_)
    refine AT.held bxA memB ?_
    refine AH.takeW (i := 21) rfl (Y.not rfl) (by kernel_rfl) rfl rfl ?_
    refine AH.takeW (i := 22) rfl (Y.pickF rfl rfl) (by kernel_rfl) rfl rfl ?_
    refine AH.done (by kernel_rfl) ?_
    refine AK.seqN (AC.condF rfl (AC.skip (AK.seqN (AC.seq (AC.seq ?_)))))
    refine AC.region (AL.go (AO.move rfl rfl (AL.go (AO.not rfl rfl (AL.nil (AK.seqN (AC.condF rfl ?_)))))))
    refine AC.skip (AK.seqN (AC.seq (AC.seq (AC.region ?_))))
    refine AL.go (AO.loadBA rfl rfl ?_)
    refine AL.go (AO.move rfl rfl ?_)
    refine AL.go (AO.call rfl rfl (ruat_c (fewN N0 62) (s0.take (min s0.length 50)) memA (fun q c60 => ?_) (fun c60 => ?_)))
    ·refine AL.go (AO.lss rfl rfl rfl (fun c61 => absurd c61 (by omega)) (fun _ => ?_))
     refine AL.nil (AK.seqN (AC.condF rfl (AC.skip (AK.seqN (AC.seq ?_)))))
     refine AC.region (AL.go (AO.move rfl rfl ?_))
     refine AL.go (AO.eql rfl rfl rfl (fun c69 => ?_) (fun c69 => ?_))
     ·refine AL.go (AO.move rfl rfl (AL.yes rfl rfl (AO.move rfl rfl ?_)))
      refine AL.yes rfl rfl (AO.loadBA rfl rfl ?_)
      refine AL.yes rfl rfl (AO.move rfl rfl ?_)
      refine AL.yes rfl rfl (AO.call rfl rfl (ruat_c (fewN N0 62) (s0.take (min s0.length 50)) memA (fun q2 c74 => ?_) (fun c74 => by rw [c60] at c74; exact absurd c74 (by simp))))
      obtain rfl := some_q c60 c74
      refine AL.yes rfl rfl (AO.eql rfl rfl rfl (fun c75 => ?_) (fun c75 => ?_))
      ·refine AL.go (AO.pickT rfl rfl rfl (AL.go (AO.assign rfl rfl (AL.nil (AK.seqN (AC.ret ?_))))))
       first
       | exact AK.ret (L' := L) (F' := F) Tryz.results5 rfl subA h
       | (exfalso; rcases hf with ⟨h1, h2, h3⟩ | ⟨h1, h2, h3, h4⟩ | ⟨h1, p, h2, h3, h4⟩ <;> first | exact c26 h1 | exact h1 c26 | omega | (rw [c60] at h2; injection h2 with h2; omega) | (rw [c60] at h2; injection h2))
      ·refine AL.go (AO.pickT rfl rfl rfl (AL.go (AO.assign rfl rfl (AL.nil (AK.seqN (AC.ret ?_))))))
       first
       | exact AK.ret (L' := L) (F' := F) Tryz.results5 rfl subA h
       | (exfalso; rcases hf with ⟨h1, h2, h3⟩ | ⟨h1, h2, h3, h4⟩ | ⟨h1, p, h2, h3, h4⟩ <;> first | exact c26 h1 | exact h1 c26 | omega | (rw [c60] at h2; injection h2 with h2; omega) | (rw [c60] at h2; injection h2))
     ·refine AL.go (AO.move rfl rfl (AL.no rfl rfl rfl rfl (AL.no rfl rfl rfl rfl (AL.no rfl rfl rfl rfl (AL.no rfl rfl rfl rfl (AL.no rfl rfl rfl rfl ?_))))))
      refine AL.go (AO.pickF rfl rfl rfl (AL.go (AO.assign rfl rfl (AL.nil (AK.seqN (AC.ret ?_))))))
      first
      | exact AK.ret (L' := L) (F' := F) Tryz.results5 rfl subA h
      | (exfalso; rcases hf with ⟨h1, h2, h3⟩ | ⟨h1, h2, h3, h4⟩ | ⟨h1, p, h2, h3, h4⟩ <;> first | exact c26 h1 | exact h1 c26 | omega | (rw [c60] at h2; injection h2 with h2; omega) | (rw [c60] at h2; injection h2))
    ·refine AL.go (AO.lss rfl rfl rfl (fun _ => ?_) (fun c61 => absurd c61 (by decide)))
     refine AL.nil (AK.seqN (AC.condT rfl (AC.seq (AC.region (AL.go (AO.move rfl rfl ?_))))))
     refine AL.go (AO.eql rfl rfl rfl (fun c63 => ?_) (fun c63 => ?_))
     ·refine AL.go (AO.move rfl rfl (AL.yes rfl rfl (AO.move rfl rfl ?_)))
      refine AL.yes rfl rfl (AO.eql rfl rfl rfl (fun c66 => ?_) (fun c66 => ?_))
      ·refine AL.go (AO.pickT rfl rfl rfl (AL.go (AO.assign rfl rfl (AL.nil (AK.seqN (AC.ret (AK.seqR ?_)))))))
       first
       | exact AK.ret (L' := L) (F' := F) Tryz.results5 rfl subA h
       | (exfalso; rcases hf with ⟨h1, h2, h3⟩ | ⟨h1, h2, h3, h4⟩ | ⟨h1, p, h2, h3, h4⟩ <;> first | exact c26 h1 | exact h1 c26 | omega | (rw [c60] at h2; injection h2 with h2; omega) | (rw [c60] at h2; injection h2))
      ·refine AL.go (AO.pickT rfl rfl rfl (AL.go (AO.assign rfl rfl (AL.nil (AK.seqN (AC.ret (AK.seqR ?_)))))))
       first
       | exact AK.ret (L' := L) (F' := F) Tryz.results5 rfl subA h
       | (exfalso; rcases hf with ⟨h1, h2, h3⟩ | ⟨h1, h2, h3, h4⟩ | ⟨h1, p, h2, h3, h4⟩ <;> first | exact c26 h1 | exact h1 c26 | omega | (rw [c60] at h2; injection h2 with h2; omega) | (rw [c60] at h2; injection h2))
     ·refine AL.go (AO.move rfl rfl (AL.no rfl rfl rfl rfl (AL.no rfl rfl rfl rfl (AL.go (AO.pickF rfl rfl rfl (AL.go (AO.assign rfl rfl (AL.nil ?_))))))))
      refine AK.seqN (AC.ret (AK.seqR ?_))
      first
      | exact AK.ret (L' := L) (F' := F) Tryz.results5 rfl subA h
      | (exfalso; rcases hf with ⟨h1, h2, h3⟩ | ⟨h1, h2, h3, h4⟩ | ⟨h1, p, h2, h3, h4⟩ <;> first | exact c26 h1 | exact h1 c26 | omega | (rw [c60] at h2; injection h2 with h2; omega) | (rw [c60] at h2; injection h2))
   ·refine AH.one (i := 10) (by kernel_rfl) rfl rfl (fun _ => ?_)
    refine AO.call rfl rfl (rulike_c (fewS T0 402) (fewS U0 402) (fewN N0 62) (fewN M0 62) memA memA memA memA (fun c37 d37 => absurd ⟨c37, d37⟩ c34) (fun _ => ?_))
    refine AT.held bxA memB ?_
    refine AH.takeW (i := 11) rfl (Y.neqB rfl rfl) (by kernel_rfl) rfl rfl ?_
    refine AH.takeW (i := 12) rfl (Y.pickF rfl rfl) (by kernel_rfl) rfl rfl ?_
    refine AH.takeW (i := 13) rfl (Y.move rfl) (by kernel_rfl) rfl rfl ?_
    refine AH.takeS (i := 14) rfl (Y.loadBA rfl lmA (by rfl)) (by kernel_rfl) (by kernel_rfl) rfl rfl rfl ?_
    refine AH.takeS (i := 15) rfl (Y.loadBA rfl lmA (by rfl)) (by kernel_rfl) (by kernel_rfl) rfl rfl rfl ?_
    refine AH.one (i := 16) (by kernel_rfl) rfl rfl (fun _ => ?_)
    refine AO.call rfl rfl (ulike_c (fewS T0 402) (fewS T0 402) (fewN N0 62) (fewN N0 62) memA memA memA memA (fun _ _ => ?_) (fun c43 => absurd ⟨rfl, rfl⟩ c43))
    refine AT.held bxA memB ?_
    refine AH.takeW (i := 17) rfl (Y.not rfl) (by kernel_rfl) rfl rfl ?_
    refine AH.takeW (i := 18) rfl (Y.pickF rfl rfl) (by kernel_rfl) rfl rfl ?_
    refine AH.takeW (i := 19) rfl (Y.move rfl) (by kernel_rfl) rfl rfl ?_
    refine AH.one (i := 20) (by kernel_rfl) rfl rfl (fun _ => ?_)
    refine AO.call rfl rfl (ualive_c g ?_)
    refine AT.held bxA memB ?_
    refine AH.takeW (i := 21) rfl (Y.not rfl) (by kernel_rfl) rfl rfl ?_
    refine AH.takeW (i := 22) rfl (Y.pickF rfl rfl) (by kernel_rfl) rfl rfl ?_
    refine AH.done (by kernel_rfl) ?_
    refine AK.seqN (AC.condF rfl (AC.skip (AK.seqN (AC.seq (AC.seq ?_)))))
    refine AC.region (AL.go (AO.move rfl rfl (AL.go (AO.not rfl rfl (AL.nil (AK.seqN (AC.condF rfl ?_)))))))
    refine AC.skip (AK.seqN (AC.seq (AC.seq (AC.region ?_))))
    refine AL.go (AO.loadBA rfl rfl ?_)
    refine AL.go (AO.move rfl rfl ?_)
    refine AL.go (AO.call rfl rfl (ruat_c (fewN N0 62) (s0.take (min s0.length 50)) memA (fun q c60 => ?_) (fun c60 => ?_)))
    ·refine AL.go (AO.lss rfl rfl rfl (fun c61 => absurd c61 (by omega)) (fun _ => ?_))
     refine AL.nil (AK.seqN (AC.condF rfl (AC.skip (AK.seqN (AC.seq ?_)))))
     refine AC.region (AL.go (AO.move rfl rfl ?_))
     refine AL.go (AO.eql rfl rfl rfl (fun c69 => ?_) (fun c69 => ?_))
     ·refine AL.go (AO.move rfl rfl (AL.yes rfl rfl (AO.move rfl rfl ?_)))
      refine AL.yes rfl rfl (AO.loadBA rfl rfl ?_)
      refine AL.yes rfl rfl (AO.move rfl rfl ?_)
      refine AL.yes rfl rfl (AO.call rfl rfl (ruat_c (fewN N0 62) (s0.take (min s0.length 50)) memA (fun q2 c74 => ?_) (fun c74 => by rw [c60] at c74; exact absurd c74 (by simp))))
      obtain rfl := some_q c60 c74
      refine AL.yes rfl rfl (AO.eql rfl rfl rfl (fun c75 => ?_) (fun c75 => ?_))
      ·refine AL.go (AO.pickT rfl rfl rfl (AL.go (AO.assign rfl rfl (AL.nil (AK.seqN (AC.ret ?_))))))
       first
       | exact AK.ret (L' := L) (F' := F) Tryz.results5 rfl subA h
       | (exfalso; rcases hf with ⟨h1, h2, h3⟩ | ⟨h1, h2, h3, h4⟩ | ⟨h1, p, h2, h3, h4⟩ <;> first | exact c26 h1 | exact h1 c26 | omega | (rw [c60] at h2; injection h2 with h2; omega) | (rw [c60] at h2; injection h2))
      ·refine AL.go (AO.pickT rfl rfl rfl (AL.go (AO.assign rfl rfl (AL.nil (AK.seqN (AC.ret ?_))))))
       first
       | exact AK.ret (L' := L) (F' := F) Tryz.results5 rfl subA h
       | (exfalso; rcases hf with ⟨h1, h2, h3⟩ | ⟨h1, h2, h3, h4⟩ | ⟨h1, p, h2, h3, h4⟩ <;> first | exact c26 h1 | exact h1 c26 | omega | (rw [c60] at h2; injection h2 with h2; omega) | (rw [c60] at h2; injection h2))
     ·refine AL.go (AO.move rfl rfl (AL.no rfl rfl rfl rfl (AL.no rfl rfl rfl rfl (AL.no rfl rfl rfl rfl (AL.no rfl rfl rfl rfl (AL.no rfl rfl rfl rfl ?_))))))
      refine AL.go (AO.pickF rfl rfl rfl (AL.go (AO.assign rfl rfl (AL.nil (AK.seqN (AC.ret ?_))))))
      first
      | exact AK.ret (L' := L) (F' := F) Tryz.results5 rfl subA h
      | (exfalso; rcases hf with ⟨h1, h2, h3⟩ | ⟨h1, h2, h3, h4⟩ | ⟨h1, p, h2, h3, h4⟩ <;> first | exact c26 h1 | exact h1 c26 | omega | (rw [c60] at h2; injection h2 with h2; omega) | (rw [c60] at h2; injection h2))
    ·refine AL.go (AO.lss rfl rfl rfl (fun _ => ?_) (fun c61 => absurd c61 (by decide)))
     refine AL.nil (AK.seqN (AC.condT rfl (AC.seq (AC.region (AL.go (AO.move rfl rfl ?_))))))
     refine AL.go (AO.eql rfl rfl rfl (fun c63 => ?_) (fun c63 => ?_))
     ·refine AL.go (AO.move rfl rfl (AL.yes rfl rfl (AO.move rfl rfl ?_)))
      refine AL.yes rfl rfl (AO.eql rfl rfl rfl (fun c66 => ?_) (fun c66 => ?_))
      ·refine AL.go (AO.pickT rfl rfl rfl (AL.go (AO.assign rfl rfl (AL.nil (AK.seqN (AC.ret (AK.seqR ?_)))))))
       first
       | exact AK.ret (L' := L) (F' := F) Tryz.results5 rfl subA h
       | (exfalso; rcases hf with ⟨h1, h2, h3⟩ | ⟨h1, h2, h3, h4⟩ | ⟨h1, p, h2, h3, h4⟩ <;> first | exact c26 h1 | exact h1 c26 | omega | (rw [c60] at h2; injection h2 with h2; omega) | (rw [c60] at h2; injection h2))
      ·refine AL.go (AO.pickT rfl rfl rfl (AL.go (AO.assign rfl rfl (AL.nil (AK.seqN (AC.ret (AK.seqR ?_)))))))
       first
       | exact AK.ret (L' := L) (F' := F) Tryz.results5 rfl subA h
       | (exfalso; rcases hf with ⟨h1, h2, h3⟩ | ⟨h1, h2, h3, h4⟩ | ⟨h1, p, h2, h3, h4⟩ <;> first | exact c26 h1 | exact h1 c26 | omega | (rw [c60] at h2; injection h2 with h2; omega) | (rw [c60] at h2; injection h2))
     ·refine AL.go (AO.move rfl rfl (AL.no rfl rfl rfl rfl (AL.no rfl rfl rfl rfl (AL.go (AO.pickF rfl rfl rfl (AL.go (AO.assign rfl rfl (AL.nil ?_))))))))
      refine AK.seqN (AC.ret (AK.seqR ?_))
      first
      | exact AK.ret (L' := L) (F' := F) Tryz.results5 rfl subA h
      | (exfalso; rcases hf with ⟨h1, h2, h3⟩ | ⟨h1, h2, h3, h4⟩ | ⟨h1, p, h2, h3, h4⟩ <;> first | exact c26 h1 | exact h1 c26 | omega | (rw [c60] at h2; injection h2 with h2; omega) | (rw [c60] at h2; injection h2))
  ·refine AL.go (AO.assign rfl rfl (AL.nil (AK.seqN (AC.seq (AC.seq ?_)))))
   refine AC.draw (fun _ => false) [(b3, _, _), (b4, _, _)] bxA rfl (fun hx hX => ?_)
   refine AH.takeS (i := 0) rfl (Y.loadBA rfl lmA (by rfl)) (by kernel_rfl) (by kernel_rfl) rfl rfl rfl ?_
   refine AH.takeW (i := 2) rfl (Y.move rfl) (by kernel_rfl) rfl rfl ?_
   refine AH.one (i := 1) (by kernel_rfl) rfl rfl (fun _ => ?_)
   refine AO.call rfl rfl (uright_c g (fewS T0 402) (fewN N0 62) hok hno memA memA (fun c28 => absurd c28 c26) (fun _ => ?_))
   refine AT.held bxA memB ?_
   refine AH.takeW (i := 3) rfl (Y.neqB rfl rfl) (by kernel_rfl) rfl rfl ?_
   refine AH.takeW (i := 4) rfl (Y.move rfl) (by kernel_rfl) rfl rfl ?_
   refine AH.takeS (i := 5) rfl (Y.loadBA rfl lmA (by rfl)) (by kernel_rfl) (by kernel_rfl) rfl rfl rfl ?_
   refine AH.takeS (i := 6) rfl (Y.loadBA rfl lmA (by rfl)) (by kernel_rfl) (by kernel_rfl) rfl rfl rfl ?_
   refine AH.takeS (i := 8) rfl (Y.loadBA rfl lmA (by rfl)) (by kernel_rfl) (by kernel_rfl) rfl rfl rfl ?_
   refine AH.takeS (i := 9) rfl (Y.loadBA rfl lmA (by rfl)) (by kernel_rfl) (by kernel_rfl) rfl rfl rfl ?_
   refine AH.one (i := 7) (by kernel_rfl) rfl rfl (fun _ => ?_)
   refine AO.call rfl rfl (ulike_c (fewS T0 402) (fewS U0 402) (fewN N0 62) (fewN M0 62) memA memA memA memA (fun c34 d34 => ?_) (fun c34 => ?_))
   all_goals refine AT.held bxA memB ?_
   ·refine AH.one (i := 10) (by kernel_rfl) rfl rfl (fun _ => ?_)
    refine AO.call rfl rfl (rulike_c (fewS T0 402) (fewS U0 402) (fewN N0 62) (fewN M0 62) memA memA memA memA (fun _ _ => ?_) (fun c37 => absurd ⟨c34, d34⟩ c37))
    refine AT.held bxA memB ?_
    refine AH.takeW (i := 11) rfl (Y.neqB rfl rfl) (by kernel_rfl) rfl rfl ?_
    refine AH.takeW (i := 12) rfl (Y.pickF rfl rfl) (by kernel_rfl) rfl rfl ?_
    refine AH.takeW (i := 13) rfl (Y.move rfl) (by kernel_rfl) rfl rfl ?_
    refine AH.takeS (i := 14) rfl (Y.loadBA rfl lmA (by rfl)) (by kernel_rfl) (by kernel_rfl) rfl rfl rfl ?_
    refine AH.takeS (i := 15) rfl (Y.loadBA rfl lmA (by rfl)) (by kernel_rfl) (by kernel_rfl) rfl rfl rfl ?_
    refine AH.one (i := 16) (by kernel_rfl) rfl rfl (fun _ => ?_)
    refine AO.call rfl rfl (ulike_c (fewS T0 402) (fewS T0 402) (fewN N0 62) (fewN N0 62) memA memA memA memA (fun _ _ => ?_) (fun c43 => absurd ⟨rfl, rfl⟩ c43))
    refine AT.held bxA memB ?_
    refine AH.takeW (i := 17) rfl (Y.not rfl) (by kernel_rfl) rfl rfl ?_
    refine AH.takeW (i := 18) rfl (Y.pickF rfl rfl) (by kernel_rfl) rfl rfl ?_
    refine AH.takeW (i := 19) rfl (Y.move rfl) (by kernel_rfl) rfl rfl ?_
    refine AH.one (i := 20) (by kernel_rfl) rfl rfl (fun _ => ?_)
    refine AO.call rfl rfl (ualive_c g ?_)
    refine AT.held bxA memB ?_
    refine AH.takeW (i := 21) rfl (Y.not rfl) (by kernel_rfl) rfl rfl ?_
    refine AH.takeW (i := 22) rfl (Y.pickF rfl rfl) (by kernel_rfl) rfl rfl ?_
    refine AH.done (by kernel_rfl) ?_
    refine AK.seqN (AC.condF rfl (AC.skip (AK.seqN (AC.seq (AC.seq ?_)))))
    refine AC.region (AL.go (AO.move rfl rfl (AL.go (AO.not rfl rfl (AL.nil (AK.seqN (AC.condT rfl ?_)))))))
    refine AC.seq (AC.region (AL.go (AO.move rfl rfl ?_)))
    refine AL.go (AO.eql rfl rfl rfl (fun c53 => ?_) (fun c53 => ?_))
    ·refine AL.go (AO.move rfl rfl (AL.yes rfl rfl (AO.move rfl rfl ?_)))
     refine AL.yes rfl rfl (AO.eql rfl rfl rfl (fun c56 => ?_) (fun c56 => ?_))
     ·refine AL.go (AO.pickT rfl rfl rfl (AL.go (AO.assign rfl rfl (AL.nil (AK.seqN (AC.ret (AK.seqR ?_)))))))
      first
      | exact AK.ret (L' := L) (F' := F) Tryz.results5 rfl subA h
      | (exfalso; rcases hf with ⟨h1, h2, h3⟩ | ⟨h1, h2, h3, h4⟩ | ⟨h1, p, h2, h3, h4⟩ <;> first | exact c26 h1 | exact h1 c26 | omega | (rw [c60] at h2; injection h2 with h2; omega) | (rw [c60] at h2; injection h2))
     ·refine AL.go (AO.pickT rfl rfl rfl (AL.go (AO.assign rfl rfl (AL.nil (AK.seqN (AC.ret (AK.seqR ?_)))))))
      first
      | exact AK.ret (L' := L) (F' := F) Tryz.results5 rfl subA h
      | (exfalso; rcases hf with ⟨h1, h2, h3⟩ | ⟨h1, h2, h3, h4⟩ | ⟨h1, p, h2, h3, h4⟩ <;> first | exact c26 h1 | exact h1 c26 | omega | (rw [c60] at h2; injection h2 with h2; omega) | (rw [c60] at h2; injection h2))
    ·refine AL.go (AO.move rfl rfl (AL.no rfl rfl rfl rfl (AL.no rfl rfl rfl rfl (AL.go (AO.pickF rfl rfl rfl (AL.go (AO.assign rfl rfl (AL.nil ?_))))))))
     refine AK.seqN (AC.ret (AK.seqR ?_))
     first
     | exact AK.ret (L' := L) (F' := F) Tryz.results5 rfl subA h
     | (exfalso; rcases hf with ⟨h1, h2, h3⟩ | ⟨h1, h2, h3, h4⟩ | ⟨h1, p, h2, h3, h4⟩ <;> first | exact c26 h1 | exact h1 c26 | omega | (rw [c60] at h2; injection h2 with h2; omega) | (rw [c60] at h2; injection h2))
   ·refine AH.one (i := 10) (by kernel_rfl) rfl rfl (fun _ => ?_)
    refine AO.call rfl rfl (rulike_c (fewS T0 402) (fewS U0 402) (fewN N0 62) (fewN M0 62) memA memA memA memA (fun c37 d37 => absurd ⟨c37, d37⟩ c34) (fun _ => ?_))
    refine AT.held bxA memB ?_
    refine AH.takeW (i := 11) rfl (Y.neqB rfl rfl) (by kernel_rfl) rfl rfl ?_
    refine AH.takeW (i := 12) rfl (Y.pickF rfl rfl) (by kernel_rfl) rfl rfl ?_
    refine AH.takeW (i := 13) rfl (Y.move rfl) (by kernel_rfl) rfl rfl ?_
    refine AH.takeS (i := 14) rfl (Y.loadBA rfl lmA (by rfl)) (by kernel_rfl) (by kernel_rfl) rfl rfl rfl ?_
    refine AH.takeS (i := 15) rfl (Y.loadBA rfl lmA (by rfl)) (by kernel_rfl) (by kernel_rfl) rfl rfl rfl ?_
    refine AH.one (i := 16) (by kernel_rfl) rfl rfl (fun _ => ?_)
    refine AO.call rfl rfl (ulike_c (fewS T0 402) (fewS T0 402) (fewN N0 62) (fewN N0 62) memA memA memA memA (fun _ _ => ?_) (fun c43 => absurd ⟨rfl, rfl⟩ c43))
    refine AT.held bxA memB ?_
    refine AH.takeW (i := 17) rfl (Y.not rfl) (by kernel_rfl) rfl rfl ?_
    refine AH.takeW (i := 18) rfl (Y.pickF rfl rfl) (by kernel_rfl) rfl rfl ?_
    refine AH.takeW (i := 19) rfl (Y.move rfl) (by kernel_rfl) rfl rfl ?_
    refine AH.one (i := 20) (by kernel_rfl) rfl rfl (fun _ => ?_)
    refine AO.call rfl rfl (ualive_c g ?_)
    refine AT.held bxA memB ?_
    refine AH.takeW (i := 21) rfl (Y.not rfl) (by kernel_rfl) rfl rfl ?_
    refine AH.takeW (i := 22) rfl (Y.pickF rfl rfl) (by kernel_rfl) rfl rfl ?_
    refine AH.done (by kernel_rfl) ?_
    refine AK.seqN (AC.condF rfl (AC.skip (AK.seqN (AC.seq (AC.seq ?_)))))
    refine AC.region (AL.go (AO.move rfl rfl (AL.go (AO.not rfl rfl (AL.nil (AK.seqN (AC.condT rfl ?_)))))))
    refine AC.seq (AC.region (AL.go (AO.move rfl rfl ?_)))
    refine AL.go (AO.eql rfl rfl rfl (fun c53 => ?_) (fun c53 => ?_))
    ·refine AL.go (AO.move rfl rfl (AL.yes rfl rfl (AO.move rfl rfl ?_)))
     refine AL.yes rfl rfl (AO.eql rfl rfl rfl (fun c56 => ?_) (fun c56 => ?_))
     ·refine AL.go (AO.pickT rfl rfl rfl (AL.go (AO.assign rfl rfl (AL.nil (AK.seqN (AC.ret (AK.seqR ?_)))))))
      first
      | exact AK.ret (L' := L) (F' := F) Tryz.results5 rfl subA h
      | (exfalso; rcases hf with ⟨h1, h2, h3⟩ | ⟨h1, h2, h3, h4⟩ | ⟨h1, p, h2, h3, h4⟩ <;> first | exact c26 h1 | exact h1 c26 | omega | (rw [c60] at h2; injection h2 with h2; omega) | (rw [c60] at h2; injection h2))
     ·refine AL.go (AO.pickT rfl rfl rfl (AL.go (AO.assign rfl rfl (AL.nil (AK.seqN (AC.ret (AK.seqR ?_)))))))
      first
      | exact AK.ret (L' := L) (F' := F) Tryz.results5 rfl subA h
      | (exfalso; rcases hf with ⟨h1, h2, h3⟩ | ⟨h1, h2, h3, h4⟩ | ⟨h1, p, h2, h3, h4⟩ <;> first | exact c26 h1 | exact h1 c26 | omega | (rw [c60] at h2; injection h2 with h2; omega) | (rw [c60] at h2; injection h2))
    ·refine AL.go (AO.move rfl rfl (AL.no rfl rfl rfl rfl (AL.no rfl rfl rfl rfl (AL.go (AO.pickF rfl rfl rfl (AL.go (AO.assign rfl rfl (AL.nil ?_))))))))
     refine AK.seqN (AC.ret (AK.seqR ?_))
     first
     | exact AK.ret (L' := L) (F' := F) Tryz.results5 rfl subA h
     | (exfalso; rcases hf with ⟨h1, h2, h3⟩ | ⟨h1, h2, h3, h4⟩ | ⟨h1, p, h2, h3, h4⟩ <;> first | exact c26 h1 | exact h1 c26 | omega | (rw [c60] at h2; injection h2 with h2; omega) | (rw [c60] at h2; injection h2))
end
end Go.Sy
