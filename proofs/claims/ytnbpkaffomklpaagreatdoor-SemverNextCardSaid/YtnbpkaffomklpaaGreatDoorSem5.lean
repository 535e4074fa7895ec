/- What the statements cut their arguments to. -/
import Derived.Test.YtnbpkaffomklpaaGreatDoorSem4
namespace Go.Sy
open Go Go.Proofs Go.RowKit

def few1 (s : List UInt8) : List UInt8 := s.take (min s.length 42)
def fewL (l : List (List UInt8)) : List (List UInt8) := (l.take (min l.length 9)).map few1
def fewV (v : Ver) : Ver := { v with pre := fewL v.pre, build := fewL v.build }
theorem few_step {l : List (List UInt8)} {q : Nat} (h : q < l.length) : (l.take q).map few1 ++ [few1 l[q]] = (l.take (q + 1)).map few1 := by
  rw [List.take_succ_eq_append_getElem h, List.map_append]; rfl

attribute [local irreducible] AC AT AO AK AH ACalls Sub Res.cells Res.obj Res.nix Res.own Exit.then Exit.inBlock bodyPost Code.wp Next Post Kont
section
variable {W0 : World} {L : List Res} {F : List Fact} {R : Value → List Res → List Fact → Prop}
set_option maxRecDepth 100000
theorem few1_c (l : List (List UInt8)) {a : Option Addr} {k c : Nat} (m1 : fS l a k c ∈ F) (h : ∀ a k c, R (.slice a k c) L (fS (fewL l) a k c :: F)) :
    ACalls Tryz.prog W0 17 #[.slice a k c] L F R := by
  refine ACalls.body Tryz.func17 rfl Tryz.ntmps17 rfl ?_
  refine AC.seq (AC.region (AL.go (AO.assign rfl rfl (AL.nil (AK.seqN (AC.seq ?_))))))
  refine AC.region (AL.go (AO.assign rfl rfl (AL.nil (AK.seqN (AC.seq (AC.seq ?_))))))
  refine AC.region (AL.go (AO.move rfl rfl (AL.go (AO.move rfl rfl ?_))))
  refine AL.go (AO.len rfl rfl (fun hl8 => ?_) (hm := by repeat (first | exact mem0 | assumption | refine memS ?_)))
  refine AL.go (AO.min rfl rfl rfl ?_)
  refine AL.go (AO.sliceH (j' := min l.length 9) rfl rfl rfl (by omega) (by repeat (first | exact mem0 | assumption | refine memS ?_)) (by omega) (fun a10 k10 c10 => ?_))
  refine AL.go (AO.len rfl rfl (fun hl11 => ?_) (hm := by repeat (first | exact mem0 | assumption | refine memS ?_)))
  refine AL.go (AO.move rfl rfl (AL.nil (AK.seqN (AC.block ?_))))
  have hl9 : (l.take (min l.length 9)).length ≤ 9 := by simp; omega
  have hfew : fewL l = (l.take (min l.length 9)).map few1 := rfl
  generalize l.take (min l.length 9) = l' at hl9 hfew ⊢
  refine AC.loop (fun (i : Nat × Option Addr × Nat × Nat) => i.1 ≤ l'.length) (fun i => [(3, .slice i.2.1 i.2.2.1 i.2.2.2), (10, .slice a10 k10 c10), (11, .int .i64 l'.length), (12, .int .i64 (i.1 : Int))]) (fun i => Res.own (.slice i.2.1 i.2.2.1 i.2.2.2) 9 1 (((l'.take i.1).map few1).map eS) :: L) (fun _ => .slc (.slice a10 k10 c10) 1 (l'.map eS) :: F) (fun i => l'.length - i.1) (0, none, 0, 0) (by simp) (by repeat (first | exact SubR.nil | refine SubR.cons rfl ?_)) Sub.ownNil ?_
  rintro ⟨q, a3, k3, c3⟩ hq
  simp only at hq ⊢
  refine AC.seq (AC.region ?_)
  refine AL.go (AO.lss rfl rfl rfl (fun c13 => ?_) (fun c13 => ?_))
  · refine AL.nil (AK.seqN (AC.seq (AC.condT rfl (AC.skip (AK.seqN ?_)))))
    refine AC.seq (AC.block (AC.seq (AC.region ?_)))
    refine AL.go (AO.indexAddr rfl rfl rfl rfl (by repeat (first | exact mem0 | assumption | refine memS ?_)) (by first | omega | (simp; omega)) (fun _ _ => ?_))
    refine AL.go (AO.loadF rfl rfl ?_)
    intros
    refine AL.go (AO.assign rfl rfl (AL.nil (AK.seqN (AC.region (AL.go (AO.move rfl rfl (AL.go (AO.move rfl rfl ?_))))))))
    refine AL.go (AO.move rfl rfl (AL.go (AO.lenS rfl rfl (AL.go (AO.min rfl rfl rfl ?_)))))
    refine AL.go (AO.sliceSH (j' := min l'[q].length 42) rfl rfl rfl (by omega) (by omega) ?_)
    refine AL.go (AO.buildSlice rfl rfl rfl rfl rfl (fun b22 => ?_))
    have hql : q < l'.length := by omega
    refine AL.go (AO.append (i := 0) (enc := eS) (lst := (l'.take q).map few1) [few1 l'[q]] rfl rfl rfl rfl (.val .nil) rfl rfl (fun _ => rfl) (by simp [maxLen]; omega) (by simp; omega) (fun a23 k23 c23 => ?_))
    rw [few_step hql]
    refine AL.go (AO.assign rfl rfl (AL.nil (AK.blkN (AK.seqN (AC.region (AL.go (AO.add rfl rfl rfl (by omega) (by omega) ?_)))))))
    refine AL.go (AO.move rfl rfl (AL.nil ?_))
    refine AK.next (q + 1, a23, k23, c23) (by simp only; omega) (by simp only; omega) (by repeat (first | exact SubR.nil | refine SubR.cons rfl ?_)) (by repeat (first | exact Sub.refl _ _ | refine Sub.trans Sub.dropF ?_))
  · refine AL.nil (AK.seqN (AC.seq (AC.condF rfl (AC.exit (AK.seqX ?_)))))
    refine AK.seqX (AK.blkX (AK.seqN (AC.seq (AC.region (AL.go (AO.move rfl rfl ?_))))))
    refine AL.go (AO.assign rfl rfl (AL.nil (AK.seqN (AC.ret ?_))))
    refine AK.ret (L' := L) (F' := fS (fewL l) _ _ _ :: F) Tryz.results17 rfl ?_ (h _ _ _)
    rw [hfew]
    rw [List.take_of_length_le (by omega)]
    exact (Sub.commit (i := 0) rfl).trans (Sub.drop.trans (Sub.headF (fun x hx => List.mem_cons_of_mem _ hx)))
theorem few_c (v : Ver) {a1 a2 : Option Addr} {k1 c1 k2 c2 : Nat} (m1 : fS v.pre a1 k1 c1 ∈ F) (m2 : fS v.build a2 k2 c2 ∈ F) (h : ∀ a1 k1 c1 a2 k2 c2, R (vVer (fewV v) a1 k1 c1 a2 k2 c2) L (fS (fewV v).build a2 k2 c2 :: fS (fewV v).pre a1 k1 c1 :: F)) :
    ACalls Tryz.prog W0 5 #[vVer v a1 k1 c1 a2 k2 c2] L F R := by
  refine ACalls.body Tryz.func5 rfl Tryz.ntmps5 rfl ?_
  refine AC.seq (AC.region (AL.go (AO.box rfl rfl (fun b1 => ?_))))
  refine AL.go (AO.alloc rfl (fun b2 => ?_))
  refine AL.nil (AK.seqN (AC.seq (AC.region (AL.go (AO.assign rfl rfl (AL.nil ?_))))))
  refine AK.seqN (AC.seq ?_)
  refine AC.draw (fun i => Nat.beq i 9 || Nat.beq i 11) [(b1, _, _)] (by repeat (first | exact BxIn.nil | refine BxIn.cons (by repeat (first | exact has0 | apply hasS)) ?_)) rfl (fun hx hX => ?_)
  refine AH.takeW (i := 0) rfl (Y.move rfl) (by kernel_rfl) rfl rfl ?_
  refine AH.takeW (i := 1) rfl (Y.field rfl) (by kernel_rfl) rfl rfl ?_
  refine AH.takeS (i := 2) rfl (Y.loadB rfl (by repeat (first | exact List.Mem.head _ | refine List.Mem.tail _ ?_)) (by rfl)) (by kernel_rfl) (by kernel_rfl) rfl rfl rfl ?_
  refine AH.takeW (i := 4) rfl (Y.move rfl) (by kernel_rfl) rfl rfl ?_
  refine AH.takeW (i := 5) rfl (Y.field rfl) (by kernel_rfl) rfl rfl ?_
  refine AH.takeS (i := 6) rfl (Y.loadB rfl (by repeat (first | exact List.Mem.head _ | refine List.Mem.tail _ ?_)) (by rfl)) (by kernel_rfl) (by kernel_rfl) rfl rfl rfl ?_
  refine AH.one (i := 3) (by kernel_rfl) rfl rfl (fun _ => ?_)
  refine AO.callC (cs := []) rfl rfl rfl (few1_c v.pre (by repeat (first | exact mem0 | assumption | refine memS ?_)) (fun a7 k7 c7 => ?_))
  refine AT.held (by repeat (first | exact BxIn.nil | refine BxIn.cons (by repeat (first | exact has0 | apply hasS)) ?_)) (by repeat (first | exact mem0 | refine memS ?_)) ?_
  refine AH.takeW (i := 8) rfl (Y.field rfl) (by kernel_rfl) rfl rfl ?_
  refine AH.one (i := 7) (by kernel_rfl) rfl rfl (fun _ => ?_)
  refine AO.callC (cs := []) rfl rfl rfl (few1_c v.build (by repeat (first | exact mem0 | assumption | refine memS ?_)) (fun a11 k11 c11 => ?_))
  refine AT.held (by repeat (first | exact BxIn.nil | refine BxIn.cons (by repeat (first | exact has0 | apply hasS)) ?_)) (by repeat (first | exact mem0 | refine memS ?_)) ?_
  refine AH.one (i := 9) (by kernel_rfl) rfl rfl (fun _ => ?_)
  refine AO.storeB rfl rfl rfl ?_
  refine AT.spoilt rfl ?_
  refine AH.takeW (i := 10) rfl (Y.field rfl) (by kernel_rfl) rfl rfl ?_
  refine AH.one (i := 11) (by kernel_rfl) rfl rfl (fun _ => ?_)
  refine AO.storeB rfl rfl rfl ?_
  refine AT.spoilt rfl ?_
  refine AH.done (by kernel_rfl) ?_
  refine AK.seqN (AC.seq (AC.region ?_))
  refine AL.go (AO.loadBA rfl rfl ?_)
  refine AL.go (AO.storeBA rfl rfl rfl rfl ?_)
  refine AL.nil (AK.seqN (AC.ret ?_))
  exact AK.retV (rs := [.cell 2 _]) (L' := L) (F' := fS (fewV v).build a11 k11 c11 :: fS (fewV v).pre a7 k7 c7 :: F) Tryz.results5 (.agg (j := 0) rfl rfl rfl .nil) (Sub.drop.trans (Sub.drop.trans (Sub.facts (mem2 (by repeat (first | exact mem0 | assumption | refine memS ?_)) (by repeat (first | exact mem0 | assumption | refine memS ?_)) (fun x hx => by repeat (first | exact hx | refine List.mem_cons_of_mem _ ?_)))))) (h _ _ _ _ _ _)
end
end Go.Sy
