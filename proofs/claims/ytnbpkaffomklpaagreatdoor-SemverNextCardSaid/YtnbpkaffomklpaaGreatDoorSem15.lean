/- The statement on the next release: the walk. -/
import Derived.Test.YtnbpkaffomklpaaGreatDoorRefM
import Derived.Test.YtnbpkaffomklpaaGreatDoorSem9
namespace Go.Sy
open Go Go.Proofs Go.RowKit

attribute [local irreducible] AC AT AO AK AH ACalls Sub Res.cells Res.obj Res.nix Res.own Exit.then Exit.inBlock bodyPost Code.wp Next Post Kont
section
variable {W0 : World} {L : List Res} {F : List Fact} {R : Value → List Res → List Fact → Prop}
set_option maxRecDepth 100000
set_option maxHeartbeats 4000000
theorem snext_c (g : Glob W0) (v : Ver) (cl : Int) (hv : VerIn v) {a1 a2 : Option Addr} {k1 c1 k2 c2 : Nat} (m1 : fS v.pre a1 k1 c1 ∈ F) (m2 : fS v.build a2 k2 c2 ∈ F) (h : R (.bool true) L F) :
    ACalls Tryz.prog W0 3 #[vVer v a1 k1 c1 a2 k2 c2, .int .i64 cl] L F R := by
  have hn : Sub L F L (fS [] none 0 0 :: F) := Sub.nilF
  refine ACalls.weak hn ?_
  clear hn
  have ov := few_ok hv
  obtain ⟨na, nb, nc, ne, hN⟩ := next_form (fewV v) cl
  refine ACalls.body Tryz.func3 rfl Tryz.ntmps3 rfl ?_
  refine AC.seq (AC.region (AL.go (AO.box rfl rfl (fun b2 => ?_))))
  refine AL.go (AO.assign rfl rfl (AL.nil (AK.seqN (AC.seq (AC.region ?_)))))
  refine AL.go (AO.loadBA rfl rfl ?_)
  refine AL.go (AO.call rfl rfl (few_c v (by repeat (first | exact mem0 | assumption | refine memS ?_)) (by repeat (first | exact mem0 | assumption | refine memS ?_)) (fun p1 q1 r1 p2 q2 r2 => ?_)))
  refine AL.go (AO.storeBA rfl rfl rfl rfl ?_)
  refine AL.nil (AK.seqN (AC.seq (AC.region ?_)))
  refine AL.go (AO.loadBA rfl rfl ?_)
  refine AL.go (AO.move rfl rfl ?_)
  refine AL.go (AO.call rfl rfl (next_c (fewV v) ov cl (by repeat (first | exact mem0 | assumption | refine memS ?_)) (by repeat (first | exact mem0 | assumption | refine memS ?_)) ?_))
  rw [hN]
  refine AL.go (AO.move rfl rfl (AL.go (AO.extract rfl rfl rfl (AL.go (AO.extract rfl rfl rfl (AL.go (AO.alloc rfl (fun b5 => ?_))))))))
  refine AL.go (AO.storeBA rfl rfl rfl rfl ?_)
  refine AL.go (AO.assign rfl rfl (AL.nil (AK.seqN (AC.seq (AC.seq (AC.region ?_))))))
  refine AL.go (AO.loadBA rfl rfl ?_)
  refine AL.go (AO.call rfl rfl (rright_c (fewV v) ov (by repeat (first | exact mem0 | assumption | refine memS ?_)) (by repeat (first | exact mem0 | assumption | refine memS ?_)) (fun c17 => ?_) (fun c17 => ?_)))
  · refine AL.go (AO.not rfl rfl (AL.go (AO.move rfl rfl (AL.yes rfl rfl (AO.move rfl rfl ?_)))))
    refine AL.yes rfl rfl (AO.lss rfl rfl rfl (fun c21 => ?_) (fun c21 => ?_))
    · refine AL.go (AO.pickF rfl rfl rfl (AL.go (AO.move rfl rfl (AL.no rfl rfl rfl rfl (AL.no rfl rfl rfl rfl (AL.go (AO.pickT rfl rfl rfl (AL.nil ?_))))))))
      refine AK.seqN (AC.condT rfl (AC.seq (AC.region ?_)))
      refine AL.go (AO.call rfl rfl (alive_c g ?_))
      refine AL.go (AO.move rfl rfl (AL.yes rfl rfl (AO.move rfl rfl ?_)))
      first | have hb := hN.symm.trans (next_bad1 c17) | have hb := hN.symm.trans (next_bad2 c21) | have hb := hN.symm.trans (next_bad3 c25)
      simp only [Prod.mk.injEq, Ver.mk.injEq, and_true] at hb
      obtain ⟨⟨rfl, rfl, rfl⟩, rfl⟩ := hb
      refine AL.yes rfl rfl (AO.eql rfl rfl rfl (fun c30 => ?_) (fun c30 => absurd rfl c30))
      refine AL.go (AO.pickT rfl rfl rfl (AL.go (AO.move rfl rfl ?_)))
      refine AL.yes rfl rfl (AO.loadBA rfl rfl ?_)
      refine AL.yes rfl rfl (AO.build rfl rfl rfl ?_)
      refine AL.yes rfl rfl (AO.call rfl rfl (rlike_c (relV 0 0 0) (relV 0 0 0) (by repeat (first | exact mem0 | assumption | refine memS ?_)) (by repeat (first | exact mem0 | assumption | refine memS ?_)) (by repeat (first | exact mem0 | assumption | refine memS ?_)) (by repeat (first | exact mem0 | assumption | refine memS ?_)) (fun c35 => ?_) (fun c35 => absurd rfl c35)))
      refine AL.go (AO.pickT rfl rfl rfl (AL.go (AO.assign rfl rfl (AL.nil (AK.seqN (AC.ret (AK.seqR ?_)))))))
      exact AK.ret (L' := L) (F' := F) Tryz.results3 rfl (by repeat (first | exact Sub.refl _ _ | refine Sub.trans Sub.drop ?_ | refine Sub.trans Sub.dropF ?_)) h
    · refine AL.go (AO.pickF rfl rfl rfl (AL.go (AO.move rfl rfl (AL.yes rfl rfl (AO.move rfl rfl ?_)))))
      refine AL.yes rfl rfl (AO.gtr rfl rfl rfl (fun c25 => ?_) (fun c25 => ?_))
      · refine AL.go (AO.pickF rfl rfl rfl (AL.nil (AK.seqN (AC.condT rfl (AC.seq (AC.region ?_))))))
        refine AL.go (AO.call rfl rfl (alive_c g ?_))
        refine AL.go (AO.move rfl rfl (AL.yes rfl rfl (AO.move rfl rfl ?_)))
        first | have hb := hN.symm.trans (next_bad1 c17) | have hb := hN.symm.trans (next_bad2 c21) | have hb := hN.symm.trans (next_bad3 c25)
        simp only [Prod.mk.injEq, Ver.mk.injEq, and_true] at hb
        obtain ⟨⟨rfl, rfl, rfl⟩, rfl⟩ := hb
        refine AL.yes rfl rfl (AO.eql rfl rfl rfl (fun c30 => ?_) (fun c30 => absurd rfl c30))
        refine AL.go (AO.pickT rfl rfl rfl (AL.go (AO.move rfl rfl ?_)))
        refine AL.yes rfl rfl (AO.loadBA rfl rfl ?_)
        refine AL.yes rfl rfl (AO.build rfl rfl rfl ?_)
        refine AL.yes rfl rfl (AO.call rfl rfl (rlike_c (relV 0 0 0) (relV 0 0 0) (by repeat (first | exact mem0 | assumption | refine memS ?_)) (by repeat (first | exact mem0 | assumption | refine memS ?_)) (by repeat (first | exact mem0 | assumption | refine memS ?_)) (by repeat (first | exact mem0 | assumption | refine memS ?_)) (fun c35 => ?_) (fun c35 => absurd rfl c35)))
        refine AL.go (AO.pickT rfl rfl rfl (AL.go (AO.assign rfl rfl (AL.nil (AK.seqN (AC.ret (AK.seqR ?_)))))))
        exact AK.ret (L' := L) (F' := F) Tryz.results3 rfl (by repeat (first | exact Sub.refl _ _ | refine Sub.trans Sub.drop ?_ | refine Sub.trans Sub.dropF ?_)) h
      · refine AL.go (AO.pickF rfl rfl rfl (AL.nil (AK.seqN (AC.condF rfl (AC.skip (AK.seqN ?_))))))
        refine AC.seq (AC.region ?_)
        refine AL.go (AO.loadBA rfl rfl ?_)
        refine AL.go (AO.move rfl rfl ?_)
        refine AL.go (AO.call rfl rfl (rnext_c (fewV v) cl ov c21 c25 c17 (by repeat (first | exact mem0 | assumption | refine memS ?_)) (by repeat (first | exact mem0 | assumption | refine memS ?_)) ?_))
        rw [hN]
        refine AL.go (AO.alloc rfl (fun b7 => ?_))
        refine AL.go (AO.storeBA rfl rfl rfl rfl ?_)
        refine AL.nil (AK.seqN (AC.seq (AC.region ?_)))
        refine AL.go (AO.call rfl rfl (alive_c g ?_))
        refine AL.go (AO.move rfl rfl (AL.yes rfl rfl (AO.move rfl rfl (AL.yes rfl rfl (AO.field rfl rfl ?_)))))
        refine AL.yes rfl rfl (AO.loadB rfl rfl ?_)
        refine AL.yes rfl rfl (AO.eql rfl rfl rfl (fun c45 => ?_) (fun c45 => absurd rfl c45))
        refine AL.go (AO.pickT rfl rfl rfl (AL.go (AO.move rfl rfl ?_)))
        refine AL.yes rfl rfl (AO.loadBA rfl rfl ?_)
        refine AL.yes rfl rfl (AO.field rfl rfl ?_)
        refine AL.yes rfl rfl (AO.loadBA rfl rfl ?_)
        refine AL.yes rfl rfl (AO.call rfl rfl (rlike_c (relV na nb nc) (relV na nb nc) (by repeat (first | exact mem0 | assumption | refine memS ?_)) (by repeat (first | exact mem0 | assumption | refine memS ?_)) (by repeat (first | exact mem0 | assumption | refine memS ?_)) (by repeat (first | exact mem0 | assumption | refine memS ?_)) (fun c51 => ?_) (fun c51 => absurd rfl c51)))
        refine AL.go (AO.pickT rfl rfl rfl (AL.go (AO.assign rfl rfl (AL.nil (AK.seqN (AC.ret ?_))))))
        exact AK.ret (L' := L) (F' := F) Tryz.results3 rfl (by repeat (first | exact Sub.refl _ _ | refine Sub.trans Sub.drop ?_ | refine Sub.trans Sub.dropF ?_)) h
  · refine AL.go (AO.not rfl rfl (AL.go (AO.move rfl rfl (AL.no rfl rfl rfl rfl (AL.no rfl rfl rfl rfl (AL.go (AO.pickT rfl rfl rfl (AL.go (AO.move rfl rfl ?_)))))))))
    refine AL.no rfl rfl rfl rfl (AL.no rfl rfl rfl rfl (AL.go (AO.pickT rfl rfl rfl (AL.nil (AK.seqN (AC.condT rfl ?_))))))
    refine AC.seq (AC.region ?_)
    refine AL.go (AO.call rfl rfl (alive_c g ?_))
    refine AL.go (AO.move rfl rfl (AL.yes rfl rfl (AO.move rfl rfl ?_)))
    first | have hb := hN.symm.trans (next_bad1 c17) | have hb := hN.symm.trans (next_bad2 c21) | have hb := hN.symm.trans (next_bad3 c25)
    simp only [Prod.mk.injEq, Ver.mk.injEq, and_true] at hb
    obtain ⟨⟨rfl, rfl, rfl⟩, rfl⟩ := hb
    refine AL.yes rfl rfl (AO.eql rfl rfl rfl (fun c30 => ?_) (fun c30 => absurd rfl c30))
    refine AL.go (AO.pickT rfl rfl rfl (AL.go (AO.move rfl rfl ?_)))
    refine AL.yes rfl rfl (AO.loadBA rfl rfl ?_)
    refine AL.yes rfl rfl (AO.build rfl rfl rfl ?_)
    refine AL.yes rfl rfl (AO.call rfl rfl (rlike_c (relV 0 0 0) (relV 0 0 0) (by repeat (first | exact mem0 | assumption | refine memS ?_)) (by repeat (first | exact mem0 | assumption | refine memS ?_)) (by repeat (first | exact mem0 | assumption | refine memS ?_)) (by repeat (first | exact mem0 | assumption | refine memS ?_)) (fun c35 => ?_) (fun c35 => absurd rfl c35)))
    refine AL.go (AO.pickT rfl rfl rfl (AL.go (AO.assign rfl rfl (AL.nil (AK.seqN (AC.ret (AK.seqR ?_)))))))
    exact AK.ret (L' := L) (F' := F) Tryz.results3 rfl (by repeat (first | exact Sub.refl _ _ | refine Sub.trans Sub.drop ?_ | refine Sub.trans Sub.dropF ?_)) h
end
end Go.Sy
