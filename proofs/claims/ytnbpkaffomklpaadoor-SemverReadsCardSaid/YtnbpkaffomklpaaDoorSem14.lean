/- The statement on what is read: the walk. -/
import Derived.Test.YtnbpkaffomklpaaDoorRefE
namespace Go.Sy
open Go Go.Proofs Go.RowKit

attribute [local irreducible] AC AT AO AK AH ACalls Sub Res.cells Res.obj Res.nix Res.own Exit.then Exit.inBlock bodyPost Code.wp Next Post Kont
section
variable {W0 : World} {L : List Res} {F : List Fact} {R : Value → List Res → List Fact → Prop}
set_option maxRecDepth 100000
set_option maxHeartbeats 4000000
theorem reads_c (g : Glob W0) (s : List UInt8) (h : R (.bool true) L F) : ACalls Tryd.prog W0 3 #[S s] L F R := by
  refine ACalls.body Tryd.func3 rfl Tryd.ntmps3 rfl ?_
  refine AC.seq (AC.region (AL.go (AO.assign rfl rfl (AL.nil (AK.seqN (AC.seq ?_))))))
  refine AC.region (AL.go (AO.move rfl rfl (AL.go (AO.move rfl rfl (AL.go (AO.lenS rfl rfl (AL.go (AO.min rfl rfl rfl ?_))))))))
  refine AL.go (AO.sliceSH (j' := min s.length 900) rfl rfl rfl (by omega) (by omega) ?_)
  have hlen : (s.take (min s.length 900)).length ≤ 900 := by simp; omega
  generalize s.take (min s.length 900) = s' at hlen ⊢
  refine AL.go (AO.assign rfl rfl (AL.nil (AK.seqN (AC.seq (AC.region (AL.go (AO.move rfl rfl ?_)))))))
  refine AL.go (AO.call rfl rfl (parse_c g s' (by omega) (fun V13 e13 h13 x1 y1 z1 x2 y2 z2 => ?_)))
  refine AL.go (AO.move rfl rfl (AL.go (AO.extract rfl rfl rfl (AL.go (AO.extract rfl rfl rfl (AL.go (AO.alloc rfl (fun b3 => ?_))))))))
  refine AL.go (AO.storeBA rfl rfl rfl rfl ?_)
  refine AL.go (AO.assign rfl rfl (AL.nil (AK.seqN (AC.seq (AC.region (AL.go (AO.move rfl rfl ?_)))))))
  refine AL.go (AO.call rfl rfl (rparse_c s' hlen (fun V17 e17 h17 x3 y3 z3 x4 y4 z4 => ?_)))
  have hE := h13.symm.trans h17
  simp only [Prod.mk.injEq] at hE
  obtain ⟨rfl, rfl⟩ := hE
  refine AL.go (AO.alloc rfl (fun b5 => ?_))
  refine AL.go (AO.storeBA rfl rfl rfl rfl ?_)
  refine AL.nil (AK.seqN (AC.seq (AC.region ?_)))
  refine AL.go (AO.call rfl rfl (alive_c g ?_))
  refine AL.go (AO.move rfl rfl (AL.yes rfl rfl (AO.move rfl rfl (AL.yes rfl rfl (AO.field rfl rfl ?_)))))
  refine AL.yes rfl rfl (AO.loadB rfl rfl ?_)
  refine AL.yes rfl rfl (AO.eql rfl rfl rfl (fun c23 => ?_) (fun c23 => absurd rfl c23))
  refine AL.go (AO.pickT rfl rfl rfl (AL.go (AO.move rfl rfl ?_)))
  refine AL.yes rfl rfl (AO.loadBA rfl rfl ?_)
  refine AL.yes rfl rfl (AO.field rfl rfl ?_)
  refine AL.yes rfl rfl (AO.loadBA rfl rfl ?_)
  refine AL.yes rfl rfl (AO.call rfl rfl (rlike_c V13 V13 (by repeat (first | exact mem0 | assumption | refine memS ?_)) (by repeat (first | exact mem0 | assumption | refine memS ?_)) (by repeat (first | exact mem0 | assumption | refine memS ?_)) (by repeat (first | exact mem0 | assumption | refine memS ?_)) (fun c29 => ?_) (fun c29 => absurd rfl c29)))
  refine AL.go (AO.pickT rfl rfl rfl (AL.go (AO.assign rfl rfl (AL.nil (AK.seqN (AC.ret ?_))))))
  exact AK.ret (L' := L) (F' := F) Tryd.results3 rfl (by repeat (first | exact Sub.refl _ _ | refine Sub.trans Sub.drop ?_ | refine Sub.trans Sub.dropF ?_)) h
end
end Go.Sy
