/- The release of a pre-release: what each statement asks besides. -/
import Derived.Test.YtnbpkaffomklpaaGreatDoorSem8
namespace Go.Sy
open Go Go.Proofs Go.RowKit

def aliveT : List UInt8 := [49, 46, 51, 46, 48, 45, 114, 99, 46, 49, 43, 98]
def aliveV : Ver := ⟨1, 3, 0, [[114, 99], [49]], [[98]]⟩
theorem alive_parse : parseS aliveT = (aliveV, 0) := by decide
theorem alive_next : nextS aliveV 1 = (relV 1 3 0, 0) := by decide
theorem alive_text : textS (relV 1 3 0) = [49, 46, 51, 46, 48] := by
  have d : ∀ u, u < 10 → Lib.decDigits u = [UInt8.ofNat (48 + u)] := fun u hu => by unfold Lib.decDigits; simp [hu]
  simp [textS, Lib.itoa, d]
theorem alive_ok : VerOk aliveV := ⟨by simp [Sml, aliveV], by simp [Sml, aliveV], by decide, by decide, by decide⟩
theorem rel_ok {a b c : Int} (h1 : -9223372036854775808 ≤ a ∧ a ≤ 9223372036854775807) (h2 : -9223372036854775808 ≤ b ∧ b ≤ 9223372036854775807) (h3 : -9223372036854775808 ≤ c ∧ c ≤ 9223372036854775807) : VerOk (relV a b c) := ⟨by simp [Sml], by simp [Sml], h1, h2, h3⟩

attribute [local irreducible] AC AT AO AK AH ACalls Sub Res.cells Res.obj Res.nix Res.own Exit.then Exit.inBlock bodyPost Code.wp Next Post Kont
section
variable {W0 : World} {L : List Res} {F : List Fact} {R : Value → List Res → List Fact → Prop}
set_option maxRecDepth 100000
set_option maxHeartbeats 4000000
theorem alive_c (g : Glob W0) (h : R (.bool true) L F) : ACalls Tryz.prog W0 8 #[] L F R := by
  refine ACalls.body Tryz.func8 rfl Tryz.ntmps8 rfl ?_
  refine AC.seq (AC.region (AL.go (AO.assign rfl rfl (AL.nil (AK.seqN (AC.seq ?_))))))
  refine AC.region ?_
  refine AL.go (AO.call rfl rfl (parse_c g aliveT (by decide) (fun V e he a8 k8 x8 d8 l8 m8 => ?_)))
  rw [alive_parse] at he
  cases he
  refine AL.go (AO.move rfl rfl (AL.go (AO.extract rfl rfl rfl (AL.go (AO.extract rfl rfl rfl (AL.go (AO.alloc rfl (fun b1 => ?_))))))))
  refine AL.go (AO.storeBA rfl rfl rfl rfl ?_)
  refine AL.go (AO.assign rfl rfl (AL.nil (AK.seqN (AC.seq (AC.region ?_)))))
  refine AL.go (AO.loadBA rfl rfl ?_)
  refine AL.go (AO.call rfl rfl (next_c aliveV alive_ok 1 (by repeat (first | exact mem0 | assumption | refine memS ?_)) (by repeat (first | exact mem0 | assumption | refine memS ?_)) ?_))
  rw [alive_next]
  refine AT.sub (show Sub _ _ _ (fS [] none 0 0 :: _) from Sub.nilF) ?_
  refine AL.go (AO.move rfl rfl (AL.go (AO.extract rfl rfl rfl (AL.go (AO.extract rfl rfl rfl (AL.go (AO.alloc rfl (fun b3 => ?_))))))))
  refine AL.go (AO.storeBA rfl rfl rfl rfl ?_)
  refine AL.go (AO.assign rfl rfl (AL.nil (AK.seqN (AC.seq (AC.region ?_)))))
  refine AL.go (AO.loadBA rfl rfl ?_)
  refine AL.go (AO.call rfl rfl (text_c g (relV 1 3 0) (rel_ok (by decide) (by decide) (by decide)) (by repeat (first | exact mem0 | assumption | refine memS ?_)) (by repeat (first | exact mem0 | assumption | refine memS ?_)) (fun c18 => absurd c18 (by decide)) (fun c18 => ?_)))
  rw [alive_text]
  refine AL.go (AO.move rfl rfl (AL.go (AO.extract rfl rfl rfl (AL.go (AO.extract rfl rfl rfl (AL.go (AO.assign rfl rfl (AL.go (AO.assign rfl rfl (AL.nil ?_))))))))))
  refine AK.seqN (AC.seq (AC.region (AL.go (AO.move rfl rfl ?_))))
  refine AL.go (AO.eql rfl rfl rfl (fun c22 => ?_) (fun c22 => ?_))
  · refine AL.go (AO.move rfl rfl (AL.yes rfl rfl (AO.move rfl rfl ?_)))
    refine AL.yes rfl rfl (AO.eql rfl rfl rfl (fun c25 => ?_) (fun c25 => ?_))
    · refine AL.go (AO.pickT rfl rfl rfl (AL.go (AO.move rfl rfl (AL.yes rfl rfl (AO.move rfl rfl ?_)))))
      refine AL.yes rfl rfl (AO.eql rfl rfl rfl (fun c29 => ?_) (fun c29 => ?_))
      · refine AL.go (AO.pickT rfl rfl rfl (AL.go (AO.move rfl rfl (AL.yes rfl rfl (AO.move rfl rfl ?_)))))
        refine AL.yes rfl rfl (AO.eqlS rfl rfl rfl (fun c33 => ?_) (fun c33 => ?_))
        · refine AL.go (AO.pickT rfl rfl rfl (AL.go (AO.assign rfl rfl (AL.nil (AK.seqN (AC.ret ?_))))))
          first | exact absurd rfl c22 | exact absurd rfl c25 | exact absurd rfl c29 | exact absurd rfl c33 | exact AK.ret (L' := L) (F' := F) Tryz.results8 rfl (by repeat (first | exact Sub.refl _ _ | refine Sub.trans Sub.drop ?_ | refine Sub.trans Sub.dropF ?_)) h
        · refine AL.go (AO.pickT rfl rfl rfl (AL.go (AO.assign rfl rfl (AL.nil (AK.seqN (AC.ret ?_))))))
          first | exact absurd rfl c22 | exact absurd rfl c25 | exact absurd rfl c29 | exact absurd rfl c33 | exact AK.ret (L' := L) (F' := F) Tryz.results8 rfl (by repeat (first | exact Sub.refl _ _ | refine Sub.trans Sub.drop ?_ | refine Sub.trans Sub.dropF ?_)) h
      · refine AL.go (AO.pickT rfl rfl rfl (AL.go (AO.move rfl rfl (AL.no rfl rfl rfl rfl (AL.no rfl rfl rfl rfl (AL.go (AO.pickF rfl rfl rfl (AL.go (AO.assign rfl rfl ?_)))))))))
        refine AL.nil (AK.seqN (AC.ret ?_))
        first | exact absurd rfl c22 | exact absurd rfl c25 | exact absurd rfl c29 | exact absurd rfl c33 | exact AK.ret (L' := L) (F' := F) Tryz.results8 rfl (by repeat (first | exact Sub.refl _ _ | refine Sub.trans Sub.drop ?_ | refine Sub.trans Sub.dropF ?_)) h
    · refine AL.go (AO.pickT rfl rfl rfl (AL.go (AO.move rfl rfl (AL.no rfl rfl rfl rfl (AL.no rfl rfl rfl rfl (AL.go (AO.pickF rfl rfl rfl (AL.go (AO.move rfl rfl ?_)))))))))
      refine AL.no rfl rfl rfl rfl (AL.no rfl rfl rfl rfl (AL.go (AO.pickF rfl rfl rfl (AL.go (AO.assign rfl rfl (AL.nil (AK.seqN ?_)))))))
      refine AC.ret ?_
      first | exact absurd rfl c22 | exact absurd rfl c25 | exact absurd rfl c29 | exact absurd rfl c33 | exact AK.ret (L' := L) (F' := F) Tryz.results8 rfl (by repeat (first | exact Sub.refl _ _ | refine Sub.trans Sub.drop ?_ | refine Sub.trans Sub.dropF ?_)) h
  · refine AL.go (AO.move rfl rfl (AL.no rfl rfl rfl rfl (AL.no rfl rfl rfl rfl (AL.go (AO.pickF rfl rfl rfl (AL.go (AO.move rfl rfl (AL.no rfl rfl rfl rfl ?_))))))))
    refine AL.no rfl rfl rfl rfl (AL.go (AO.pickF rfl rfl rfl (AL.go (AO.move rfl rfl (AL.no rfl rfl rfl rfl (AL.no rfl rfl rfl rfl (AL.go (AO.pickF rfl rfl rfl ?_))))))))
    refine AL.go (AO.assign rfl rfl (AL.nil (AK.seqN (AC.ret ?_))))
    first | exact absurd rfl c22 | exact absurd rfl c25 | exact absurd rfl c29 | exact absurd rfl c33 | exact AK.ret (L' := L) (F' := F) Tryz.results8 rfl (by repeat (first | exact Sub.refl _ _ | refine Sub.trans Sub.drop ?_ | refine Sub.trans Sub.dropF ?_)) h
end
end Go.Sy
