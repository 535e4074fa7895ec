/- More rules: the remainder by a constant. No program in sight. -/
import Derived.Test.YtnbpkaffomklpaaGreatDoorFwI
import Derived.Laws.Small
namespace Go.Sy
open Go Go.RowKit

section
variable {P : Program} {W0 : World} {n : Nat} {K : Act → World → Prop} {Q : Po} {ρ : Rho} {L : List Res} {F : List Fact}
theorem AO.rem {x y : Operand} {a b : Int} {d : Tmp} {t yt ty : TypeId} {pos : String} {af : Array Edge} {g : Option (Nat × Bool)} (hx : ev ρ x = some (.int .i64 a)) (hy : ev ρ y = some (.int .i64 b)) (hb : b ≠ 0) (hd : Nat.blt d n = true)
    (h : AT W0 n K ((d, .int .i64 (a.tmod b)) :: ρ) L F) : AO P W0 n K ⟨some d, .binOp .rem t x y yt, ty, pos, af, g⟩ Q ρ L F :=
  AO.val hd (fun s w st => by simp [execOp, ev_eval st.slots hx, ev_eval st.slots hy, eqGuard_rem, binOp_rem, Op.intDiv, hb]) h
/-- A loop that leaves its own blocks and its facts as they are. -/
theorem AC.loopC {ι : Type} {c : Code} (I : ι → Prop) (S : ι → Rho) (μ : ι → Nat) (i0 : ι) (hI : I i0) (hr : SubR ρ (S i0))
    (round : ∀ i, I i → AC P W0 n c (Exit.then (Next W0 n I S (fun _ => L) (fun _ => F) μ i) Q) (S i) L F) : AC P W0 n (.loop c) Q ρ L F :=
  AC.loop I S (fun _ => L) (fun _ => F) μ i0 hI hr (Sub.refl _ _) round
end
/-- What stands between 0 and 3, of any integer. -/
theorem class_in (c : Int) : -3 ≤ c.tmod 4 ∧ c.tmod 4 ≤ 3 ∧ 0 ≤ (c.tmod 4 + 4).tmod 4 ∧ (c.tmod 4 + 4).tmod 4 ≤ 3 := by
  have key : ∀ x : Int, -3 ≤ x.tmod 4 ∧ x.tmod 4 ≤ 3 ∧ (0 ≤ x → 0 ≤ x.tmod 4) := by
    intro x
    rw [tmod_eq_if]
    split <;> omega
  have h1 := key c
  have h2 := key (c.tmod 4 + 4)
  omega
end Go.Sy
