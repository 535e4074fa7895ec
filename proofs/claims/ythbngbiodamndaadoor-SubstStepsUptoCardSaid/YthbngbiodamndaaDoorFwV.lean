/- The remainder in a region that draws; what stands within a row's places. No program in sight. -/
import Derived.Test.YthbngbiodamndaaDoorFwU
namespace Go.Sy
open Go Go.RowKit

theorem Y.rem {P : Program} {n : Nat} {ρ : Rho} {T : World → Prop} {d : Option Tmp} {ty t yt : TypeId} {pos : String} {af : Array Edge} {g : Option (Nat × Bool)} {x y : Operand} {a b : Int} (hx : ev ρ x = some (.int .i64 a)) (hy : ev ρ y = some (.int .i64 b)) (hb : b ≠ 0) :
    Yd P n ρ T ⟨d, .binOp .rem t x y yt, ty, pos, af, g⟩ (.int .i64 (a.tmod b)) := ⟨fun s w st _ => by simp [execOp, ev_eval st hx, ev_eval st hy, eqGuard_rem, binOp_rem, Op.intDiv, hb]⟩
/-- Any integer, brought among the places of a row. -/
theorem mod_in (c : Int) {n : Nat} (hn : 0 < n) : -(n : Int) < c.tmod n ∧ c.tmod n < n ∧ 0 ≤ (c.tmod n + n).tmod n ∧ (c.tmod n + n).tmod n < n := by
  have hp : (0 : Int) < n := by omega
  have h1 := Int.lt_tmod_of_pos c hp
  have h2 := Int.tmod_lt_of_pos c hp
  have h3 := Int.tmod_lt_of_pos (c.tmod n + n) hp
  have h4 := Int.tmod_nonneg (b := (n : Int)) (show (0 : Int) ≤ c.tmod n + n by omega)
  omega
theorem mod_nat (i n : Nat) : ((i : Int).tmod n) = ((i % n : Nat) : Int) := by
  rw [Int.tmod_eq_emod_of_nonneg (by omega)]; omega
end Go.Sy
