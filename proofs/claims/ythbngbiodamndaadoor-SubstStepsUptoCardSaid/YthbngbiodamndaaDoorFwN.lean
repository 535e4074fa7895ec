/- More rules: the remainder by a constant. No program in sight. -/
import Derived.Test.YthbngbiodamndaaDoorFwI
import Derived.Laws.Small
import Derived.Laws.BitsAllLaws
namespace Go.Sy
open Go Go.RowKit

section
variable {P : Program} {W0 : World} {n : Nat} {K : Act → World → Prop} {Q : Po} {ρ : Rho} {L : List Res} {F : List Fact}
theorem AO.rem {x y : Operand} {a b : Int} {d : Tmp} {t yt ty : TypeId} {pos : String} {af : Array Edge} {g : Option (Nat × Bool)} (hx : ev ρ x = some (.int .i64 a)) (hy : ev ρ y = some (.int .i64 b)) (hb : b ≠ 0) (hd : Nat.blt d n = true)
    (h : AT W0 n K ((d, .int .i64 (a.tmod b)) :: ρ) L F) : AO P W0 n K ⟨some d, .binOp .rem t x y yt, ty, pos, af, g⟩ Q ρ L F :=
  AO.val hd (fun s w st => by simp [execOp, ev_eval st.slots hx, ev_eval st.slots hy, eqGuard_rem, binOp_rem, Op.intDiv, hb]) h
/-- An empty slice that is not nil. -/
theorem AO.buildSlice0 {d : Tmp} {t e ty : TypeId} {sz bytes : Nat} {pos : String} {af : Array Edge} {g : Option (Nat × Bool)} [ht : SlT P t e sz bytes] (hd : Nat.blt d n = true)
    (h : ∀ b, AT W0 n K ((d, .slice (some ⟨b, 0, none⟩) 0 0) :: ρ) (Res.cells b #[] e :: L) F) : AO P W0 n K ⟨some d, .buildSlice t 0 #[], ty, pos, af, g⟩ Q ρ L F := by
  intro a w s
  obtain ⟨ti, z', hti, h1, h2, h3, h4⟩ := ht.info
  have hsize : (sizeOf e).run P w = .ok sz w := by simp [sizeOf, typeInfo, hti, h1]
  have hr : (execOp a.eval ⟨some d, .buildSlice t 0 #[], ty, pos, af, g⟩).run P w = .ok (.value (.slice (some ⟨w.heap.size, 0, none⟩) 0 0)) (w.alloc (.cells #[] e)) := by
    have e0 : (Array.map (fun _ => (default : Value)) (Array.range 0)) = #[] := Array.eq_empty_of_size_eq_zero (by simp)
    simp [execOp, Instr.buildSlice, Sem.run_bind, run_underlying ht.und, hsize, Result.andThen, Instr.fill, newRow]
    rw [e0]
  simp only [Oper.wp, hr, Oper.upon]
  exact h _ _ _ ⟨s.slots.put (Nat.le_of_ble_eq_true hd) _, s.sat.alloc _ _⟩
theorem AO.subU {x y : Operand} {a b : Int} {d : Tmp} {t yt ty : TypeId} {pos : String} {af : Array Edge} {g : Option (Nat × Bool)} (hx : ev ρ x = some (.int .u8 a)) (hy : ev ρ y = some (.int .u8 b)) (hd : Nat.blt d n = true) (h1 : 0 ≤ a - b) (h2 : a - b ≤ 255)
    (h : AT W0 n K ((d, .int .u8 (a - b)) :: ρ) L F) : AO P W0 n K ⟨some d, .binOp .sub t x y yt, ty, pos, af, g⟩ Q ρ L F :=
  AO.val hd (fun s w st => by
    have e : IntKind.u8.wrap (a - b) = a - b := by rw [IntKind.wrap_u8']; omega
    simp [execOp, ev_eval st.slots hx, ev_eval st.slots hy, eqGuard_sub, binOp_sub, Op.intArith, e]) h
theorem AO.convI {x : Operand} {k : IntKind} {a : Int} {d : Tmp} {src dst ty : TypeId} {td : TypeDesc} {pos : String} {af : Array Edge} {g : Option (Nat × Bool)} (hs : P.underlying src = some td) (ht : P.underlying dst = some (.int .i64)) (hx : ev ρ x = some (.int k a)) (hd : Nat.blt d n = true) (h1 : -9223372036854775808 ≤ a) (h2 : a ≤ 9223372036854775807)
    (h : AT W0 n K ((d, .int .i64 a) :: ρ) L F) : AO P W0 n K ⟨some d, .convert src dst x, ty, pos, af, g⟩ Q ρ L F :=
  AO.val hd (fun s w st => by
    have hk : P.intKind dst = .i64 := by simp [Program.intKind, ht]
    have := run_convert_int (P := P) (w := w) src dst k a (by rw [hs]; rfl) (by rw [hk]; exact ht)
    rw [hk, wrap_i64 h1 h2] at this
    simp [execOp, ev_eval st.slots hx, this]) h
/-- A loop that leaves its own blocks and its facts as they are. -/
theorem AC.loopC {ι : Type} {c : Code} (I : ι → Prop) (S : ι → Rho) (μ : ι → Nat) (i0 : ι) (hI : I i0) (hr : SubR ρ (S i0))
    (round : ∀ i, I i → AC P W0 n c (Exit.then (Next W0 n I S (fun _ => L) (fun _ => F) μ i) Q) (S i) L F) : AC P W0 n (.loop c) Q ρ L F :=
  AC.loop I S (fun _ => L) (fun _ => F) μ i0 hI hr (Sub.refl _ _) round
end
/-- What stands between 0 and 3, of any integer. -/
theorem class_in (c : Int) : -3 ≤ c.tmod 4 ∧ c.tmod 4 ≤ 3 ∧ 0 ≤ (c.tmod 4 + 4).tmod 4 ∧ (c.tmod 4 + 4).tmod 4 ≤ 3 := by
  have key : ∀ x : Int, -3 ≤ x.tmod 4 ∧ x.tmod 4 ≤ 3 ∧ (0 ≤ x → 0 ≤ x.tmod 4) := by
    intro x
    rw [tmod_eq_if]
    split <;> omega
  have h1 := key c
  have h2 := key (c.tmod 4 + 4)
  omega
end Go.Sy
