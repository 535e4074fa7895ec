/- Joined of my own texts: FwN. -/
import Derived.Test.YtodaafgpfjcpgaaDoorW6
import Derived.Laws.Small
import Derived.Laws.BitsAllLaws
namespace Go.Sy
open Go Go.RowKit
section
variable {P : Program} {W0 : World} {n : Nat} {K : Act → World → Prop} {Q : Po} {ρ : Rho} {L : List Res} {F : List Fact} {ro : Option Nat} {ds : List Deferred}
theorem AO.buildSlice0 {d : Tmp} {t e ty : TypeId} {sz bytes : Nat} {pos : String} {af : Array Edge} {g : Option (Nat × Bool)} [ht : SlT P t e sz bytes] (hd : Nat.blt d n = true)
    (h : ∀ b, AT W0 n K ((d, .slice (some ⟨b, 0, none⟩) 0 0) :: ρ) (Res.cells b #[] e :: L) F) : AO P W0 n K ⟨some d, .buildSlice t 0 #[], ty, pos, af, g⟩ Q ρ L F := by
  intro a w s
  obtain ⟨ti, z', hti, h1, h2, h3, h4⟩ := ht.info
  have hsize : (sizeOf e).run P w = .ok sz w := by simp [sizeOf, typeInfo, hti, h1]
  have hr : (execOp a.eval ⟨some d, .buildSlice t 0 #[], ty, pos, af, g⟩).run P w = .ok (.value (.slice (some ⟨w.heap.size, 0, none⟩) 0 0)) (w.alloc (.cells #[] e)) := by
    have e0 : (Array.map (fun _ => (default : Value)) (Array.range 0)) = #[] := Array.eq_empty_of_size_eq_zero (by simp)
    simp [execOp, Instr.buildSlice, Sem.run_bind, run_underlying ht.und, hsize, Result.andThen, Instr.fill, newRow]
    rw [e0]
  refine ⟨not_defer hr (fun _ e => by cases e), ?_⟩
  simp only [hr, owR]
  exact h _ _ _ ⟨s.slots.put (Nat.le_of_ble_eq_true hd) _, s.sat.alloc _ _⟩
end
end Go.Sy
namespace Go.Sy
abbrev GQ := @AO.buildSlice0
end Go.Sy
