/- Joined of my own texts: FwS. -/
import Derived.Test.YtodaafgpfjcpgaaGreatDoorX24
import Derived.Deep.Slices
namespace Go.Sy
open Go Go.Proofs Go.RowKit Go.ChangeShapes Go.WideShapes Go.Joins Go.Deep
section
variable {Ht : Type} {enc : TypeId × Value → Ht} {P : Program} {W : World}
def RowReads (W : World) (cs : List Value) (ds : List D) : Prop := ∀ (j : Nat) (d : D), ds[j]? = some d → ∃ u, cs[j]? = some u ∧ CR (cellsOfW W) u d
theorem RowReads.nil : RowReads W [] [] := fun j d h => by simp at h
theorem RowReads.cons {u : Value} {cs : List Value} {d : D} {ds : List D} (h1 : CR (cellsOfW W) u d) (h : RowReads W cs ds) : RowReads W (u :: cs) (d :: ds) := fun j e he => by
  cases j with
  | zero => simp at he; subst he; exact ⟨u, rfl, h1⟩
  | succ j => exact h j e (by simpa using he)
end
end Go.Sy
