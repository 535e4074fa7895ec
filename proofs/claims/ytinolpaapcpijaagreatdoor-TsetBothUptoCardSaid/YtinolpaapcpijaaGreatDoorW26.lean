/- Joined of my own texts: TbCA. -/
import Derived.Test.YtinolpaapcpijaaGreatDoorW25
namespace Go.Proofs.YtinolpaapcpijaaGreatDoor
open Go Go.Sy Go.RowKit Go.ChangeShapes Go.WideShapes
set_option maxRecDepth 100000
theorem tboth_plain (f : FuncId) (fn : Func) (hf : Tryz.pinned.checked.prog.funcNamed "indenture/indenturelaw14.TsetBoth" = some f) (hfn : Tryz.pinned.checked.prog.funcs[f]? = some fn) :
    false = Tryz.pinned.checked.prog.looks [] ∧ ∀ (j : Nat) t, fn.params[j]? = some t → Tryz.pinned.checked.prog.wantsStandIn t = false := by
  obtain rfl : f = 7 := Option.some.inj ((show Tryz.prog.funcNamed "indenture/indenturelaw14.TsetBoth" = some 7 by kernel_rfl).symm.trans hf) |>.symm
  obtain rfl : fn = Tryz.f7 := (Option.some.inj (Tryz.func7.symm.trans hfn)).symm
  refine ⟨by kernel_rfl, fun j t ht => ?_⟩
  rw [Tryz.params7] at ht
  have hm := Array.mem_of_getElem? ht
  simp only [List.mem_toArray, List.mem_cons, List.mem_nil_iff, or_false] at hm
  rcases hm with rfl | rfl | rfl | rfl
  · exact (show Tryz.prog.wantsStandIn 25 = false by kernel_rfl)
  · exact (show Tryz.prog.wantsStandIn 3 = false by kernel_rfl)
  · exact (show Tryz.prog.wantsStandIn 3 = false by kernel_rfl)
  exact (show Tryz.prog.wantsStandIn 3 = false by kernel_rfl)
theorem tsetBothUpto_holds : Rows.TsetBothUptoCardSaid :=
  Claim7.holds_tied_plain_at .later [] _ _ _ _ tboth_said (fun _ h => by cases h) HV (fun _ h => by cases h) tsetBothUpto_row_tie rfl ⟨rfl, rfl⟩ HV rfl tboth_plain HV
end Go.Proofs.YtinolpaapcpijaaGreatDoor
