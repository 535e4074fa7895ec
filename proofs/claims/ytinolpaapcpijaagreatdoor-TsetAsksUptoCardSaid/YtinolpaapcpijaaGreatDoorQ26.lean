/- Joined of my own texts: TsCA. -/
import Derived.Test.YtinolpaapcpijaaGreatDoorQ25
namespace Go.Proofs.YtinolpaapcpijaaGreatDoor
open Go Go.Sy Go.RowKit Go.ChangeShapes Go.WideShapes
set_option maxRecDepth 100000
theorem tasks_plain (f : FuncId) (fn : Func) (hf : Tryz.pinned.checked.prog.funcNamed "indenture/indenturelaw14.TsetAsks" = some f) (hfn : Tryz.pinned.checked.prog.funcs[f]? = some fn) :
    false = Tryz.pinned.checked.prog.looks [] ∧ ∀ (j : Nat) t, fn.params[j]? = some t → Tryz.pinned.checked.prog.wantsStandIn t = false := by
  obtain rfl : f = 6 := Option.some.inj ((show Tryz.prog.funcNamed "indenture/indenturelaw14.TsetAsks" = some 6 by kernel_rfl).symm.trans hf) |>.symm
  obtain rfl : fn = Tryz.f6 := (Option.some.inj (Tryz.func6.symm.trans hfn)).symm
  refine ⟨by kernel_rfl, fun j t ht => ?_⟩
  rw [Tryz.params6] at ht
  have hm := Array.mem_of_getElem? ht
  simp only [List.mem_toArray, List.mem_cons, List.mem_nil_iff, or_false] at hm
  rcases hm with rfl | rfl | rfl | rfl
  · exact (show Tryz.prog.wantsStandIn 25 = false by kernel_rfl)
  · exact (show Tryz.prog.wantsStandIn 27 = false by kernel_rfl)
  · exact (show Tryz.prog.wantsStandIn 3 = false by kernel_rfl)
  exact (show Tryz.prog.wantsStandIn 3 = false by kernel_rfl)
theorem tsetAsksUpto_holds : Rows.TsetAsksUptoCardSaid :=
  Claim7.holds_tied_plain_at .later [] _ _ _ _ tasks_said (fun _ h => by cases h) Ja (fun _ h => by cases h) tsetAsksUpto_row_tie rfl ⟨rfl, rfl⟩ Ja rfl tasks_plain Ja
end Go.Proofs.YtinolpaapcpijaaGreatDoor
