/- Joined of my own texts: TbCA1. -/
import Derived.Test.YtinolpaapcpijaaGreatDoorW24
namespace Go.Proofs.YtinolpaapcpijaaGreatDoor
open Go Go.Sy Go.RowKit Go.ChangeShapes Go.WideShapes
set_option maxRecDepth 100000
theorem tboth_said : Rows.TsetBothUptoSaid :=
  OpenClaim.holds_of_cond 7 Tryz.f7 rfl rfl rfl rfl rfl rfl rfl ⟨rfl, rfl, rfl, rfl, rfl⟩ rfl rfl rfl rfl rfl HV Tryz.func7 HV
    (of_decide_eq_true HV) (by unfold Func.isWrapper; first | (rw [if_pos (by decide +kernel)]; kernel_rfl) | (rw [if_neg (by decide +kernel)]; exact ⟨rfl, rfl⟩))
    (fun os started H enc _ F => by rw [OpenClaim.pre_eq_preRow]; exact tboth_lifted os started H enc F)
end Go.Proofs.YtinolpaapcpijaaGreatDoor
