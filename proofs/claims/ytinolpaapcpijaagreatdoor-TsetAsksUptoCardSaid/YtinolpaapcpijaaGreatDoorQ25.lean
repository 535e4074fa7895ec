/- Joined of my own texts: TsCA1. -/
import Derived.Test.YtinolpaapcpijaaGreatDoorQ24
namespace Go.Proofs.YtinolpaapcpijaaGreatDoor
open Go Go.Sy Go.RowKit Go.ChangeShapes Go.WideShapes
set_option maxRecDepth 100000
theorem tasks_said : Rows.TsetAsksUptoSaid :=
  OpenClaim.holds_of_cond 6 Tryz.f6 rfl rfl rfl rfl rfl rfl rfl ⟨rfl, rfl, rfl, rfl, rfl⟩ rfl rfl rfl rfl rfl Ja Tryz.func6 Ja
    (of_decide_eq_true Ja) (by unfold Func.isWrapper; first | (rw [if_pos (by decide +kernel)]; kernel_rfl) | (rw [if_neg (by decide +kernel)]; exact ⟨rfl, rfl⟩))
    (fun os started H enc _ F => by rw [OpenClaim.pre_eq_preRow]; exact tasks_lifted os started H enc F)
end Go.Proofs.YtinolpaapcpijaaGreatDoor
