/-
  DERIVED. GIVEN WITH THE SEED: THE PROGRAM's TIES (one call each: nine closed facts by the kernel) AND EACH ROW's TIE, after the 31st guide's Derived/Test/Toyas{Tie, Card}.lean. No idea stands in it: it is a product of the set-up. Laid BY PROGRAM, IN A SANDBOX (cutbox-door.mjs). By AI agents, Wed Nov 11 2026. No macro, syntax, notation, axiom, sorry.
-/
import Derived.Test.YtodaafgpfjcpgaaGreatDoorRows
import Derived.LaidByTextLater
import Derived.SevenTiedAt
import Derived.LaidSub
import Derived.LaidOnce
namespace Go.Proofs.YtodaafgpfjcpgaaGreatDoor
open Go
set_option maxRecDepth 100000
theorem seatTie1 : Tryz.prog.laidByTextLater [("indenture/scan.keys", Rows.laid_indenture_scan_keys), ("indenture/scan.ops", Rows.laid_indenture_scan_ops)] [.widerDeep, .widerDeep] true :=
  Program.laidByTextLater_by_one 19 8 34 (by kernel_rfl) (by kernel_rfl) (by kernel_rfl) (by kernel_rfl) (by kernel_rfl) (by kernel_rfl) (fun _ _ => by kernel_rfl)
theorem noOwnUnsafe : Tryz.pinned.checked.prog.headLifts.contains "ownunsafe" = false := by kernel_rfl
theorem tie : Tryz.prog.laidByTextLater [("indenture/scan.keys", Rows.laid_indenture_scan_keys), ("indenture/scan.ops", Rows.laid_indenture_scan_ops)] [.widerDeep, .widerDeep] true :=
  Program.laidByTextLater.sub seatTie1 ["indenture/scan.keys", "indenture/scan.ops"] (by kernel_rfl) (by kernel_rfl)
theorem writeBack_row_tie : Rows.writeBackRow.laidByTextAt .later Tryz.pinned [.widerDeep, .widerDeep] true :=
  OpenClaim.laidByTextAt_later rfl rfl tie noOwnUnsafe
theorem writeApart_row_tie : Rows.writeApartRow.laidByTextAt .later Tryz.pinned [.widerDeep, .widerDeep] true :=
  OpenClaim.laidByTextAt_later rfl rfl tie noOwnUnsafe
theorem writeBackUpto_row_tie : Rows.writeBackUptoRow.laidByTextAt .later Tryz.pinned [.widerDeep, .widerDeep] true :=
  OpenClaim.laidByTextAt_later rfl rfl tie noOwnUnsafe
theorem writeApartUpto_row_tie : Rows.writeApartUptoRow.laidByTextAt .later Tryz.pinned [.widerDeep, .widerDeep] true :=
  OpenClaim.laidByTextAt_later rfl rfl tie noOwnUnsafe
end Go.Proofs.YtodaafgpfjcpgaaGreatDoor
