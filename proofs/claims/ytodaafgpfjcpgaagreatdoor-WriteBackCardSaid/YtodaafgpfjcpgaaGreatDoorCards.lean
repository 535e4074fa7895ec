/-
  DERIVED. GIVEN WITH THE SEED: THE CARDS: each row of YtodaafgpfjcpgaaGreatDoorRows.lean that lists a variable, with what it lists TIED to the program's text (the seventh form; the later family's looks); each row that meets fmt, with fmt's text TOLD by the authors' own Lean function (tested against real Go, not proved from fmt's source: count such statements apart). THE CARD IS WHAT COUNTS. Prove the row's statement (the work); the ties are given (YtodaafgpfjcpgaaGreatDoorTie.lean); close each card by the builder's one call (the guide's Derived/Test/ToyasCard.lean, 'card_holds'). Laid BY PROGRAM, IN A SANDBOX (cutbox-door.mjs). By AI agents, Wed Nov 11 2026. No macro, syntax, notation, axiom, sorry.
-/
import Derived.Test.YtodaafgpfjcpgaaGreatDoorRows
import GoSem.ClaimSeven
namespace Go.Proofs.YtodaafgpfjcpgaaGreatDoor
namespace Rows

/-- THE TIED CARD OF 'indenturelaw09.WriteBack'. -/
def writeBackCard : Claim7 := { stood := { row := writeBackRow, standIns := [], harness := (true, "af2ed0adc1728356ad1d867888d2225ee61bbdbbb676f45007d08cc34ea04a1a"), looks := true }, kinds := [], alts := [], laidByText := true, laidKinds := [.widerDeep, .widerDeep], laidTests := true, laidLooks := .later }
def WriteBackCardSaid : Prop := Claim7.holds Tryz.pinned (.plain (OpenSpec.ofChange writeBackSpec)) writeBackCard

/-- THE TIED CARD OF 'indenturelaw09.WriteApart'. -/
def writeApartCard : Claim7 := { stood := { row := writeApartRow, standIns := [], harness := (true, "af2ed0adc1728356ad1d867888d2225ee61bbdbbb676f45007d08cc34ea04a1a"), looks := true }, kinds := [], alts := [], laidByText := true, laidKinds := [.widerDeep, .widerDeep], laidTests := true, laidLooks := .later }
def WriteApartCardSaid : Prop := Claim7.holds Tryz.pinned (.plain (OpenSpec.ofChange writeApartSpec)) writeApartCard

/-- THE SECOND FORM's CARD OF 'indenturelaw09.WriteBack'. -/
def writeBackUptoCard : Claim7 := { stood := { row := writeBackUptoRow, standIns := [], harness := (true, "af2ed0adc1728356ad1d867888d2225ee61bbdbbb676f45007d08cc34ea04a1a"), looks := true }, kinds := [], alts := [], laidByText := true, laidKinds := [.widerDeep, .widerDeep], laidTests := true, laidLooks := .later }
def WriteBackUptoCardSaid : Prop := Claim7.holds Tryz.pinned (.plain (OpenSpec.upto writeBackSpec)) writeBackUptoCard

/-- THE SECOND FORM's CARD OF 'indenturelaw09.WriteApart'. -/
def writeApartUptoCard : Claim7 := { stood := { row := writeApartUptoRow, standIns := [], harness := (true, "af2ed0adc1728356ad1d867888d2225ee61bbdbbb676f45007d08cc34ea04a1a"), looks := true }, kinds := [], alts := [], laidByText := true, laidKinds := [.widerDeep, .widerDeep], laidTests := true, laidLooks := .later }
def WriteApartUptoCardSaid : Prop := Claim7.holds Tryz.pinned (.plain (OpenSpec.upto writeApartSpec)) writeApartUptoCard
end Rows
end Go.Proofs.YtodaafgpfjcpgaaGreatDoor
