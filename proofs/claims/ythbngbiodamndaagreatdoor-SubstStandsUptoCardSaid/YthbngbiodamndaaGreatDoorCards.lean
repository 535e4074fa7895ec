/-
  DERIVED. GIVEN WITH THE SEED: THE CARDS: each row of YthbngbiodamndaaGreatDoorRows.lean that lists a variable, with what it lists TIED to the program's text (the seventh form; the later family's looks); each row that meets fmt, with fmt's text TOLD by the authors' own Lean function (tested against real Go, not proved from fmt's source: count such statements apart). THE CARD IS WHAT COUNTS. Prove the row's statement (the work); the ties are given (YthbngbiodamndaaGreatDoorTie.lean); close each card by the builder's one call (the guide's Derived/Test/ToyasCard.lean, 'card_holds'). Laid BY PROGRAM, IN A SANDBOX (cutbox-door.mjs). By AI agents, Wed Nov 11 2026. No macro, syntax, notation, axiom, sorry.
-/
import Derived.Test.YthbngbiodamndaaGreatDoorRows
import GoSem.ClaimSeven
namespace Go.Proofs.YthbngbiodamndaaGreatDoor
namespace Rows

/-- THE TIED CARD OF 'indenturelaw11.SubstStands'. -/
def substStandsCard : Claim7 := { stood := { row := substStandsRow, standIns := [], harness := (true, "34efd4643717e118864590d3127c851d800ff01831696564c89e1df2df57b7ee"), looks := false }, kinds := [], alts := [], laidByText := true, laidKinds := [.data, .data, .data], laidTests := true, laidLooks := .later }
def SubstStandsCardSaid : Prop := Claim7.holds Tryz.pinned (.plain (OpenSpec.ofChange substStandsSpec)) substStandsCard

/-- THE SECOND FORM's CARD OF 'indenturelaw11.SubstStands'. -/
def substStandsUptoCard : Claim7 := { stood := { row := substStandsUptoRow, standIns := [], harness := (true, "34efd4643717e118864590d3127c851d800ff01831696564c89e1df2df57b7ee"), looks := false }, kinds := [], alts := [], laidByText := true, laidKinds := [.data, .data, .data], laidTests := true, laidLooks := .later }
def SubstStandsUptoCardSaid : Prop := Claim7.holds Tryz.pinned (.plain (OpenSpec.upto substStandsSpec)) substStandsUptoCard
end Rows
end Go.Proofs.YthbngbiodamndaaGreatDoor
