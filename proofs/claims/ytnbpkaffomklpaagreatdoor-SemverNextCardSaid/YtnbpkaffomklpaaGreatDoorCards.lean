/-
  DERIVED. GIVEN WITH THE SEED: THE CARDS: each row of YtnbpkaffomklpaaGreatDoorRows.lean that lists a variable, with what it lists TIED to the program's text (the seventh form; the later family's looks); each row that meets fmt, with fmt's text TOLD by the authors' own Lean function (tested against real Go, not proved from fmt's source: count such statements apart). THE CARD IS WHAT COUNTS. Prove the row's statement (the work); the ties are given (YtnbpkaffomklpaaGreatDoorTie.lean); close each card by the builder's one call (the guide's Derived/Test/ToyasCard.lean, 'card_holds'). Laid BY PROGRAM, IN A SANDBOX (cutbox-door.mjs). By AI agents, Wed Nov 11 2026. No macro, syntax, notation, axiom, sorry.
-/
import Derived.Test.YtnbpkaffomklpaaGreatDoorRows
import GoSem.ClaimSeven
namespace Go.Proofs.YtnbpkaffomklpaaGreatDoor
namespace Rows

/-- THE TIED CARD OF 'indenturelaw23.SemverNext'. -/
def semverNextCard : Claim7 := { stood := { row := semverNextRow, standIns := [], harness := (true, "98f91e937814bb4f5a8819f056f200ac2049b480c5a08d810107007814b8f485"), looks := true }, kinds := [], alts := [], laidByText := true, laidKinds := [.data, .data, .data, .data, .sentinel, .sentinel, .pinned], laidTests := true, laidLooks := .later }
def SemverNextCardSaid : Prop := Claim7.holds Tryz.pinned (.plain (OpenSpec.ofChange semverNextSpec)) semverNextCard

/-- THE TIED CARD OF 'indenturelaw23.SemverOrders'. -/
def semverOrdersCard : Claim7 := { stood := { row := semverOrdersRow, standIns := [], harness := (true, "98f91e937814bb4f5a8819f056f200ac2049b480c5a08d810107007814b8f485"), looks := true }, kinds := [], alts := [], laidByText := true, laidKinds := [.data, .data, .data, .data, .sentinel, .sentinel, .pinned], laidTests := true, laidLooks := .later }
def SemverOrdersCardSaid : Prop := Claim7.holds Tryz.pinned (.plain (OpenSpec.ofChange semverOrdersSpec)) semverOrdersCard

/-- THE SECOND FORM's CARD OF 'indenturelaw23.SemverNext'. -/
def semverNextUptoCard : Claim7 := { stood := { row := semverNextUptoRow, standIns := [], harness := (true, "98f91e937814bb4f5a8819f056f200ac2049b480c5a08d810107007814b8f485"), looks := true }, kinds := [], alts := [], laidByText := true, laidKinds := [.data, .data, .data, .data, .sentinel, .sentinel, .pinned], laidTests := true, laidLooks := .later }
def SemverNextUptoCardSaid : Prop := Claim7.holds Tryz.pinned (.plain (OpenSpec.upto semverNextSpec)) semverNextUptoCard

/-- THE SECOND FORM's CARD OF 'indenturelaw23.SemverOrders'. -/
def semverOrdersUptoCard : Claim7 := { stood := { row := semverOrdersUptoRow, standIns := [], harness := (true, "98f91e937814bb4f5a8819f056f200ac2049b480c5a08d810107007814b8f485"), looks := true }, kinds := [], alts := [], laidByText := true, laidKinds := [.data, .data, .data, .data, .sentinel, .sentinel, .pinned], laidTests := true, laidLooks := .later }
def SemverOrdersUptoCardSaid : Prop := Claim7.holds Tryz.pinned (.plain (OpenSpec.upto semverOrdersSpec)) semverOrdersUptoCard
end Rows
end Go.Proofs.YtnbpkaffomklpaaGreatDoor
