/-
  DERIVED. GIVEN WITH THE SEED: THE CARDS: each row of YtodaafgpfjcpgaaDoorRows.lean that lists a variable, with what it lists TIED to the program's text (the seventh form; the later family's looks); each row that meets fmt, with fmt's text TOLD by the authors' own Lean function (tested against real Go, not proved from fmt's source: count such statements apart). THE CARD IS WHAT COUNTS. Prove the row's statement (the work); the ties are given (YtodaafgpfjcpgaaDoorTie.lean); close each card by the builder's one call (the guide's Derived/Test/ToyasCard.lean, 'card_holds'). Laid BY PROGRAM, IN A SANDBOX (cutbox-door.mjs). By AI agents, Wed Nov 11 2026. No macro, syntax, notation, axiom, sorry.
-/
import Derived.Test.YtodaafgpfjcpgaaDoorRows
import GoSem.ClaimSeven
namespace Go.Proofs.YtodaafgpfjcpgaaDoor
namespace Rows

/-- THE TIED CARD OF 'indenturelaw08.ParseBlanks'. -/
def parseBlanksCard : Claim7 := { stood := { row := parseBlanksRow, standIns := [], harness := (true, "1371f55678f8f37742c0616e87d72941856f0e52c9bc1abf2ca4be2bdc477cf4"), looks := true }, kinds := [], alts := [], laidByText := true, laidKinds := [.widerDeep, .widerDeep], laidTests := true, laidLooks := .later }
def ParseBlanksCardSaid : Prop := Claim7.holds Tryd.pinned (.plain (OpenSpec.ofChange parseBlanksSpec)) parseBlanksCard

/-- THE TIED CARD OF 'indenturelaw08.ParseTrees'. -/
def parseTreesCard : Claim7 := { stood := { row := parseTreesRow, standIns := [], harness := (true, "1371f55678f8f37742c0616e87d72941856f0e52c9bc1abf2ca4be2bdc477cf4"), looks := true }, kinds := [], alts := [], laidByText := true, laidKinds := [.widerDeep, .widerDeep], laidTests := true, laidLooks := .later }
def ParseTreesCardSaid : Prop := Claim7.holds Tryd.pinned (.plain (OpenSpec.ofChange parseTreesSpec)) parseTreesCard

/-- THE SECOND FORM's CARD OF 'indenturelaw08.ParseBlanks'. -/
def parseBlanksUptoCard : Claim7 := { stood := { row := parseBlanksUptoRow, standIns := [], harness := (true, "1371f55678f8f37742c0616e87d72941856f0e52c9bc1abf2ca4be2bdc477cf4"), looks := true }, kinds := [], alts := [], laidByText := true, laidKinds := [.widerDeep, .widerDeep], laidTests := true, laidLooks := .later }
def ParseBlanksUptoCardSaid : Prop := Claim7.holds Tryd.pinned (.plain (OpenSpec.upto parseBlanksSpec)) parseBlanksUptoCard

/-- THE SECOND FORM's CARD OF 'indenturelaw08.ParseTrees'. -/
def parseTreesUptoCard : Claim7 := { stood := { row := parseTreesUptoRow, standIns := [], harness := (true, "1371f55678f8f37742c0616e87d72941856f0e52c9bc1abf2ca4be2bdc477cf4"), looks := true }, kinds := [], alts := [], laidByText := true, laidKinds := [.widerDeep, .widerDeep], laidTests := true, laidLooks := .later }
def ParseTreesUptoCardSaid : Prop := Claim7.holds Tryd.pinned (.plain (OpenSpec.upto parseTreesSpec)) parseTreesUptoCard
end Rows
end Go.Proofs.YtodaafgpfjcpgaaDoor
