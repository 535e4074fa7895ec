/-
  DERIVED. GIVEN WITH THE SEED: THE CARDS: each row of YtinolpaapcpijaaGreatDoorRows.lean that lists a variable, with what it lists TIED to the program's text (the seventh form; the later family's looks); each row that meets fmt, with fmt's text TOLD by the authors' own Lean function (tested against real Go, not proved from fmt's source: count such statements apart). THE CARD IS WHAT COUNTS. Prove the row's statement (the work); the ties are given (YtinolpaapcpijaaGreatDoorTie.lean); close each card by the builder's one call (the guide's Derived/Test/ToyasCard.lean, 'card_holds'). Laid BY PROGRAM, IN A SANDBOX (cutbox-door.mjs). By AI agents, Wed Nov 11 2026. No macro, syntax, notation, axiom, sorry.
-/
import Derived.Test.YtinolpaapcpijaaGreatDoorRows
import GoSem.ClaimSeven
namespace Go.Proofs.YtinolpaapcpijaaGreatDoor
namespace Rows

/-- THE TIED CARD OF 'indenturelaw12.UnitStays'. -/
def unitStaysCard : Claim7 := { stood := { row := unitStaysRow, standIns := [], harness := (true, "563a9f972e202db7421bbd99a0e55a5a94eb3bc88508cda2ab0b59c6458d5f53"), looks := false }, kinds := [], alts := [], laidByText := true, laidKinds := [.data, .data, .data], laidTests := true, laidLooks := .later }
def UnitStaysCardSaid : Prop := Claim7.holds Tryz.pinned (.plain (OpenSpec.ofChange unitStaysSpec)) unitStaysCard

/-- THE TIED CARD OF 'indenturelaw13.SelFinds'. -/
def selFindsCard : Claim7 := { stood := { row := selFindsRow, standIns := [], harness := (true, "563a9f972e202db7421bbd99a0e55a5a94eb3bc88508cda2ab0b59c6458d5f53"), looks := false }, kinds := [], alts := [], laidByText := true, laidKinds := [.data, .data, .data], laidTests := true, laidLooks := .later }
def SelFindsCardSaid : Prop := Claim7.holds Tryz.pinned (.plain (OpenSpec.ofChange selFindsSpec)) selFindsCard

/-- THE TIED CARD OF 'indenturelaw12.UnitRight'. -/
def unitRightCard : Claim7 := { stood := { row := unitRightRow, standIns := [], harness := (true, "563a9f972e202db7421bbd99a0e55a5a94eb3bc88508cda2ab0b59c6458d5f53"), looks := false }, kinds := [], alts := [], laidByText := true, laidKinds := [.data, .data, .data], laidTests := true, laidLooks := .later }
def UnitRightCardSaid : Prop := Claim7.holds Tryz.pinned (.plain (OpenSpec.ofChange unitRightSpec)) unitRightCard

/-- THE TIED CARD OF 'indenturelaw14.TsetAsks'. -/
def tsetAsksCard : Claim7 := { stood := { row := tsetAsksRow, standIns := [], harness := (true, "563a9f972e202db7421bbd99a0e55a5a94eb3bc88508cda2ab0b59c6458d5f53"), looks := false }, kinds := [], alts := [], laidByText := true, laidKinds := [.data, .data, .data], laidTests := true, laidLooks := .later }
def TsetAsksCardSaid : Prop := Claim7.holds Tryz.pinned (.plain (OpenSpec.ofChange tsetAsksSpec)) tsetAsksCard

/-- THE TIED CARD OF 'indenturelaw14.TsetBoth'. -/
def tsetBothCard : Claim7 := { stood := { row := tsetBothRow, standIns := [], harness := (true, "563a9f972e202db7421bbd99a0e55a5a94eb3bc88508cda2ab0b59c6458d5f53"), looks := false }, kinds := [], alts := [], laidByText := true, laidKinds := [.data, .data, .data], laidTests := true, laidLooks := .later }
def TsetBothCardSaid : Prop := Claim7.holds Tryz.pinned (.plain (OpenSpec.ofChange tsetBothSpec)) tsetBothCard

/-- THE TIED CARD OF 'indenturelaw13.SelNames'. -/
def selNamesCard : Claim7 := { stood := { row := selNamesRow, standIns := [], harness := (true, "563a9f972e202db7421bbd99a0e55a5a94eb3bc88508cda2ab0b59c6458d5f53"), looks := false }, kinds := [], alts := [], laidByText := true, laidKinds := [.data, .data, .data], laidTests := true, laidLooks := .later }
def SelNamesCardSaid : Prop := Claim7.holds Tryz.pinned (.plain (OpenSpec.ofChange selNamesSpec)) selNamesCard

/-- THE SECOND FORM's CARD OF 'indenturelaw12.UnitStays'. -/
def unitStaysUptoCard : Claim7 := { stood := { row := unitStaysUptoRow, standIns := [], harness := (true, "563a9f972e202db7421bbd99a0e55a5a94eb3bc88508cda2ab0b59c6458d5f53"), looks := false }, kinds := [], alts := [], laidByText := true, laidKinds := [.data, .data, .data], laidTests := true, laidLooks := .later }
def UnitStaysUptoCardSaid : Prop := Claim7.holds Tryz.pinned (.plain (OpenSpec.upto unitStaysSpec)) unitStaysUptoCard

/-- THE SECOND FORM's CARD OF 'indenturelaw13.SelFinds'. -/
def selFindsUptoCard : Claim7 := { stood := { row := selFindsUptoRow, standIns := [], harness := (true, "563a9f972e202db7421bbd99a0e55a5a94eb3bc88508cda2ab0b59c6458d5f53"), looks := false }, kinds := [], alts := [], laidByText := true, laidKinds := [.data, .data, .data], laidTests := true, laidLooks := .later }
def SelFindsUptoCardSaid : Prop := Claim7.holds Tryz.pinned (.plain (OpenSpec.upto selFindsSpec)) selFindsUptoCard

/-- THE SECOND FORM's CARD OF 'indenturelaw12.UnitRight'. -/
def unitRightUptoCard : Claim7 := { stood := { row := unitRightUptoRow, standIns := [], harness := (true, "563a9f972e202db7421bbd99a0e55a5a94eb3bc88508cda2ab0b59c6458d5f53"), looks := false }, kinds := [], alts := [], laidByText := true, laidKinds := [.data, .data, .data], laidTests := true, laidLooks := .later }
def UnitRightUptoCardSaid : Prop := Claim7.holds Tryz.pinned (.plain (OpenSpec.upto unitRightSpec)) unitRightUptoCard

/-- THE SECOND FORM's CARD OF 'indenturelaw14.TsetAsks'. -/
def tsetAsksUptoCard : Claim7 := { stood := { row := tsetAsksUptoRow, standIns := [], harness := (true, "563a9f972e202db7421bbd99a0e55a5a94eb3bc88508cda2ab0b59c6458d5f53"), looks := false }, kinds := [], alts := [], laidByText := true, laidKinds := [.data, .data, .data], laidTests := true, laidLooks := .later }
def TsetAsksUptoCardSaid : Prop := Claim7.holds Tryz.pinned (.plain (OpenSpec.upto tsetAsksSpec)) tsetAsksUptoCard

/-- THE SECOND FORM's CARD OF 'indenturelaw14.TsetBoth'. -/
def tsetBothUptoCard : Claim7 := { stood := { row := tsetBothUptoRow, standIns := [], harness := (true, "563a9f972e202db7421bbd99a0e55a5a94eb3bc88508cda2ab0b59c6458d5f53"), looks := false }, kinds := [], alts := [], laidByText := true, laidKinds := [.data, .data, .data], laidTests := true, laidLooks := .later }
def TsetBothUptoCardSaid : Prop := Claim7.holds Tryz.pinned (.plain (OpenSpec.upto tsetBothSpec)) tsetBothUptoCard

/-- THE SECOND FORM's CARD OF 'indenturelaw13.SelNames'. -/
def selNamesUptoCard : Claim7 := { stood := { row := selNamesUptoRow, standIns := [], harness := (true, "563a9f972e202db7421bbd99a0e55a5a94eb3bc88508cda2ab0b59c6458d5f53"), looks := false }, kinds := [], alts := [], laidByText := true, laidKinds := [.data, .data, .data], laidTests := true, laidLooks := .later }
def SelNamesUptoCardSaid : Prop := Claim7.holds Tryz.pinned (.plain (OpenSpec.upto selNamesSpec)) selNamesUptoCard
end Rows
end Go.Proofs.YtinolpaapcpijaaGreatDoor
