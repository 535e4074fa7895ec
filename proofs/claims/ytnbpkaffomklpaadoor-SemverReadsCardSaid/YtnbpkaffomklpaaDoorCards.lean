/-
  DERIVED. GIVEN WITH THE SEED: THE CARDS: each row of YtnbpkaffomklpaaDoorRows.lean that lists a variable, with what it lists TIED to the program's text (the seventh form; the later family's looks); each row that meets fmt, with fmt's text TOLD by the authors' own Lean function (tested against real Go, not proved from fmt's source: count such statements apart). THE CARD IS WHAT COUNTS. Prove the row's statement (the work); the ties are given (YtnbpkaffomklpaaDoorTie.lean); close each card by the builder's one call (the guide's Derived/Test/ToyasCard.lean, 'card_holds'). Laid BY PROGRAM, IN A SANDBOX (cutbox-door.mjs). By AI agents, Wed Nov 11 2026. No macro, syntax, notation, axiom, sorry.
-/
import Derived.Test.YtnbpkaffomklpaaDoorRows
import GoSem.ClaimSeven
namespace Go.Proofs.YtnbpkaffomklpaaDoor
namespace Rows

/-- THE TIED CARD OF 'indenturelaw23.SemverReads'. -/
def semverReadsCard : Claim7 := { stood := { row := semverReadsRow, standIns := [], harness := (true, "35033466567e92b2c4a8bb5eb5d6c3871045c77a0ee0529fb6aebf11d4fd549e"), looks := true }, kinds := [], alts := [], laidByText := true, laidKinds := [.data, .data, .data, .data, .sentinel, .sentinel, .pinned], laidTests := true, laidLooks := .later }
def SemverReadsCardSaid : Prop := Claim7.holds Tryd.pinned (.plain (OpenSpec.ofChange semverReadsSpec)) semverReadsCard

/-- THE TIED CARD OF 'indenturelaw23.SemverBack'. -/
def semverBackCard : Claim7 := { stood := { row := semverBackRow, standIns := [], harness := (true, "35033466567e92b2c4a8bb5eb5d6c3871045c77a0ee0529fb6aebf11d4fd549e"), looks := true }, kinds := [], alts := [], laidByText := true, laidKinds := [.data, .data, .data, .data, .sentinel, .sentinel, .pinned], laidTests := true, laidLooks := .later }
def SemverBackCardSaid : Prop := Claim7.holds Tryd.pinned (.plain (OpenSpec.ofChange semverBackSpec)) semverBackCard

/-- THE TIED CARD OF 'indenturelaw23.SemverLeast'. -/
def semverLeastCard : Claim7 := { stood := { row := semverLeastRow, standIns := [], harness := (true, "35033466567e92b2c4a8bb5eb5d6c3871045c77a0ee0529fb6aebf11d4fd549e"), looks := true }, kinds := [], alts := [], laidByText := true, laidKinds := [.data, .data, .data, .data, .sentinel, .sentinel, .pinned], laidTests := true, laidLooks := .later }
def SemverLeastCardSaid : Prop := Claim7.holds Tryd.pinned (.plain (OpenSpec.ofChange semverLeastSpec)) semverLeastCard

/-- THE TIED CARD OF 'indenturelaw23.SemverChain'. -/
def semverChainCard : Claim7 := { stood := { row := semverChainRow, standIns := [], harness := (true, "35033466567e92b2c4a8bb5eb5d6c3871045c77a0ee0529fb6aebf11d4fd549e"), looks := true }, kinds := [], alts := [], laidByText := true, laidKinds := [.data, .data, .data, .data, .sentinel, .sentinel, .pinned], laidTests := true, laidLooks := .later }
def SemverChainCardSaid : Prop := Claim7.holds Tryd.pinned (.plain (OpenSpec.ofChange semverChainSpec)) semverChainCard

/-- THE SECOND FORM's CARD OF 'indenturelaw23.SemverReads'. -/
def semverReadsUptoCard : Claim7 := { stood := { row := semverReadsUptoRow, standIns := [], harness := (true, "35033466567e92b2c4a8bb5eb5d6c3871045c77a0ee0529fb6aebf11d4fd549e"), looks := true }, kinds := [], alts := [], laidByText := true, laidKinds := [.data, .data, .data, .data, .sentinel, .sentinel, .pinned], laidTests := true, laidLooks := .later }
def SemverReadsUptoCardSaid : Prop := Claim7.holds Tryd.pinned (.plain (OpenSpec.upto semverReadsSpec)) semverReadsUptoCard

/-- THE SECOND FORM's CARD OF 'indenturelaw23.SemverBack'. -/
def semverBackUptoCard : Claim7 := { stood := { row := semverBackUptoRow, standIns := [], harness := (true, "35033466567e92b2c4a8bb5eb5d6c3871045c77a0ee0529fb6aebf11d4fd549e"), looks := true }, kinds := [], alts := [], laidByText := true, laidKinds := [.data, .data, .data, .data, .sentinel, .sentinel, .pinned], laidTests := true, laidLooks := .later }
def SemverBackUptoCardSaid : Prop := Claim7.holds Tryd.pinned (.plain (OpenSpec.upto semverBackSpec)) semverBackUptoCard

/-- THE SECOND FORM's CARD OF 'indenturelaw23.SemverLeast'. -/
def semverLeastUptoCard : Claim7 := { stood := { row := semverLeastUptoRow, standIns := [], harness := (true, "35033466567e92b2c4a8bb5eb5d6c3871045c77a0ee0529fb6aebf11d4fd549e"), looks := true }, kinds := [], alts := [], laidByText := true, laidKinds := [.data, .data, .data, .data, .sentinel, .sentinel, .pinned], laidTests := true, laidLooks := .later }
def SemverLeastUptoCardSaid : Prop := Claim7.holds Tryd.pinned (.plain (OpenSpec.upto semverLeastSpec)) semverLeastUptoCard

/-- THE SECOND FORM's CARD OF 'indenturelaw23.SemverChain'. -/
def semverChainUptoCard : Claim7 := { stood := { row := semverChainUptoRow, standIns := [], harness := (true, "35033466567e92b2c4a8bb5eb5d6c3871045c77a0ee0529fb6aebf11d4fd549e"), looks := true }, kinds := [], alts := [], laidByText := true, laidKinds := [.data, .data, .data, .data, .sentinel, .sentinel, .pinned], laidTests := true, laidLooks := .later }
def SemverChainUptoCardSaid : Prop := Claim7.holds Tryd.pinned (.plain (OpenSpec.upto semverChainSpec)) semverChainUptoCard
end Rows
end Go.Proofs.YtnbpkaffomklpaaDoor
