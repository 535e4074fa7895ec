/-
  DERIVED. GIVEN WITH THE SEED: THE CARDS: each row of YthbngbiodamndaaDoorRows.lean that lists a variable, with what it lists TIED to the program's text (the seventh form; the later family's looks); each row that meets fmt, with fmt's text TOLD by the authors' own Lean function (tested against real Go, not proved from fmt's source: count such statements apart). THE CARD IS WHAT COUNTS. Prove the row's statement (the work); the ties are given (YthbngbiodamndaaDoorTie.lean); close each card by the builder's one call (the guide's Derived/Test/ToyasCard.lean, 'card_holds'). Laid BY PROGRAM, IN A SANDBOX (cutbox-door.mjs). By AI agents, Wed Nov 11 2026. No macro, syntax, notation, axiom, sorry.
-/
import Derived.Test.YthbngbiodamndaaDoorRows
import GoSem.ClaimSeven
namespace Go.Proofs.YthbngbiodamndaaDoor
namespace Rows

/-- THE TIED CARD OF 'indenturelaw10.TypArenas'. -/
def typArenasCard : Claim7 := { stood := { row := typArenasRow, standIns := [], harness := (true, "ea0c66146ddfda0655a98b129bc7f429dbf73458a18c0bf0941f0a8e3955bf0a"), looks := false }, kinds := [], alts := [], laidByText := true, laidKinds := [.data, .data, .data], laidTests := true, laidLooks := .later }
def TypArenasCardSaid : Prop := Claim7.holds Tryd.pinned (.plain (OpenSpec.ofChange typArenasSpec)) typArenasCard

/-- THE TIED CARD OF 'indenturelaw10.TypAdds'. -/
def typAddsCard : Claim7 := { stood := { row := typAddsRow, standIns := [], harness := (true, "ea0c66146ddfda0655a98b129bc7f429dbf73458a18c0bf0941f0a8e3955bf0a"), looks := false }, kinds := [], alts := [], laidByText := true, laidKinds := [.data, .data, .data], laidTests := true, laidLooks := .later }
def TypAddsCardSaid : Prop := Claim7.holds Tryd.pinned (.plain (OpenSpec.ofChange typAddsSpec)) typAddsCard

/-- THE TIED CARD OF 'indenturelaw10.TypOnce'. -/
def typOnceCard : Claim7 := { stood := { row := typOnceRow, standIns := [], harness := (true, "ea0c66146ddfda0655a98b129bc7f429dbf73458a18c0bf0941f0a8e3955bf0a"), looks := false }, kinds := [], alts := [], laidByText := true, laidKinds := [.data, .data, .data], laidTests := true, laidLooks := .later }
def TypOnceCardSaid : Prop := Claim7.holds Tryd.pinned (.plain (OpenSpec.ofChange typOnceSpec)) typOnceCard

/-- THE TIED CARD OF 'indenturelaw11.SubstSteps'. -/
def substStepsCard : Claim7 := { stood := { row := substStepsRow, standIns := [], harness := (true, "ea0c66146ddfda0655a98b129bc7f429dbf73458a18c0bf0941f0a8e3955bf0a"), looks := false }, kinds := [], alts := [], laidByText := true, laidKinds := [.data, .data, .data], laidTests := true, laidLooks := .later }
def SubstStepsCardSaid : Prop := Claim7.holds Tryd.pinned (.plain (OpenSpec.ofChange substStepsSpec)) substStepsCard

/-- THE SECOND FORM's CARD OF 'indenturelaw10.TypArenas'. -/
def typArenasUptoCard : Claim7 := { stood := { row := typArenasUptoRow, standIns := [], harness := (true, "ea0c66146ddfda0655a98b129bc7f429dbf73458a18c0bf0941f0a8e3955bf0a"), looks := false }, kinds := [], alts := [], laidByText := true, laidKinds := [.data, .data, .data], laidTests := true, laidLooks := .later }
def TypArenasUptoCardSaid : Prop := Claim7.holds Tryd.pinned (.plain (OpenSpec.upto typArenasSpec)) typArenasUptoCard

/-- THE SECOND FORM's CARD OF 'indenturelaw10.TypAdds'. -/
def typAddsUptoCard : Claim7 := { stood := { row := typAddsUptoRow, standIns := [], harness := (true, "ea0c66146ddfda0655a98b129bc7f429dbf73458a18c0bf0941f0a8e3955bf0a"), looks := false }, kinds := [], alts := [], laidByText := true, laidKinds := [.data, .data, .data], laidTests := true, laidLooks := .later }
def TypAddsUptoCardSaid : Prop := Claim7.holds Tryd.pinned (.plain (OpenSpec.upto typAddsSpec)) typAddsUptoCard

/-- THE SECOND FORM's CARD OF 'indenturelaw10.TypOnce'. -/
def typOnceUptoCard : Claim7 := { stood := { row := typOnceUptoRow, standIns := [], harness := (true, "ea0c66146ddfda0655a98b129bc7f429dbf73458a18c0bf0941f0a8e3955bf0a"), looks := false }, kinds := [], alts := [], laidByText := true, laidKinds := [.data, .data, .data], laidTests := true, laidLooks := .later }
def TypOnceUptoCardSaid : Prop := Claim7.holds Tryd.pinned (.plain (OpenSpec.upto typOnceSpec)) typOnceUptoCard

/-- THE SECOND FORM's CARD OF 'indenturelaw11.SubstSteps'. -/
def substStepsUptoCard : Claim7 := { stood := { row := substStepsUptoRow, standIns := [], harness := (true, "ea0c66146ddfda0655a98b129bc7f429dbf73458a18c0bf0941f0a8e3955bf0a"), looks := false }, kinds := [], alts := [], laidByText := true, laidKinds := [.data, .data, .data], laidTests := true, laidLooks := .later }
def SubstStepsUptoCardSaid : Prop := Claim7.holds Tryd.pinned (.plain (OpenSpec.upto substStepsSpec)) substStepsUptoCard
end Rows
end Go.Proofs.YthbngbiodamndaaDoor
