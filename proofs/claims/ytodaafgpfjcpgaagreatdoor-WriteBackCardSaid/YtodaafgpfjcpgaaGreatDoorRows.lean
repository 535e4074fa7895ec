/-
  NARROWER THAN 'FOR EVERY INPUT', by the rows' own cells (each row's printed sentence says how): WriteBack: laid · WriteApart: laid.
  DERIVED. THE GIVEN ROWS OF THIS SEAT. 2 by the template 'for every input the law returns true; each argument reads behind the call as it read before'; 0 by the template 'total and deterministic' (their statements: YtodaafgpfjcpgaaGreatDoorTotals.lean).
  GIVEN WITH THE SEED: the statements are not yours to turn. If you find one false, say at which input.
  Laid BY PROGRAM, IN A SANDBOX (cutbox-rows.mjs): the forced cells as the released guide's own fill.sh prints them over the translation cf4560191ffff8c7… (all of the seat's roots in one cut). By AI agents, Wed Nov 11 2026. No macro, syntax, notation, axiom, sorry.
-/
import Derived.Test.YtodaafgpfjcpgaaGreatDoorChecked
import GoSem.Claim
import GoSem.ClaimJoined
import GoSem.ClaimMapViews
import Derived.JoinedTies
import Derived.KernelRfl
namespace Go.Proofs.YtodaafgpfjcpgaaGreatDoor
/- THE CELL 'sum', in the pinned program and in every row, IS THE sha256 OF THE DUMP (.gsa) THAT YtodaafgpfjcpgaaGreatDoorProg.lean LOADS. Nothing in Lean hashes anything: it is a label: what it is worth is what the hold of that sum in a sandbox is worth. -/
noncomputable def Tryz.pinned : Pinned := { name := "ytodaafgpfjcpgaagreatdoor", sum := "cf4560191ffff8c7bd2ad9633ab2b9a77a603fb7623a5ca8dc18612843053d24", checked := Tryz.checked }
namespace Rows
def none {H : Type} : Left H := { results := [], args := [] }

/- WHAT THE LISTED PACKAGE-LEVEL VARIABLES READ AS WHEN THE CALL BEGINS. Each datum BY PROGRAM (the guide's laid-datum.mjs) off the statement by which the dump's own 'gosem.cut.vars' lays the variable. In a bare row this is a premise. The card (YtodaafgpfjcpgaaGreatDoorCards.lean) ties it to the program's text. -/
def laid_indenture_scan_keys {H : Type} : DataW H := .agg [.lit (.string [98, 114, 101, 97, 107]), .lit (.string [99, 97, 115, 101]), .lit (.string [99, 104, 97, 110]), .lit (.string [99, 111, 110, 115, 116]), .lit (.string [99, 111, 110, 116, 105, 110, 117, 101]), .lit (.string [100, 101, 102, 97, 117, 108, 116]), .lit (.string [100, 101, 102, 101, 114]), .lit (.string [101, 108, 115, 101]), .lit (.string [102, 97, 108, 108, 116, 104, 114, 111, 117, 103, 104]), .lit (.string [102, 111, 114]), .lit (.string [102, 117, 110, 99]), .lit (.string [103, 111]), .lit (.string [103, 111, 116, 111]), .lit (.string [105, 102]), .lit (.string [105, 109, 112, 111, 114, 116]), .lit (.string [105, 110, 116, 101, 114, 102, 97, 99, 101]), .lit (.string [109, 97, 112]), .lit (.string [112, 97, 99, 107, 97, 103, 101]), .lit (.string [114, 97, 110, 103, 101]), .lit (.string [114, 101, 116, 117, 114, 110]), .lit (.string [115, 101, 108, 101, 99, 116]), .lit (.string [115, 116, 114, 117, 99, 116]), .lit (.string [115, 119, 105, 116, 99, 104]), .lit (.string [116, 121, 112, 101]), .lit (.string [118, 97, 114])]
def laid_indenture_scan_ops {H : Type} : DataW H := .agg [.lit (.string [46, 46, 46]), .lit (.string [60, 60]), .lit (.string [62, 62]), .lit (.string [38, 38]), .lit (.string [124, 124]), .lit (.string [61, 61]), .lit (.string [33, 61]), .lit (.string [60, 61]), .lit (.string [62, 61]), .lit (.string [58, 61]), .lit (.string [43]), .lit (.string [45]), .lit (.string [42]), .lit (.string [47]), .lit (.string [37]), .lit (.string [38]), .lit (.string [124]), .lit (.string [94]), .lit (.string [60]), .lit (.string [62]), .lit (.string [33]), .lit (.string [40]), .lit (.string [41]), .lit (.string [91]), .lit (.string [93]), .lit (.string [123]), .lit (.string [125]), .lit (.string [44]), .lit (.string [46]), .lit (.string [59]), .lit (.string [61]), .lit (.string [58]), .lit (.string [126])]

/-- 'indenturelaw09.WriteBack': WHATEVER THE INPUT: true; the input reads as it did. -/
def writeBackSpec : ChangeSpec := { name := "writeBack", fn := fun _ => fun
  | [d] => { results := [.lit (.bool true)], args := [d] }
  | _ => none }
def writeBackRow : OpenClaim := { program := "ytodaafgpfjcpgaagreatdoor", sum := "cf4560191ffff8c7bd2ad9633ab2b9a77a603fb7623a5ca8dc18612843053d24", func := "indenture/indenturelaw09.WriteBack", spec := "writeBack", inPlace := ["internal/bytealg.IndexByteString", "internal/bytealg.IndexString", "internal/abi.NoEscape", "internal/bytealg.MakeNoZero"], unfollowed := true, recurses := true, named := ["internal/bytealg.MaxLen", "indenture/scan.ops", "indenture/scan.keys"], apart := false, laid := [("indenture/scan.keys", laid_indenture_scan_keys), ("indenture/scan.ops", laid_indenture_scan_ops)] }
def WriteBackSaid : Prop := writeBackRow.holds Tryz.pinned (OpenSpec.ofChange writeBackSpec)

/-- ITS FALSE NEIGHBOUR: 'it returns false'. Refute it at one input. -/
def writeBackWrong : ChangeSpec := { name := "writeBack", fn := fun _ => fun
  | [d] => { results := [.lit (.bool false)], args := [d] }
  | _ => none }
def WriteBackWrongFalsely : Prop := writeBackRow.holds Tryz.pinned (OpenSpec.ofChange writeBackWrong)

/-- 'indenturelaw09.WriteApart': WHATEVER THE INPUT: true; the input reads as it did. -/
def writeApartSpec : ChangeSpec := { name := "writeApart", fn := fun _ => fun
  | [d1, d2] => { results := [.lit (.bool true)], args := [d1, d2] }
  | _ => none }
def writeApartRow : OpenClaim := { program := "ytodaafgpfjcpgaagreatdoor", sum := "cf4560191ffff8c7bd2ad9633ab2b9a77a603fb7623a5ca8dc18612843053d24", func := "indenture/indenturelaw09.WriteApart", spec := "writeApart", inPlace := ["internal/abi.NoEscape", "internal/bytealg.MakeNoZero", "internal/bytealg.IndexByteString", "internal/bytealg.IndexString"], unfollowed := true, recurses := true, named := ["internal/bytealg.MaxLen", "indenture/scan.ops", "indenture/scan.keys"], apart := false, laid := [("indenture/scan.keys", laid_indenture_scan_keys), ("indenture/scan.ops", laid_indenture_scan_ops)] }
def WriteApartSaid : Prop := writeApartRow.holds Tryz.pinned (OpenSpec.ofChange writeApartSpec)

/-- ITS FALSE NEIGHBOUR: 'it returns false'. Refute it at one input. -/
def writeApartWrong : ChangeSpec := { name := "writeApart", fn := fun _ => fun
  | [d1, d2] => { results := [.lit (.bool false)], args := [d1, d2] }
  | _ => none }
def WriteApartWrongFalsely : Prop := writeApartRow.holds Tryz.pinned (OpenSpec.ofChange writeApartWrong)

/- THE SECOND FORM. 'bulk': how many values and letters a reading holds, each counted each time it is reached (what is shared counts as often as it is met; a slice's spare places count too). A statement '..UptoSaid' is the law's where the arguments, and the package variables that the reading takes, are together of bulk at most 1048576: NARROWER than '..Said'. Prove '..Said' where nothing that the law and all that it calls make is longer than what came in: it says more and counts as full. Else prove '..UptoSaid'. A law counts once. -/
mutual
def uptoBulk {H : Type} : DataW H → Nat
  | .lit (.string bytes) => bytes.length + 1
  | .lit _ => 1
  | .nil => 1
  | .ptr d => uptoBulk d + 1
  | .slice elems spare => uptoBulkAll elems + uptoBulkAll spare + 1
  | .agg parts => uptoBulkAll parts + 1
  | .iface _ d => uptoBulk d + 1
  | .map entries => uptoBulkEntries entries + 1
  | .held _ => 1
def uptoBulkAll {H : Type} : List (DataW H) → Nat
  | [] => 0
  | d :: r => uptoBulk d + uptoBulkAll r
def uptoBulkEntries {H : Type} : List (Lit × DataW H) → Nat
  | [] => 0
  | x :: r => uptoBulkEntry x + uptoBulkEntries r
def uptoBulkEntry {H : Type} : Lit × DataW H → Nat
  | (.string bytes, d) => bytes.length + uptoBulk d + 1
  | (_, d) => uptoBulk d + 1
 end
def uptoSmall : (H : Type) → List (DataW H) → Bool := fun _ ds => decide (uptoBulkAll ds ≤ 1048576)
def OpenSpec.upto (s : _root_.Go.ChangeSpec) : _root_.Go.OpenSpec := { _root_.Go.OpenSpec.ofChange s with cond := some uptoSmall }

/-- 'indenturelaw09.WriteBack', WHERE WHAT IT READS IS OF BULK AT MOST 1048576: true; the input reads as it did. -/
def writeBackUptoRow : OpenClaim := { program := "ytodaafgpfjcpgaagreatdoor", sum := "cf4560191ffff8c7bd2ad9633ab2b9a77a603fb7623a5ca8dc18612843053d24", func := "indenture/indenturelaw09.WriteBack", spec := "writeBack", inPlace := ["internal/bytealg.IndexByteString", "internal/bytealg.IndexString", "internal/abi.NoEscape", "internal/bytealg.MakeNoZero"], unfollowed := true, recurses := true, named := ["internal/bytealg.MaxLen", "indenture/scan.ops", "indenture/scan.keys"], apart := false, laid := [("indenture/scan.keys", laid_indenture_scan_keys), ("indenture/scan.ops", laid_indenture_scan_ops)], narrowed := true }
def WriteBackUptoSaid : Prop := writeBackUptoRow.holds Tryz.pinned (OpenSpec.upto writeBackSpec)

/-- 'indenturelaw09.WriteApart', WHERE WHAT IT READS IS OF BULK AT MOST 1048576: true; the input reads as it did. -/
def writeApartUptoRow : OpenClaim := { program := "ytodaafgpfjcpgaagreatdoor", sum := "cf4560191ffff8c7bd2ad9633ab2b9a77a603fb7623a5ca8dc18612843053d24", func := "indenture/indenturelaw09.WriteApart", spec := "writeApart", inPlace := ["internal/abi.NoEscape", "internal/bytealg.MakeNoZero", "internal/bytealg.IndexByteString", "internal/bytealg.IndexString"], unfollowed := true, recurses := true, named := ["internal/bytealg.MaxLen", "indenture/scan.ops", "indenture/scan.keys"], apart := false, laid := [("indenture/scan.keys", laid_indenture_scan_keys), ("indenture/scan.ops", laid_indenture_scan_ops)], narrowed := true }
def WriteApartUptoSaid : Prop := writeApartUptoRow.holds Tryz.pinned (OpenSpec.upto writeApartSpec)

end Rows
end Go.Proofs.YtodaafgpfjcpgaaGreatDoor
