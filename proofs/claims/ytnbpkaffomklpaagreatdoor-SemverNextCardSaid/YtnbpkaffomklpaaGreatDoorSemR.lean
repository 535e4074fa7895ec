/- What the rows of the semver statements give their walks: versions and texts among the arguments; what the listed variables hold; and a world that holds it. -/
import Derived.Test.YtnbpkaffomklpaaGreatDoorSem3
import Derived.Test.YtnbpkaffomklpaaGreatDoorFwR
import Derived.Test.YtnbpkaffomklpaaGreatDoorRows
import Derived.Lib.LaidIn
import Derived.ChangeMaps5
namespace Go.Sy
open Go Go.Proofs Go.RowKit Go.ChangeShapes Go.WideShapes Go.Joins Go.Deep Go.Proofs.YtnbpkaffomklpaaGreatDoor
set_option maxRecDepth 100000

theorem own : ownKnob Tryz.prog.godebug = none := by kernel_rfl
theorem laidOut : laidOutB Tryz.prog = true := by kernel_rfl
/-- What each row lists. -/
def laidL : List (String × DataW Unit) := [("math/bits.deBruijn32tab", Rows.laid_math_bits_deBruijn32tab), ("math/bits.deBruijn64tab", Rows.laid_math_bits_deBruijn64tab), ("internal/strconv.uint64pow10", Rows.laid_internal_strconv_uint64pow10),
  ("unicode/utf8.acceptRanges", Rows.laid_unicode_utf8_acceptRanges), ("strconv.ErrRange", Rows.laid_strconv_ErrRange), ("strconv.ErrSyntax", Rows.laid_strconv_ErrSyntax), ("unicode/utf8.first", Rows.laid_unicode_utf8_first)]
theorem pow_eq : (Rows.laid_internal_strconv_uint64pow10 : DataW Unit) = Lib.tabData .u64 Lib.pow10Tab := by kernel_rfl

theorem glob_of {W : World} (hL : laidMetH Tryz.prog laidL W) (hsh : W.ShapedOpen Tryz.prog) : Glob W := by
  refine ⟨?_, ?_⟩
  · exact cell_of_shapedOpen_int (P := Tryz.prog) (g := 0) (t := 3) (zero := #[.int .i64 0]) hsh (of_decide_eq_true (by kernel_rfl)) (by kernel_rfl) rfl (by kernel_rfl) (by kernel_rfl) Tryz.underlying3
  · have h1 : laidMet Tryz.prog laidL W := hL
    have h2 : laidMet Tryz.prog (("internal/strconv.uint64pow10", Rows.laid_internal_strconv_uint64pow10) :: laidL.drop 3) W := laidMet.tail (laidMet.tail h1)
    rw [pow_eq] at h2
    exact Lib.tabIs_of_head (g := 3) (t := 112) (e := 91) (n := 20) (by kernel_rfl) (by kernel_rfl) Tryz.underlying112 Tryz.underlying91 (by kernel_rfl) (by kernel_rfl) h2

section
variable {Ht : Type} {enc : TypeId × Value → Ht} {W : World} {r : Reach} {b0 : Nat} {v : Value} {d : DataW Ht} {p : List MemPlace}
theorem open_ver (hv : Value.okWide Tryz.prog W r b0 24 v) (h : DataW.Trod enc Tryz.prog W 0 (fun _ => true) true 24 v d p) :
    ∃ (a : Ver) (a1 : Option Addr) (k1 c1 : Nat) (a2 : Option Addr) (k2 c2 : Nat), v = vVer a a1 k1 c1 a2 k2 c2 ∧ VerIn a ∧ (fS a.pre a1 k1 c1).holds (cellsOfW W) ∧ (fS a.build a2 k2 c2).holds (cellsOfW W) := by
  obtain ⟨v0, v1, v2, v3, v4, y0, y1, y2, y3, y4, n, rfl, h0, h1, h2, h3, h4⟩ := open_agg5 Tryz.underlying24 (by kernel_rfl) (by kernel_rfl) hv h
  obtain ⟨i0, e0, _, w0⟩ := DataW.trod_int Tryz.underlying3 h0
  obtain ⟨i1, e1, _, w1⟩ := DataW.trod_int Tryz.underlying3 h1
  obtain ⟨i2, e2, _, w2⟩ := DataW.trod_int Tryz.underlying3 h2
  obtain ⟨a1, k1, c1, l1, rfl, f1, _, _⟩ := fact_strings Tryz.underlying22 Tryz.underlying9 (by kernel_rfl) h3
  obtain ⟨a2, k2, c2, l2, rfl, f2, _, _⟩ := fact_strings Tryz.underlying22 Tryz.underlying9 (by kernel_rfl) h4
  simp only [List.cons.injEq, and_true] at e0 e1 e2
  subst e0 e1 e2
  exact ⟨⟨i0, i1, i2, l1, l2⟩, a1, k1, c1, a2, k2, c2, rfl, ⟨in64_of_wf w0, in64_of_wf w1, in64_of_wf w2⟩, f1, f2⟩
theorem open_text (hv : Value.okWide Tryz.prog W r b0 9 v) (h : DataW.Trod enc Tryz.prog W 0 (fun _ => true) true 9 v d p) : ∃ s : List UInt8, v = S s ∧ s.length ≤ maxLen := by
  obtain ⟨s, rfl, _, _, ws⟩ := Go.ChangeMaps.open_string Tryz.underlying9 hv h
  exact ⟨s.data.toList, by cases s; simp [S], by rw [Array.length_toList]; exact ws⟩
end

/-! A world that holds what the rows list. -/
def flat1 : DataW Unit → List Value
  | .agg xs => xs.map fun | .lit (.int k n) => .int k n | _ => .nilIface
  | _ => []
def flat2 : DataW Unit → List Value
  | .agg xs => xs.flatMap flat1
  | _ => []
noncomputable def laidWorld (os : Os) : World :=
  let N := (World.settled Tryz.prog os).heap.size
  let w0 := World.holding Tryz.prog os ⟨#[.cells #[.string ⟨#[118, 97, 108, 117, 101, 32, 111, 117, 116, 32, 111, 102, 32, 114, 97, 110, 103, 101]⟩] 121, .cells #[.string ⟨#[105, 110, 118, 97, 108, 105, 100, 32, 115, 121, 110, 116, 97, 120]⟩] 121], #[], []⟩
  let put (h : Array Obj) (g : Nat) (cs : Array Value) : Array Obj := h.modify g fun
    | .cells _ t frozen => .cells cs t frozen
    | o => o
  let h1 := put w0.heap 2 #[.iface 119 (.pointer (some ⟨N, 0, none⟩))]
  let h2 := put h1 1 #[.iface 119 (.pointer (some ⟨N + 1, 0, none⟩))]
  let h3 := put h2 3 (flat1 Rows.laid_internal_strconv_uint64pow10).toArray
  let h4 := put h3 6 (flat1 Rows.laid_math_bits_deBruijn32tab).toArray
  let h5 := put h4 7 (flat1 Rows.laid_math_bits_deBruijn64tab).toArray
  let h6 := put h5 4 (flat1 Rows.laid_unicode_utf8_first).toArray
  let h7 := put h6 5 (flat2 Rows.laid_unicode_utf8_acceptRanges).toArray
  { w0 with heap := h7 }
set_option maxRecDepth 1000000 in
theorem laid_met (os : Os) (args : Array Value) : laidMet Tryz.prog laidL ((laidWorld os).forCall (fun _ _ => 0) ⟨#[], args, []⟩).memory :=
  laidMet_of_run' 10 (by kernel_rfl) (by kernel_rfl)
end Go.Sy
