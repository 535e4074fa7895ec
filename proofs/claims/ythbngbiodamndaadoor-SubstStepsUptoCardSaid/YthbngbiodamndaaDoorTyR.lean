/- What the rows of the statements on types give their walks: types and arenas among the arguments; what the listed variables hold; and a world that holds it. -/
import Derived.Test.YthbngbiodamndaaDoorTyH
import Derived.Test.YthbngbiodamndaaDoorFwS
import Derived.Test.YthbngbiodamndaaDoorRows
import Derived.Lib.LaidIn
import Derived.ChangeMaps5
namespace Go.Sy
open Go Go.Proofs Go.RowKit Go.ChangeShapes Go.WideShapes Go.Joins Go.Deep Go.Proofs.YthbngbiodamndaaDoor
set_option maxRecDepth 100000

theorem own : ownKnob Tryd.prog.godebug = none := by kernel_rfl
theorem laidOut : laidOutB Tryd.prog = true := by kernel_rfl
/-- What each row lists. -/
def laidL : List (String × DataW Unit) := [("math/bits.deBruijn32tab", Rows.laid_math_bits_deBruijn32tab), ("math/bits.deBruijn64tab", Rows.laid_math_bits_deBruijn64tab), ("internal/strconv.uint64pow10", Rows.laid_internal_strconv_uint64pow10)]
theorem pow_eq : (Rows.laid_internal_strconv_uint64pow10 : DataW Unit) = Lib.tabData .u64 Lib.pow10Tab := by kernel_rfl

theorem glob_of {W : World} (hL : laidMetH Tryd.prog laidL W) (hsh : W.ShapedOpen Tryd.prog) : Glob W := by
  refine ⟨?_, ?_⟩
  · exact cell_of_shapedOpen_int (P := Tryd.prog) (g := 1) (t := 3) (zero := #[.int .i64 0]) hsh (of_decide_eq_true (by kernel_rfl)) (by kernel_rfl) rfl (by kernel_rfl) (by kernel_rfl) Tryd.underlying3
  · have h1 : laidMet Tryd.prog laidL W := hL
    have h2 : laidMet Tryd.prog (("internal/strconv.uint64pow10", Rows.laid_internal_strconv_uint64pow10) :: laidL.drop 3) W := laidMet.tail (laidMet.tail h1)
    rw [pow_eq] at h2
    exact Lib.tabIs_of_head (g := 0) (t := 138) (e := 122) (n := 20) (by kernel_rfl) (by kernel_rfl) Tryd.underlying138 Tryd.underlying122 (by kernel_rfl) (by kernel_rfl) h2

instance : Inhabited Ty := ⟨⟨0, [], 0, [], []⟩⟩
section
variable {Ht : Type} {enc : TypeId × Value → Ht} {W : World} {r : Reach} {b0 : Nat} {v : Value} {d : DataW Ht} {p : List MemPlace}
theorem open_ints {fuel : Nat} {y : DataW Ht × List MemPlace} (h : DataW.trod enc Tryd.prog W 0 (fun _ => true) true fuel 29 [v] = some y) :
    ∃ (a : Option Addr) (k c : Nat) (l : List Int), v = .slice a k c ∧ (Fact.slc (.slice a k c) 1 (l.map eI)).holds (cellsOfW W) ∧ l.length ≤ maxLen ∧ ∀ x ∈ l, -9223372036854775808 ≤ x ∧ x ≤ 9223372036854775807 :=
  fact_slice (sz := 1) eI (fun x => -9223372036854775808 ≤ x ∧ x ≤ 9223372036854775807) Tryd.underlying29 (by kernel_rfl) (by decide) (fun _ => rfl) h (fun n cs y' hl hy => by
    obtain ⟨i, rfl, _, w⟩ := DataW.trod_int Tryd.underlying3 hy
    exact ⟨i, in64_of_wf w, RowReads.cons (.val _) RowReads.nil⟩)
/-- A type's cells. -/
theorem ty_fields {v0 v1 v2 v3 v4 : Value} {y0 y1 y2 y3 y4 : DataW Ht × List MemPlace} {n : Nat} (h0 : DataW.trod enc Tryd.prog W 0 (fun _ => true) true n 3 [v0] = some y0) (h1 : DataW.trod enc Tryd.prog W 0 (fun _ => true) true n 9 [v1] = some y1) (h2 : DataW.trod enc Tryd.prog W 0 (fun _ => true) true n 3 [v2] = some y2)
    (h3 : DataW.trod enc Tryd.prog W 0 (fun _ => true) true n 28 [v3] = some y3) (h4 : DataW.trod enc Tryd.prog W 0 (fun _ => true) true n 29 [v4] = some y4) :
    ∃ (t : Ty) (a1 : Option Addr) (k1 c1 : Nat) (a2 : Option Addr) (k2 c2 : Nat), v0 = .int .i64 t.kind ∧ v1 = S t.name ∧ v2 = .int .i64 t.n ∧ v3 = .slice a1 k1 c1 ∧ v4 = .slice a2 k2 c2 ∧ TyIn t ∧ (fW t a1 k1 c1).holds (cellsOfW W) ∧ (fK t a2 k2 c2).holds (cellsOfW W) := by
  obtain ⟨i0, e0, _, w0⟩ := DataW.trod_int Tryd.underlying3 h0
  obtain ⟨s, e1, _, _⟩ := DataW.trod_string Tryd.underlying9 h1
  obtain ⟨i2, e2, _, w2⟩ := DataW.trod_int Tryd.underlying3 h2
  obtain ⟨a1, k1, c1, l1, rfl, f1, _, _⟩ := fact_strings Tryd.underlying28 Tryd.underlying9 (by kernel_rfl) h3
  obtain ⟨a2, k2, c2, l2, rfl, f2, _, b2⟩ := open_ints h4
  simp only [List.cons.injEq, and_true] at e0 e1 e2
  subst e0 e1 e2
  exact ⟨⟨i0, s.data.toList, i2, l1, l2⟩, a1, k1, c1, a2, k2, c2, rfl, by cases s; simp [S], rfl, rfl, rfl, ⟨in64_of_wf w0, in64_of_wf w2, b2⟩, f1, f2⟩
theorem list5 {α : Type} {l : List α} (h : l.length = 5) : ∃ a b c d e, l = [a, b, c, d, e] := by
  match l, h with
  | [a, b, c, d, e], _ => exact ⟨a, b, c, d, e, rfl⟩
theorem ty_row {n : Nat} {cs : List Value} {y' : DataW Ht × List MemPlace} (hl : cs.length = 5) (h : DataW.trod enc Tryd.prog W 0 (fun _ => true) true n 31 cs = some y') : ∃ t : Ty, TyIn t ∧ RowReads W cs (eTy t) := by
  obtain ⟨c0, c1, c2, c3, c4, rfl⟩ := list5 hl
  obtain ⟨y0, y1, y2, y3, y4, m, _, _, h0, h1, h2, h3, h4⟩ := trod_struct5 Tryd.underlying31 h
  obtain ⟨t, a1, k1, z1, a2, k2, z2, rfl, rfl, rfl, rfl, rfl, hin, f1, f2⟩ := ty_fields h0 h1 h2 h3 h4
  exact ⟨t, hin, .cons (.val _) (.cons (.val _) (.cons (.val _) (.cons f1 (.cons f2 .nil))))⟩
theorem open_tys (hv : Value.okWide Tryd.prog W r b0 22 v) (h : DataW.Trod enc Tryd.prog W 0 (fun _ => true) true 22 v d p) :
    ∃ (a : Option Addr) (k c : Nat) (l : List Ty), v = .slice a k c ∧ (fL l a k c).holds (cellsOfW W) ∧ ∀ t ∈ l, TyIn t := by
  obtain ⟨a0, k0, c0, rfl⟩ := okWide_slice Tryd.underlying22 hv
  obtain ⟨fuel, hf⟩ := h
  obtain ⟨a, k, c, l, e, f, _, hp⟩ := fact_slice (sz := 5) eTy TyIn Tryd.underlying22 (by kernel_rfl) (by decide) (fun _ => rfl) hf (fun n cs y' hl hy => ty_row hl hy)
  exact ⟨a, k, c, l, e, f, hp⟩
theorem open_ty (hv : Value.okWide Tryd.prog W r b0 31 v) (h : DataW.Trod enc Tryd.prog W 0 (fun _ => true) true 31 v d p) :
    ∃ (t : Ty) (a1 : Option Addr) (k1 c1 : Nat) (a2 : Option Addr) (k2 c2 : Nat), v = vTy t a1 k1 c1 a2 k2 c2 ∧ TyIn t ∧ (fW t a1 k1 c1).holds (cellsOfW W) ∧ (fK t a2 k2 c2).holds (cellsOfW W) := by
  obtain ⟨v0, v1, v2, v3, v4, y0, y1, y2, y3, y4, n, rfl, h0, h1, h2, h3, h4⟩ := open_agg5 Tryd.underlying31 (by kernel_rfl) (by kernel_rfl) hv h
  obtain ⟨t, a1, k1, z1, a2, k2, z2, rfl, rfl, rfl, rfl, rfl, hin, f1, f2⟩ := ty_fields h0 h1 h2 h3 h4
  exact ⟨t, a1, k1, z1, a2, k2, z2, rfl, hin, f1, f2⟩
theorem open_ilist (hv : Value.okWide Tryd.prog W r b0 29 v) (h : DataW.Trod enc Tryd.prog W 0 (fun _ => true) true 29 v d p) :
    ∃ (a : Option Addr) (k c : Nat) (l : List Int), v = .slice a k c ∧ (Fact.slc (.slice a k c) 1 (l.map eI)).holds (cellsOfW W) ∧ ∀ x ∈ l, -9223372036854775808 ≤ x ∧ x ≤ 9223372036854775807 := by
  obtain ⟨a0, k0, c0, rfl⟩ := okWide_slice Tryd.underlying29 hv
  obtain ⟨fuel, hf⟩ := h
  obtain ⟨a, k, c, l, e, f, _, hp⟩ := open_ints hf
  exact ⟨a, k, c, l, e, f, hp⟩
end

/-! A world that holds what the rows list. -/
def flat1 : DataW Unit → List Value
  | .agg xs => xs.map fun | .lit (.int k n) => .int k n | _ => .nilIface
  | _ => []
noncomputable def laidWorld (os : Os) : World :=
  let w0 := World.holding Tryd.prog os ⟨#[], #[], []⟩
  let put (h : Array Obj) (g : Nat) (cs : Array Value) : Array Obj := h.modify g fun
    | .cells _ t frozen => .cells cs t frozen
    | o => o
  let h3 := put w0.heap 0 (flat1 Rows.laid_internal_strconv_uint64pow10).toArray
  let h4 := put h3 2 (flat1 Rows.laid_math_bits_deBruijn32tab).toArray
  let h5 := put h4 3 (flat1 Rows.laid_math_bits_deBruijn64tab).toArray
  { w0 with heap := h5 }
set_option maxRecDepth 1000000 in
theorem laid_met (os : Os) (args : Array Value) : laidMet Tryd.prog laidL ((laidWorld os).forCall (fun _ _ => 0) ⟨#[], args, []⟩).memory :=
  laidMet_of_run' 10 (by kernel_rfl) (by kernel_rfl)
end Go.Sy
