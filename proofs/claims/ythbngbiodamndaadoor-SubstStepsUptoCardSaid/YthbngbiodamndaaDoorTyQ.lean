/- What the rows of bulk at most 1048576 give their walks: types and arenas among the arguments, their words of no great length. -/
import Derived.Test.YthbngbiodamndaaDoorTyR
import Derived.Test.YthbngbiodamndaaDoorFwY
import Derived.Test.YthbngbiodamndaaDoorSubL
namespace Go.Sy
open Go Go.Proofs Go.RowKit Go.ChangeShapes Go.WideShapes Go.Joins Go.Deep Go.Proofs.YthbngbiodamndaaDoor
set_option maxRecDepth 100000

section
variable {Ht : Type} {enc : TypeId × Value → Ht} {W : World} {r : Reach} {b0 : Nat} {v : Value} {d : DataW Ht} {p : List MemPlace}
theorem bulk_part {d : DataW Ht} {l : List (DataW Ht)} (h : d ∈ l) : Rows.uptoBulk d ≤ Rows.uptoBulkAll l := by
  induction l with
  | nil => cases h
  | cons x r ih =>
    simp only [Rows.uptoBulkAll]
    rcases List.mem_cons.1 h with e | e
    · subst e; omega
    · have := ih e; omega
theorem bulk_slice (el sp : List (DataW Ht)) (d : DataW Ht) (h : d ∈ el) : Rows.uptoBulk d ≤ Rows.uptoBulk (.slice el sp) := by
  have := bulk_part h
  simp only [Rows.uptoBulk]; omega
theorem bulk_agg {ps : List (DataW Ht)} {d : DataW Ht} (h : d ∈ ps) : Rows.uptoBulk d ≤ Rows.uptoBulk (.agg ps) := by
  have := bulk_part h
  simp only [Rows.uptoBulk]; omega
theorem bulk_text (s : List UInt8) : s.length ≤ Rows.uptoBulk (DataW.lit (H := Ht) (.string s)) := by simp only [Rows.uptoBulk]; omega
theorem words_small {B n : Nat} {v3 : Value} {y3 : DataW Ht × List MemPlace} (h : DataW.trod enc Tryd.prog W 0 (fun _ => true) true n 28 [v3] = some y3) (hB : Rows.uptoBulk y3.1 ≤ B) :
    ∃ (a : Option Addr) (k c : Nat) (l : List (List UInt8)), v3 = .slice a k c ∧ (Fact.slc (.slice a k c) 1 (l.map eS)).holds (cellsOfW W) ∧ ∀ s ∈ l, s.length ≤ B := by
  obtain ⟨a, k, c, l, e, f, _, hp⟩ := fact_sliceB (sz := 1) Rows.uptoBulk B bulk_slice eS (fun s => s.length ≤ B) Tryd.underlying28 (by kernel_rfl) (by decide) (fun _ => rfl) h hB (fun n cs y' hl hb hy => by
    obtain ⟨s, rfl, rfl, _⟩ := DataW.trod_string Tryd.underlying9 hy
    exact ⟨s.data.toList, Nat.le_trans (bulk_text (Ht := Ht) _) hb, RowReads.cons (by cases s; exact .val _) RowReads.nil⟩)
  exact ⟨a, k, c, l, e, f, hp⟩
theorem ty_fieldsB {v0 v1 v2 v3 v4 : Value} {y0 y1 y2 y3 y4 : DataW Ht × List MemPlace} {n B : Nat} (h0 : DataW.trod enc Tryd.prog W 0 (fun _ => true) true n 3 [v0] = some y0) (h1 : DataW.trod enc Tryd.prog W 0 (fun _ => true) true n 9 [v1] = some y1) (h2 : DataW.trod enc Tryd.prog W 0 (fun _ => true) true n 3 [v2] = some y2)
    (h3 : DataW.trod enc Tryd.prog W 0 (fun _ => true) true n 28 [v3] = some y3) (h4 : DataW.trod enc Tryd.prog W 0 (fun _ => true) true n 29 [v4] = some y4) (hB : Rows.uptoBulk y3.1 ≤ B) :
    ∃ (t : Ty) (a1 : Option Addr) (k1 c1 : Nat) (a2 : Option Addr) (k2 c2 : Nat), v0 = .int .i64 t.kind ∧ v1 = S t.name ∧ v2 = .int .i64 t.n ∧ v3 = .slice a1 k1 c1 ∧ v4 = .slice a2 k2 c2 ∧ TyIn t ∧ (∀ w ∈ t.words, w.length ≤ B) ∧ (fW t a1 k1 c1).holds (cellsOfW W) ∧ (fK t a2 k2 c2).holds (cellsOfW W) := by
  obtain ⟨i0, e0, _, w0⟩ := DataW.trod_int Tryd.underlying3 h0
  obtain ⟨s, e1, _, _⟩ := DataW.trod_string Tryd.underlying9 h1
  obtain ⟨i2, e2, _, w2⟩ := DataW.trod_int Tryd.underlying3 h2
  obtain ⟨a1, k1, c1, l1, rfl, f1, b1⟩ := words_small h3 hB
  obtain ⟨a2, k2, c2, l2, rfl, f2, _, b2⟩ := open_ints h4
  simp only [List.cons.injEq, and_true] at e0 e1 e2
  subst e0 e1 e2
  exact ⟨⟨i0, s.data.toList, i2, l1, l2⟩, a1, k1, c1, a2, k2, c2, rfl, by cases s; simp [S], rfl, rfl, rfl, ⟨in64_of_wf w0, in64_of_wf w2, b2⟩, b1, f1, f2⟩
theorem ty_rowB {n : Nat} {cs : List Value} {y' : DataW Ht × List MemPlace} (hl : cs.length = 5) (hB : Rows.uptoBulk y'.1 ≤ 1048576) (h : DataW.trod enc Tryd.prog W 0 (fun _ => true) true n 31 cs = some y') : ∃ t : Ty, TyUp t ∧ RowReads W cs (eTy t) := by
  obtain ⟨c0, c1, c2, c3, c4, rfl⟩ := list5 hl
  obtain ⟨y0, y1, y2, y3, y4, m, rfl, _, h0, h1, h2, h3, h4⟩ := trod_struct5 Tryd.underlying31 h
  obtain ⟨t, a1, k1, z1, a2, k2, z2, rfl, rfl, rfl, rfl, rfl, hin, hw, f1, f2⟩ := ty_fieldsB (B := 1048576) h0 h1 h2 h3 h4 (Nat.le_trans (bulk_agg (by simp)) hB)
  exact ⟨t, ⟨hin, hw⟩, .cons (.val _) (.cons (.val _) (.cons (.val _) (.cons f1 (.cons f2 .nil))))⟩
theorem open_tysB (hv : Value.okWide Tryd.prog W r b0 22 v) (h : DataW.Trod enc Tryd.prog W 0 (fun _ => true) true 22 v d p) (hB : Rows.uptoBulk d ≤ 1048576) :
    ∃ (a : Option Addr) (k c : Nat) (l : List Ty), v = .slice a k c ∧ (fL l a k c).holds (cellsOfW W) ∧ ∀ t ∈ l, TyUp t := by
  obtain ⟨a0, k0, c0, rfl⟩ := okWide_slice Tryd.underlying22 hv
  obtain ⟨fuel, hf⟩ := h
  obtain ⟨a, k, c, l, e, f, _, hp⟩ := fact_sliceB (sz := 5) Rows.uptoBulk 1048576 bulk_slice eTy TyUp Tryd.underlying22 (by kernel_rfl) (by decide) (fun _ => rfl) hf hB (fun n cs y' hl hb hy => ty_rowB hl hb hy)
  exact ⟨a, k, c, l, e, f, hp⟩
end
end Go.Sy
