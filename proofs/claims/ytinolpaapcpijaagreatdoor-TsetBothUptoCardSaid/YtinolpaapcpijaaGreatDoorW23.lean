/- Joined of my own texts: TyR, FwY, TyQ, UnR, SeR. -/
import Derived.Test.YtinolpaapcpijaaGreatDoorW22
import Derived.Test.YtinolpaapcpijaaGreatDoorRows
import Derived.Lib.LaidIn
import Derived.ChangeMaps5
namespace Go.Sy
open Go Go.Proofs Go.RowKit Go.ChangeShapes Go.WideShapes Go.Joins Go.Deep Go.Proofs.YtinolpaapcpijaaGreatDoor
set_option maxRecDepth 100000
theorem own : ownKnob Tryz.prog.godebug = none := by kernel_rfl
theorem laidOut : laidOutB Tryz.prog = true := by kernel_rfl
def laidL : List (String × DataW Unit) := [("math/bits.deBruijn32tab", Rows.laid_math_bits_deBruijn32tab), ("math/bits.deBruijn64tab", Rows.laid_math_bits_deBruijn64tab), ("internal/strconv.uint64pow10", Rows.laid_internal_strconv_uint64pow10)]
theorem pow_eq : (Rows.laid_internal_strconv_uint64pow10 : DataW Unit) = Lib.tabData .u64 Lib.pow10Tab := by kernel_rfl
theorem glob_of {W : World} (hL : laidMetH Tryz.prog laidL W) (hsh : W.ShapedOpen Tryz.prog) : Glob W := by
  refine ⟨?_, ?_⟩
  · exact cell_of_shapedOpen_int (P := Tryz.prog) (g := 0) (t := 3) (zero := #[.int .i64 0]) hsh (of_decide_eq_true HV) HV rfl HV HV Tryz.underlying3
  have h1 : laidMet Tryz.prog laidL W := hL
  have h2 : laidMet Tryz.prog (("internal/strconv.uint64pow10", Rows.laid_internal_strconv_uint64pow10) :: laidL.drop 3) W := laidMet.tail (laidMet.tail h1)
  rw [pow_eq] at h2
  exact Lib.tabIs_of_head (g := 1) (t := 316) (e := 259) (n := 20) HV HV Tryz.underlying316 Tryz.underlying259 HV HV h2
instance : Inhabited Ty := ⟨⟨0, [], 0, [], []⟩⟩
section
variable {Ht : Type} {enc : TypeId × Value → Ht} {W : World} {r : Reach} {b0 : Nat} {v : Value} {d : DataW Ht} {p : List MemPlace}
theorem open_ints {fuel : Nat} {y : DataW Ht × List MemPlace} (h : DataW.trod enc Tryz.prog W 0 (fun _ => true) true fuel 27 [v] = some y) :
    ∃ (a : Option Addr) (k c : Nat) (l : List Int), v = .slice a k c ∧ (Fact.slc (.slice a k c) 1 (l.map eI)).holds (cellsOfW W) ∧ l.length ≤ maxLen ∧ ∀ x ∈ l, -9223372036854775808 ≤ x ∧ x ≤ 9223372036854775807 :=
  fact_slice (sz := 1) eI (fun x => -9223372036854775808 ≤ x ∧ x ≤ 9223372036854775807) Tryz.underlying27 HV (by decide) (fun _ => rfl) h (fun n cs y' hl hy => by
    obtain ⟨i, rfl, _, w⟩ := DataW.trod_int Tryz.underlying3 hy
    exact ⟨i, in64_of_wf w, RowReads.cons (.val _) RowReads.nil⟩)
theorem list5 {α : Type} {l : List α} (h : l.length = 5) : ∃ a b c d e, l = [a, b, c, d, e] := by
  match l, h with
  | [a, b, c, d, e], _ => exact ⟨a, b, c, d, e, rfl⟩
end
def flat1 : DataW Unit → List Value
  | .agg xs => xs.map fun | .lit (.int k n) => .int k n | _ => .nilIface
  | _ => []
noncomputable def laidWorld (os : Os) : World :=
  let w0 := World.holding Tryz.prog os ⟨#[], #[], []⟩
  let put (h : Array Obj) (g : Nat) (cs : Array Value) : Array Obj := h.modify g fun
    | .cells _ t frozen => .cells cs t frozen
    | o => o
  let h3 := put w0.heap 1 (flat1 Rows.laid_internal_strconv_uint64pow10).toArray
  let h4 := put h3 2 (flat1 Rows.laid_math_bits_deBruijn32tab).toArray
  let h5 := put h4 3 (flat1 Rows.laid_math_bits_deBruijn64tab).toArray
  { w0 with heap := h5 }
set_option maxRecDepth 1000000 in
theorem laid_met (os : Os) (args : Array Value) : laidMet Tryz.prog laidL ((laidWorld os).forCall (fun _ _ => 0) ⟨#[], args, []⟩).memory :=
  laidMet_of_run' 10 HV HV
end Go.Sy
namespace Go.Sy
open Go Go.Proofs Go.RowKit Go.ChangeShapes Go.WideShapes Go.Joins Go.Deep
section
variable {Ht : Type} {enc : TypeId × Value → Ht} {P : Program} {W : World}
theorem fact_sliceB (μ : DataW Ht → Nat) (B : Nat) (hμ : ∀ (el sp : List (DataW Ht)) (d : DataW Ht), d ∈ el → μ d ≤ μ (.slice el sp)) {t e : TypeId} {fuel sz : Nat} {v : Value} {y : DataW Ht × List MemPlace} {α : Type} [Inhabited α] (en : α → List D) (Pa : α → Prop) (ht : P.underlying t = some (.slice e)) (hc : P.cellsOf e = sz) (hsz0 : 0 < sz) (hsz : ∀ x, (en x).length = sz)
    (h : DataW.trod enc P W 0 (fun _ => true) true fuel t [v] = some y) (hB : μ y.1 ≤ B)
    (hrow : ∀ (n : Nat) (cs : List Value) (y' : DataW Ht × List MemPlace), cs.length = sz → μ y'.1 ≤ B → DataW.trod enc P W 0 (fun _ => true) true n e cs = some y' → ∃ x : α, Pa x ∧ RowReads W cs (en x)) :
    ∃ (a : Option Addr) (k c : Nat) (l : List α), v = .slice a k c ∧ (Fact.slc (.slice a k c) sz (l.map en)).holds (cellsOfW W) ∧ l.length ≤ maxLen ∧ ∀ x ∈ l, Pa x := by
  rcases open_slice ht h with ⟨hcs, _⟩ | ⟨a, len, cap, m, n, D, Pl, hcs, _, hl, hm, hz, hy, hx⟩
  · simp only [List.cons.injEq, and_true] at hcs
    subst hcs
    exact ⟨none, 0, 0, [], rfl, .nil sz none 0 (fun _ => rfl), Nat.zero_le _, fun s hs => by cases hs⟩
  simp only [List.cons.injEq, and_true] at hcs
  subst hcs
  simp only [if_true] at hz
  subst hz
  rcases Nat.eq_zero_or_pos len with h0 | h0
  · subst h0
    exact ⟨some a, 0, m, [], rfl, .nil sz (some a) m (fun e => by cases e), Nat.zero_le _, fun s hs => by cases hs⟩
  obtain ⟨X, hX⟩ := choose_lt (α := α × List Value) (n := len) (p := fun i x => W.cells? 0 (a.add (i * P.cellsOf e)) (P.cellsOf e) = some x.2 ∧ Pa x.1 ∧ RowReads W x.2 (en x.1)) (fun i hi => by
    obtain ⟨cs', h1, h2⟩ := hx i HW
    obtain ⟨_, hlen, _⟩ := World.cells?_some h1
    obtain ⟨x, hp, hr⟩ := hrow n cs' _ (by rw [hlen, hc]) (Nat.le_trans (hμ _ _ _ (List.mem_map.2 ⟨i, List.mem_range.2 hi, rfl⟩)) (by rw [hy] at hB; exact hB)) h2
    exact ⟨(x, cs'), h1, hp, hr⟩)
  rw [hc] at hX
  have hcell : ∀ i, i < len → ∀ j, j < sz → W.cell? ((a.add (i * sz)).add j) = (X i).2[j]? ∧ j < (X i).2.length := by
    intro i hi j hj
    obtain ⟨h1, _, _⟩ := hX i hi
    obtain ⟨_, hlen, hcc⟩ := World.cells?_some h1
    exact ⟨hcc j hj, by omega⟩
  obtain ⟨b, off, spot⟩ := a
  have hspot : spot = none := by
    obtain ⟨h1, h2⟩ := hcell 0 h0 0 hsz0
    rw [List.getElem?_eq_getElem h2] at h1
    have := World.cell?_spot h1
    simpa [Addr.add] using this
  subst hspot
  have hget : ∀ i, ((List.range len).map fun i => (X i).1)[i]? = if i < len then some (X i).1 else none := by
    intro i
    by_cases hi : i < len
    · rw [List.getElem?_map, List.getElem?_range hi, if_pos hi]; rfl
    rw [List.getElem?_eq_none (by simp; omega), if_neg hi]
  have key : ∀ (i : Nat) (r : List Go.Sy.D), (((List.range len).map fun i => (X i).1).map en)[i]? = some r → i < len ∧ r = en (X i).1 := by
    intro i r hi
    rw [List.getElem?_map, hget] at hi
    by_cases hil : i < len
    · rw [if_pos hil] at hi; simp at hi; exact ⟨hil, hi.symm⟩
    rw [if_neg hil] at hi; simp at hi
  refine ⟨some ⟨b, off, none⟩, len, m, (List.range len).map fun i => (X i).1, rfl, ?_, by simp; omega, ?_⟩
  · have hlen' : (((List.range len).map fun i => (X i).1).map en).length = len := by simp
    have := CR.slc (h := cellsOfW W) sz (((List.range len).map fun i => (X i).1).map en) b off m (fun i j => (X i).2.getD j undef) HW hm
      (fun i r hi => by obtain ⟨_, rfl⟩ := key i r hi; exact hsz _)
      (fun i r j d hi hj => by
        obtain ⟨hil, rfl⟩ := key i r hi
        have hjs : j < sz := by
          have := (List.getElem?_eq_some_iff.1 hj).1
          rwa [hsz] at this
        obtain ⟨h1, h2⟩ := hcell i hil j hjs
        rw [Addr.add_lit, Addr.add_lit] at h1
        show W.cell? _ = _
        rw [h1, List.getD, List.getElem?_eq_getElem h2]; rfl)
      (fun i r j d hi hj => by
        obtain ⟨hil, rfl⟩ := key i r hi
        obtain ⟨_, _, hr⟩ := hX i hil
        obtain ⟨u, hu, hcu⟩ := hr j d hj
        rw [List.getD, hu]; exact hcu)
    rw [hlen'] at this
    exact this
  intro x hx
  obtain ⟨i, hi, rfl⟩ := List.mem_map.1 hx
  exact (hX i (by simpa using hi)).2.1
end
end Go.Sy
namespace Go.Sy
open Go Go.Proofs Go.RowKit Go.ChangeShapes Go.WideShapes Go.Joins Go.Deep Go.Proofs.YtinolpaapcpijaaGreatDoor
set_option maxRecDepth 100000
section
variable {Ht : Type} {enc : TypeId × Value → Ht} {W : World} {r : Reach} {b0 : Nat} {v : Value} {d : DataW Ht} {p : List MemPlace}
theorem bulk_part {d : DataW Ht} {l : List (DataW Ht)} (h : d ∈ l) : Rows.uptoBulk d ≤ Rows.uptoBulkAll l := by
  induction l with
  | nil => cases h
  | cons x r ih =>
    simp only [Rows.uptoBulkAll]
    rcases List.mem_cons.1 h with e | e
    · subst e; omega
    have := ih e; omega
theorem bulk_slice (el sp : List (DataW Ht)) (d : DataW Ht) (h : d ∈ el) : Rows.uptoBulk d ≤ Rows.uptoBulk (.slice el sp) := by
  have := bulk_part h
  simp only [Rows.uptoBulk]; omega
theorem bulk_agg {ps : List (DataW Ht)} {d : DataW Ht} (h : d ∈ ps) : Rows.uptoBulk d ≤ Rows.uptoBulk (.agg ps) := by
  have := bulk_part h
  simp only [Rows.uptoBulk]; omega
theorem bulk_text (s : List UInt8) : s.length ≤ Rows.uptoBulk (DataW.lit (H := Ht) (.string s)) := by simp only [Rows.uptoBulk]; omega
theorem words_small {B n : Nat} {v3 : Value} {y3 : DataW Ht × List MemPlace} (h : DataW.trod enc Tryz.prog W 0 (fun _ => true) true n 26 [v3] = some y3) (hB : Rows.uptoBulk y3.1 ≤ B) :
    ∃ (a : Option Addr) (k c : Nat) (l : List (List UInt8)), v3 = .slice a k c ∧ (Fact.slc (.slice a k c) 1 (l.map eS)).holds (cellsOfW W) ∧ ∀ s ∈ l, s.length ≤ B := by
  obtain ⟨a, k, c, l, e, f, _, hp⟩ := fact_sliceB (sz := 1) Rows.uptoBulk B bulk_slice eS (fun s => s.length ≤ B) Tryz.underlying26 HV (by decide) (fun _ => rfl) h hB (fun n cs y' hl hb hy => by
    obtain ⟨s, rfl, rfl, _⟩ := DataW.trod_string Tryz.underlying9 hy
    exact ⟨s.data.toList, Nat.le_trans (bulk_text (Ht := Ht) _) hb, RowReads.cons (by cases s; exact .val _) RowReads.nil⟩)
  exact ⟨a, k, c, l, e, f, hp⟩
theorem ty_fieldsB {v0 v1 v2 v3 v4 : Value} {y0 y1 y2 y3 y4 : DataW Ht × List MemPlace} {n B : Nat} (h0 : DataW.trod enc Tryz.prog W 0 (fun _ => true) true n 3 [v0] = some y0) (h1 : DataW.trod enc Tryz.prog W 0 (fun _ => true) true n 9 [v1] = some y1) (h2 : DataW.trod enc Tryz.prog W 0 (fun _ => true) true n 3 [v2] = some y2)
    (h3 : DataW.trod enc Tryz.prog W 0 (fun _ => true) true n 26 [v3] = some y3) (h4 : DataW.trod enc Tryz.prog W 0 (fun _ => true) true n 27 [v4] = some y4) (hB : Rows.uptoBulk y3.1 ≤ B) :
    ∃ (t : Ty) (a1 : Option Addr) (k1 c1 : Nat) (a2 : Option Addr) (k2 c2 : Nat), v0 = .int .i64 t.kind ∧ v1 = S t.name ∧ v2 = .int .i64 t.n ∧ v3 = .slice a1 k1 c1 ∧ v4 = .slice a2 k2 c2 ∧ TyIn t ∧ (∀ w ∈ t.words, w.length ≤ B) ∧ (fW t a1 k1 c1).holds (cellsOfW W) ∧ (fK t a2 k2 c2).holds (cellsOfW W) := by
  obtain ⟨i0, e0, _, w0⟩ := DataW.trod_int Tryz.underlying3 h0
  obtain ⟨s, e1, _, _⟩ := DataW.trod_string Tryz.underlying9 h1
  obtain ⟨i2, e2, _, w2⟩ := DataW.trod_int Tryz.underlying3 h2
  obtain ⟨a1, k1, c1, l1, rfl, f1, b1⟩ := words_small h3 hB
  obtain ⟨a2, k2, c2, l2, rfl, f2, _, b2⟩ := open_ints h4
  simp only [List.cons.injEq, and_true] at e0 e1 e2
  subst e0 e1 e2
  exact ⟨⟨i0, s.data.toList, i2, l1, l2⟩, a1, k1, c1, a2, k2, c2, rfl, by cases s; simp [S], rfl, rfl, rfl, ⟨in64_of_wf w0, in64_of_wf w2, b2⟩, b1, f1, f2⟩
theorem ty_rowB {n : Nat} {cs : List Value} {y' : DataW Ht × List MemPlace} (hl : cs.length = 5) (hB : Rows.uptoBulk y'.1 ≤ 1048576) (h : DataW.trod enc Tryz.prog W 0 (fun _ => true) true n 29 cs = some y') : ∃ t : Ty, TyUp t ∧ RowReads W cs (eTy t) := by
  obtain ⟨c0, c1, c2, c3, c4, rfl⟩ := list5 hl
  obtain ⟨y0, y1, y2, y3, y4, m, rfl, _, h0, h1, h2, h3, h4⟩ := trod_struct5 Tryz.underlying29 h
  obtain ⟨t, a1, k1, z1, a2, k2, z2, rfl, rfl, rfl, rfl, rfl, hin, hw, f1, f2⟩ := ty_fieldsB (B := 1048576) h0 h1 h2 h3 h4 (Nat.le_trans (bulk_agg (by simp)) hB)
  exact ⟨t, ⟨hin, hw⟩, .cons (.val _) (.cons (.val _) (.cons (.val _) (.cons f1 (.cons f2 .nil))))⟩
end
end Go.Sy
namespace Go.Sy
open Go Go.Proofs Go.RowKit Go.ChangeShapes Go.WideShapes Go.Joins Go.Deep Go.Proofs.YtinolpaapcpijaaGreatDoor
set_option maxRecDepth 100000
section
variable {Ht : Type} {enc : TypeId × Value → Ht} {W : World} {r : Reach} {b0 : Nat} {v : Value} {d : DataW Ht} {p : List MemPlace}
theorem list4 {α : Type} {l : List α} (h : l.length = 4) : ∃ a b c d, l = [a, b, c, d] := by
  match l, h with
  | [a, b, c, d], _ => exact ⟨a, b, c, d, rfl⟩
theorem list3 {α : Type} {l : List α} (h : l.length = 3) : ∃ a b c, l = [a, b, c] := by
  match l, h with
  | [a, b, c], _ => exact ⟨a, b, c, rfl⟩
theorem mt_rowB {n : Nat} {cs : List Value} {y' : DataW Ht × List MemPlace} (hl : cs.length = 3) (hB : Rows.uptoBulk y'.1 ≤ 1048576) (h : DataW.trod enc Tryz.prog W 0 (fun _ => true) true n 44 cs = some y') :
    ∃ m : Mth, ((-9223372036854775808 ≤ m.sig ∧ m.sig ≤ 9223372036854775807) ∧ m.name.length ≤ 1048576) ∧ RowReads W cs (eMt m) := by
  obtain ⟨c0, c1, c2, rfl⟩ := list3 hl
  obtain ⟨y0, y1, y2, m, rfl, _, h0, h1, h2⟩ := trod_struct3 Tryz.underlying44 h
  obtain ⟨s, e0, q0, _⟩ := DataW.trod_string Tryz.underlying9 h0
  obtain ⟨b, e1, _⟩ := DataW.trod_bool Tryz.underlying4 h1
  obtain ⟨i, e2, _, w2⟩ := DataW.trod_int Tryz.underlying3 h2
  have hs : s.data.toList.length ≤ 1048576 := by
    have h9 := Nat.le_trans (bulk_agg (d := y0.1) (by simp)) hB
    rw [q0] at h9
    exact Nat.le_trans (bulk_text (Ht := Ht) _) h9
  replace e0 : [c0] = [_] := e0
  replace e1 : [c1] = [_] := e1
  replace e2 : [c2] = [_] := e2
  simp only [List.cons.injEq, and_true] at e0 e1 e2
  subst e0 e1 e2
  exact ⟨⟨s.data.toList, b, i⟩, ⟨in64_of_wf w2, hs⟩, .cons (by cases s; exact .val _) (.cons (.val _) (.cons (.val _) .nil))⟩
theorem nm_rowB {n : Nat} {cs : List Value} {y' : DataW Ht × List MemPlace} (hl : cs.length = 4) (hB : Rows.uptoBulk y'.1 ≤ 1048576) (h : DataW.trod enc Tryz.prog W 0 (fun _ => true) true n 78 cs = some y') :
    ∃ m : Nmd, NmUp m ∧ RowReads W cs (eNm m) := by
  obtain ⟨c0, c1, c2, c3, rfl⟩ := list4 hl
  obtain ⟨y0, y1, y2, y3, m, rfl, _, h0, h1, h2, h3⟩ := trod_struct4 Tryz.underlying78 h
  obtain ⟨s, e0, _, _⟩ := DataW.trod_string Tryz.underlying9 h0
  obtain ⟨a1, k1, z1, l1, e1, f1, _, b1⟩ := open_ints (v := c1) h1
  obtain ⟨i, e2, _, w2⟩ := DataW.trod_int Tryz.underlying3 h2
  obtain ⟨a3, k3, z3, l3, e3, f3, _, b3⟩ := fact_sliceB (sz := 3) Rows.uptoBulk 1048576 bulk_slice eMt (fun m => (-9223372036854775808 ≤ m.sig ∧ m.sig ≤ 9223372036854775807) ∧ m.name.length ≤ 1048576) (v := c3) Tryz.underlying40 HV (by decide) (fun _ => rfl) h3 (Nat.le_trans (bulk_agg (by simp)) hB) (fun n cs y' hl hb hy => mt_rowB hl hb hy)
  replace e0 : [c0] = [_] := e0
  replace e2 : [c2] = [_] := e2
  simp only [List.cons.injEq, and_true] at e0 e2
  subst e0 e1 e2 e3
  exact ⟨⟨s.data.toList, l1, i, l3⟩, ⟨in64_of_wf w2, b1, fun x hx => (b3 x hx).1, fun x hx => (b3 x hx).2⟩, .cons (by cases s; exact .val _) (.cons f1 (.cons (.val _) (.cons f3 .nil)))⟩
theorem open_unit (hv : Value.okWide Tryz.prog W r b0 25 v) (h : DataW.Trod enc Tryz.prog W 0 (fun _ => true) true 25 v d p) (hB : Rows.uptoBulk d ≤ 1048576) :
    ∃ (a : Option Addr) (k c : Nat) (a2 : Option Addr) (k2 c2 : Nat) (l : List Ty) (N : List Nmd), v = .agg #[.slice a k c, .slice a2 k2 c2] ∧ (fL l a k c).holds (cellsOfW W) ∧ (fN N a2 k2 c2).holds (cellsOfW W) ∧ (∀ t ∈ l, TyUp t) ∧ ∀ n ∈ N, NmUp n := by
  obtain ⟨v0, v1, y0, y1, n, rfl, rfl, _, h0, h1⟩ := open_agg2 Tryz.underlying25 HV HV hv h
  obtain ⟨a, k, c, l, e, f, _, hp⟩ := fact_sliceB (sz := 5) Rows.uptoBulk 1048576 bulk_slice eTy TyUp Tryz.underlying22 HV (by decide) (fun _ => rfl) h0 (Nat.le_trans (bulk_agg (by simp)) hB) (fun n cs y' hl hb hy => ty_rowB hl hb hy)
  obtain ⟨a2, k2, c2, N, e2, f2, _, hp2⟩ := fact_sliceB (sz := 4) Rows.uptoBulk 1048576 bulk_slice eNm NmUp Tryz.underlying23 HV (by decide) (fun _ => rfl) h1 (Nat.le_trans (bulk_agg (by simp)) hB) (fun n cs y' hl hb hy => nm_rowB hl hb hy)
  subst e e2
  exact ⟨a, k, c, a2, k2, c2, l, N, rfl, f, f2, hp, hp2⟩
end
end Go.Sy
namespace Go.Sy
open Go Go.Proofs Go.RowKit Go.ChangeShapes Go.WideShapes Go.Joins Go.Deep Go.Proofs.YtinolpaapcpijaaGreatDoor
set_option maxRecDepth 100000
section
variable {Ht : Type} {enc : TypeId × Value → Ht} {W : World} {r : Reach} {b0 : Nat} {v : Value} {d : DataW Ht} {p : List MemPlace}
end
end Go.Sy
