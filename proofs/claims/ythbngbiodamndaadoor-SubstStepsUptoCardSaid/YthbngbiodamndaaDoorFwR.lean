/- The frame at a statement's row: what the readings of arguments are as facts; a call that leaves all as it was meets what the row asks behind it. No program in sight. -/
import Derived.Test.YthbngbiodamndaaDoorFwL
import Derived.Carry
import Derived.SliceStrings
import Derived.Lib.SmallJoins
import Derived.Deep.DeepHandedRow
import Derived.Lib.LaidTab
import Derived.Stop.LaidErr
import Derived.Shelf.Vars
namespace Go.Sy
open Go Go.Proofs Go.RowKit Go.ChangeShapes Go.WideShapes Go.Joins Go.Deep

section
variable {H : Type} {enc : TypeId × Value → H} {P : Program} {w : World} {base : Nat} {spare : Nat → Bool} {held : Bool}
theorem trod_struct5 {t : TypeId} {f0 f1 f2 f3 f4 : Field} {fuel : Nat} {cs : List Value} {x : DataW H × List MemPlace} (ht : P.underlying t = some (.struct #[f0, f1, f2, f3, f4])) (h : DataW.trod enc P w base spare held fuel t cs = some x) :
    ∃ y0 y1 y2 y3 y4 n, x = (.agg [y0.1, y1.1, y2.1, y3.1, y4.1], y0.2 ++ (y1.2 ++ (y2.2 ++ (y3.2 ++ y4.2)))) ∧ cs.length = P.cellsOf t ∧ DataW.trod enc P w base spare held n f0.type ((cs.drop f0.offset).take (P.cellsOf f0.type)) = some y0 ∧
      DataW.trod enc P w base spare held n f1.type ((cs.drop f1.offset).take (P.cellsOf f1.type)) = some y1 ∧ DataW.trod enc P w base spare held n f2.type ((cs.drop f2.offset).take (P.cellsOf f2.type)) = some y2 ∧
      DataW.trod enc P w base spare held n f3.type ((cs.drop f3.offset).take (P.cellsOf f3.type)) = some y3 ∧ DataW.trod enc P w base spare held n f4.type ((cs.drop f4.offset).take (P.cellsOf f4.type)) = some y4 := by
  obtain ⟨xs, n, _, rfl, hl, hlen, hf⟩ := DataW.trod_struct ht h
  match xs, hlen with
  | [y0, y1, y2, y3, y4], _ => exact ⟨y0, y1, y2, y3, y4, n, by simp, hl, by simpa using hf 0 f0 rfl, by simpa using hf 1 f1 rfl, by simpa using hf 2 f2 rfl, by simpa using hf 3 f3 rfl, by simpa using hf 4 f4 rfl⟩
theorem array5 {α : Type} {cs : Array α} (h : cs.size = 5) : ∃ c0 c1 c2 c3 c4, cs = #[c0, c1, c2, c3, c4] := by
  obtain ⟨l⟩ := cs
  match l, h with
  | [c0, c1, c2, c3, c4], _ => exact ⟨c0, c1, c2, c3, c4, rfl⟩
theorem open_agg5 {r : Reach} {b0 : Nat} {t : TypeId} {f0 f1 f2 f3 f4 : Field} {v : Value} {d : DataW H} {p : List MemPlace} (hs : P.underlying t = some (.struct #[f0, f1, f2, f3, f4])) (hone : oneCellFields P #[f0, f1, f2, f3, f4] = true) (hC : P.cellsOf t = 5)
    (hv : Value.okWide P w r b0 t v) (h : DataW.Trod enc P w base spare held t v d p) :
    ∃ (v0 v1 v2 v3 v4 : Value) (y0 y1 y2 y3 y4 : DataW H × List MemPlace) (n : Nat), v = .agg #[v0, v1, v2, v3, v4] ∧
      DataW.trod enc P w base spare held n f0.type [v0] = some y0 ∧ DataW.trod enc P w base spare held n f1.type [v1] = some y1 ∧ DataW.trod enc P w base spare held n f2.type [v2] = some y2 ∧ DataW.trod enc P w base spare held n f3.type [v3] = some y3 ∧ DataW.trod enc P w base spare held n f4.type [v4] = some y4 := by
  obtain ⟨cs, rfl, hsz⟩ := okWide_struct hs hv
  obtain ⟨c0, c1, c2, c3, c4, rfl⟩ := array5 (hsz.trans hC)
  obtain ⟨fuel, hf⟩ := h
  obtain ⟨y0, y1, y2, y3, y4, n, hx, _, h0, h1, h2, h3, h4⟩ := trod_struct5 hs hf
  obtain ⟨o0, k0⟩ := hone_of hone 0 f0 rfl
  obtain ⟨o1, k1⟩ := hone_of hone 1 f1 rfl
  obtain ⟨o2, k2⟩ := hone_of hone 2 f2 rfl
  obtain ⟨o3, k3⟩ := hone_of hone 3 f3 rfl
  obtain ⟨o4, k4⟩ := hone_of hone 4 f4 rfl
  exact ⟨c0, c1, c2, c3, c4, y0, y1, y2, y3, y4, n, rfl, by simpa [Value.cells, o0, k0] using h0, by simpa [Value.cells, o1, k1] using h1, by simpa [Value.cells, o2, k2] using h2, by simpa [Value.cells, o3, k3] using h3, by simpa [Value.cells, o4, k4] using h4⟩
end

/-- The cells of a world, as those that are never written again. -/
def cellsOfW (W : World) : H := fun b o => W.cell? ⟨b, o, none⟩

section
variable {Ht : Type} {enc : TypeId × Value → Ht} {P : Program} {W : World}
/-- A slice of strings that is read: as a fact. -/
theorem fact_strings {t e : TypeId} {fuel : Nat} {v : Value} {y : DataW Ht × List MemPlace} (ht : P.underlying t = some (.slice e)) (he : P.underlying e = some .string) (hc : P.cellsOf e = 1)
    (h : DataW.trod enc P W 0 (fun _ => true) true fuel t [v] = some y) :
    ∃ (a : Option Addr) (k c : Nat) (l : List (List UInt8)), v = .slice a k c ∧ (Fact.slc (.slice a k c) 1 (l.map fun s => [D.val (S s)])).holds (cellsOfW W) ∧ l.length ≤ maxLen ∧ ∀ s ∈ l, s.length ≤ maxLen := by
  rcases open_strings ht he hc h with ⟨hcs, _⟩ | ⟨a, len, cap, ss, hcs, _, hl, hm, hz, _, hcell, hsz⟩
  · simp only [List.cons.injEq, and_true] at hcs
    subst hcs
    exact ⟨none, 0, 0, [], rfl, .nil 1 none 0 (fun _ => rfl), by decide, fun s hs => by cases hs⟩
  · simp only [List.cons.injEq, and_true] at hcs
    subst hcs
    simp only [if_true] at hz
    refine ⟨some a, len, cap, (ss.take len).map fun s => s.data.toList, rfl, ?_, by simp; omega, ?_⟩
    · rcases Nat.eq_zero_or_pos len with h0 | h0
      · subst h0
        exact .nil 1 (some a) cap (fun e => by cases e)
      · obtain ⟨b, off, spot⟩ := a
        have hspot : spot = none := by simpa [Addr.add] using World.cell?_spot (hcell 0 (by omega))
        subst hspot
        have hlen : ((ss.take len).map fun s => s.data.toList).length = len := by simp; omega
        have hlen' : (((ss.take len).map fun s => s.data.toList).map fun s => [D.val (S s)]).length = len := by simp; omega
        have key : ∀ (i : Nat) (r : List D) (j : Nat) (d : D), (((ss.take len).map fun s => s.data.toList).map fun s => [D.val (S s)])[i]? = some r → r[j]? = some d →
            j = 0 ∧ i < len ∧ d = .val (.string (ss.getD i ByteArray.empty)) := by
          intro i r j d hi hj
          simp only [List.getElem?_map, Option.map_map, Option.map_eq_some_iff] at hi
          obtain ⟨s, hs, rfl⟩ := hi
          have hi : i < len := by
            have := (List.getElem?_eq_some_iff.1 hs).1
            simp at this; omega
          rw [List.getElem?_take, if_pos hi] at hs
          have hj0 : j = 0 := by
            have := (List.getElem?_eq_some_iff.1 hj).1
            simpa using this
          subst hj0
          refine ⟨rfl, hi, ?_⟩
          simp only [Function.comp_apply, List.getElem?_cons_zero, Option.some.injEq] at hj
          rw [← hj, List.getD, hs]
          cases s; simp [S]
        have := CR.slc (h := cellsOfW W) 1 (((ss.take len).map fun s => s.data.toList).map fun s => [D.val (S s)]) b off cap (fun i _ => .string (ss.getD i ByteArray.empty)) (by omega) hm
          (fun i r hi => by
            simp only [List.getElem?_map, Option.map_map, Option.map_eq_some_iff] at hi
            obtain ⟨s, _, rfl⟩ := hi; rfl)
          (fun i r j d hi hj => by
            obtain ⟨rfl, hi', _⟩ := key i r j d hi hj
            have := hcell i (by omega)
            rw [show (Addr.add ⟨b, off, none⟩ i : Addr) = ⟨b, off + i * 1 + 0, none⟩ by unfold Addr.add; split <;> simp_all] at this
            exact this)
          (fun i r j d hi hj => by
            obtain ⟨_, _, rfl⟩ := key i r j d hi hj
            exact .val _)
        rw [hlen'] at this
        exact this
    · intro s hs
      obtain ⟨s', hs', rfl⟩ := List.mem_map.1 hs
      have := hsz s' (List.mem_of_mem_take hs')
      rw [Array.length_toList]; exact this

/-- The world that a statement begins in. -/
theorem sat_first {F : List Fact} (hF : ∀ f ∈ F, f.holds (cellsOfW W)) : Sat W [] F W :=
  ⟨Below.refl _ _, cellsOfW W, fun _ _ => none, ⟨fun _ _ _ h => h, hF, fun _ _ h => by simp at h, fun _ _ _ h => by simp at h, fun _ _ _ h => by simp at h⟩⟩

/-- A law that answered true and left all as it was. -/
theorem post_true {f : Func} {s : ChangeSpec} {apart fresh handsOn : Bool} {W' : World} {args : Array Value} {ds gs : List (DataW Ht)} {before : List MemPlace} {tb : TypeId}
    (hl : laidOutB P = true) (hr : f.params.toList.all (fun t => P.readableRec t && decide (t < P.types.size)) = true)
    (hW : DataW.Whole enc P f.params.toList s.vars apart W args.toList ds gs before) (hb : Below W.heap.size W W')
    (hvars : s.vars = []) (hres : f.resultTypes = #[tb]) (htb : P.underlying tb = some .bool)
    (hfn : s.fn Ht (ds ++ gs) = { results := [.lit (.bool true)], args := ds }) :
    s.post enc P f apart fresh handsOn false W args (.bool true) W' := by
  have hW' := hW
  obtain ⟨p, q, hA, hV, rfl, hfz, hn⟩ := hW'
  rw [hvars] at hV
  have hgs : gs = [] ∧ q = [] := by
    have := trodVars_none (enc := enc) (P := P) (w := W) hV
    exact this
  obtain ⟨rfl, rfl⟩ := hgs
  have hlt : ∀ x ∈ p, x.block < W.heap.size := fun x hx => by simpa using hW.lt x (by simpa using hx)
  refine ⟨ds, [], p ++ [], [], p, [], hW, ?_, ?_, ?_, ?_, fun h => by cases h⟩
  · rw [hres, hfn]
    exact trodAll_cons_mk (shut_bool htb true) trodAll_mk0
  · rw [hfn]
    have all : ∀ (ts : List TypeId) (vs : List Value) (ds : List (DataW Ht)) (p : List MemPlace), (ts.all (fun t => P.readableRec t && decide (t < P.types.size)) = true) → (∀ x ∈ p, x.block < W.heap.size) →
        DataW.TrodAll enc P W 0 (fun _ => true) true ts vs ds p → DataW.TrodAll enc P W' 0 (fun b => decide (b < W.heap.size)) true ts vs ds p := by
      intro ts
      induction ts with
      | nil => intro vs ds p _ _ h; obtain ⟨rfl, rfl, rfl⟩ := trodAll_nil h; exact h
      | cons t ts ih =>
        intro vs ds p ha hp h
        obtain ⟨v, vs1, d, ds1, a, b, rfl, rfl, rfl, h1, h2⟩ := trodAll_cons h
        simp only [List.all_cons, Bool.and_eq_true, decide_eq_true_eq] at ha
        refine ⟨a, b, Below.trod hl ha.1.1 ha.1.2 h1 hb (fun x hx => hp x (by simp [hx])), ih vs1 ds1 b ?_ (fun x hx => hp x (by simp [hx])) h2, rfl⟩
        simpa using ha.2
    exact all _ _ _ _ hr hlt hA
  · rw [hvars, hfn]; exact hV
  · exact hb.frame _
end
end Go.Sy
