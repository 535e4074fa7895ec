/- Joined of my own texts: FwS. -/
import Derived.Test.YtodaafgpfjcpgaaGreatDoorU23
import Derived.Deep.Slices
namespace Go.Sy
open Go Go.Proofs Go.RowKit Go.ChangeShapes Go.WideShapes Go.Joins Go.Deep
section
variable {Ht : Type} {enc : TypeId × Value → Ht} {P : Program} {W : World}
def RowReads (W : World) (cs : List Value) (ds : List D) : Prop := ∀ (j : Nat) (d : D), ds[j]? = some d → ∃ u, cs[j]? = some u ∧ CR (cellsOfW W) u d
theorem RowReads.nil : RowReads W [] [] := fun j d h => by simp at h
theorem RowReads.cons {u : Value} {cs : List Value} {d : D} {ds : List D} (h1 : CR (cellsOfW W) u d) (h : RowReads W cs ds) : RowReads W (u :: cs) (d :: ds) := fun j e he => by
  cases j with
  | zero => simp at he; subst he; exact ⟨u, rfl, h1⟩
  | succ j => exact h j e (by simpa using he)
theorem fact_slice {t e : TypeId} {fuel sz : Nat} {v : Value} {y : DataW Ht × List MemPlace} {α : Type} [Inhabited α] (en : α → List D) (Pa : α → Prop) (ht : P.underlying t = some (.slice e)) (hc : P.cellsOf e = sz) (hsz0 : 0 < sz) (hsz : ∀ x, (en x).length = sz)
    (h : DataW.trod enc P W 0 (fun _ => true) true fuel t [v] = some y)
    (hrow : ∀ (n : Nat) (cs : List Value) (y' : DataW Ht × List MemPlace), cs.length = sz → DataW.trod enc P W 0 (fun _ => true) true n e cs = some y' → ∃ x : α, Pa x ∧ RowReads W cs (en x)) :
    ∃ (a : Option Addr) (k c : Nat) (l : List α), v = .slice a k c ∧ (Fact.slc (.slice a k c) sz (l.map en)).holds (cellsOfW W) ∧ l.length ≤ maxLen ∧ ∀ x ∈ l, Pa x := by
  rcases open_slice ht h with ⟨hcs, _⟩ | ⟨a, len, cap, m, n, D, Pl, hcs, _, hl, hm, hz, _, hx⟩
  · simp only [List.cons.injEq, and_true] at hcs
    subst hcs
    exact ⟨none, 0, 0, [], rfl, .nil sz none 0 (fun _ => rfl), Nat.zero_le _, fun s hs => by cases hs⟩
  simp only [List.cons.injEq, and_true] at hcs
  subst hcs
  simp only [if_true] at hz
  subst hz
  rcases Nat.eq_zero_or_pos len with h0 | h0
  · subst h0
    exact ⟨some a, 0, m, [], rfl, .nil sz (some a) m (fun e => by cases e), Nat.zero_le _, fun s hs => by cases hs⟩
  obtain ⟨X, hX⟩ := choose_lt (α := α × List Value) (n := len) (p := fun i x => W.cells? 0 (a.add (i * P.cellsOf e)) (P.cellsOf e) = some x.2 ∧ Pa x.1 ∧ RowReads W x.2 (en x.1)) (fun i hi => by
    obtain ⟨cs', h1, h2⟩ := hx i HF
    obtain ⟨_, hlen, _⟩ := World.cells?_some h1
    obtain ⟨x, hp, hr⟩ := hrow n cs' _ (by rw [hlen, hc]) h2
    exact ⟨(x, cs'), h1, hp, hr⟩)
  rw [hc] at hX
  have hcell : ∀ i, i < len → ∀ j, j < sz → W.cell? ((a.add (i * sz)).add j) = (X i).2[j]? ∧ j < (X i).2.length := by
    intro i hi j hj
    obtain ⟨h1, _, _⟩ := hX i hi
    obtain ⟨_, hlen, hcc⟩ := World.cells?_some h1
    exact ⟨hcc j hj, by omega⟩
  obtain ⟨b, off, spot⟩ := a
  have hspot : spot = none := by
    obtain ⟨h1, h2⟩ := hcell 0 h0 0 hsz0
    rw [List.getElem?_eq_getElem h2] at h1
    have := World.cell?_spot h1
    simpa [Addr.add] using this
  subst hspot
  have hget : ∀ i, ((List.range len).map fun i => (X i).1)[i]? = if i < len then some (X i).1 else none := by
    intro i
    by_cases hi : i < len
    · rw [List.getElem?_map, List.getElem?_range hi, if_pos hi]; rfl
    rw [List.getElem?_eq_none (by simp; omega), if_neg hi]
  have key : ∀ (i : Nat) (r : List Go.Sy.D), (((List.range len).map fun i => (X i).1).map en)[i]? = some r → i < len ∧ r = en (X i).1 := by
    intro i r hi
    rw [List.getElem?_map, hget] at hi
    by_cases hil : i < len
    · rw [if_pos hil] at hi; simp at hi; exact ⟨hil, hi.symm⟩
    rw [if_neg hil] at hi; simp at hi
  refine ⟨some ⟨b, off, none⟩, len, m, (List.range len).map fun i => (X i).1, rfl, ?_, by simp; omega, ?_⟩
  · have hlen' : (((List.range len).map fun i => (X i).1).map en).length = len := by simp
    have := CR.slc (h := cellsOfW W) sz (((List.range len).map fun i => (X i).1).map en) b off m (fun i j => (X i).2.getD j undef) HF hm
      (fun i r hi => by obtain ⟨_, rfl⟩ := key i r hi; exact hsz _)
      (fun i r j d hi hj => by
        obtain ⟨hil, rfl⟩ := key i r hi
        have hjs : j < sz := by
          have := (List.getElem?_eq_some_iff.1 hj).1
          rwa [hsz] at this
        obtain ⟨h1, h2⟩ := hcell i hil j hjs
        rw [Addr.add_lit, Addr.add_lit] at h1
        show W.cell? _ = _
        rw [h1, List.getD, List.getElem?_eq_getElem h2]; rfl)
      (fun i r j d hi hj => by
        obtain ⟨hil, rfl⟩ := key i r hi
        obtain ⟨_, _, hr⟩ := hX i hil
        obtain ⟨u, hu, hcu⟩ := hr j d hj
        rw [List.getD, hu]; exact hcu)
    rw [hlen'] at this
    exact this
  intro x hx
  obtain ⟨i, hi, rfl⟩ := List.mem_map.1 hx
  exact (hX i (by simpa using hi)).2.1
end
end Go.Sy
