/- Joined of my own texts: SeT. -/
import Derived.Test.YtinolpaapcpijaaGreatDoorP19
import Derived.Sort.Walk0
import Derived.Lib.SlicesCompact
namespace Go.Sy
open Go Go.Proofs
def rising (l : List (List UInt8)) : Prop := l.Pairwise (· < ·)
theorem bs_irr (a : List UInt8) : ¬ a < a := List.lt_irrefl a
theorem rising_once : ∀ {l m : List (List UInt8)}, rising l → rising m → (∀ x, x ∈ l ↔ x ∈ m) → l = m
  | [], [], _, _, _ => rfl
  | [], y :: m, _, _, h => by simp at h; exact absurd rfl (h y).1
  | x :: l, [], _, _, h => by simp at h; exact absurd rfl (h x).1
  | x :: l, y :: m, h1, h2, h => by
    obtain ⟨a1, a2⟩ := List.pairwise_cons.1 h1
    obtain ⟨b1, b2⟩ := List.pairwise_cons.1 h2
    have e : x = y := by
      rcases List.mem_cons.1 ((h x).1 (.head _)) with e | hx
      · exact e
      rcases List.mem_cons.1 ((h y).2 (.head _)) with e | hy
      · exact e.symm
      exact absurd (List.lt_trans (b1 x hx) (a1 y hy)) (bs_irr _)
    subst e
    rw [rising_once a2 b2 fun z => ?_]
    constructor <;> intro hz
    · rcases List.mem_cons.1 ((h z).1 (.tail _ hz)) with e | hy
      · subst e; exact absurd (a1 _ hz) (bs_irr _)
      exact hy
    rcases List.mem_cons.1 ((h z).2 (.tail _ hz)) with e | hy
    · subst e; exact absurd (b1 _ hz) (bs_irr _)
    exact hy
theorem rising_ins {l : List (List UInt8)} (h : rising l) (s : List UInt8) {p : Nat} (h1 : ∀ x ∈ l.take p, x < s) (h2 : ∀ x ∈ l.drop p, s < x) : rising (l.take p ++ s :: l.drop p) := by
  have h' : rising (l.take p ++ l.drop p) := by rwa [List.take_append_drop]
  obtain ⟨a, b, c⟩ := List.pairwise_append.1 h'
  refine List.pairwise_append.2 ⟨a, List.pairwise_cons.2 ⟨h2, b⟩, fun x hx y hy => ?_⟩
  rcases List.mem_cons.1 hy with e | hy
  · subst e; exact h1 x hx
  exact c x hx y hy
theorem mem_ins {l : List (List UInt8)} {s x : List UInt8} {p : Nat} : x ∈ l.take p ++ s :: l.drop p ↔ x ∈ l ∨ x = s := by
  conv => rhs; rw [← List.take_append_drop p l]
  simp only [List.mem_append, List.mem_cons]
  constructor
  · rintro (h | h | h)
    · exact .inl (.inl h)
    · exact .inr h
    exact .inl (.inr h)
  rintro ((h | h) | h)
  · exact .inl h
  · exact .inr (.inr h)
  exact .inr (.inl h)
theorem compact_rising {z : List (List UInt8)} (h : z.Pairwise (fun x y => ¬ y < x)) : ∀ m, m ≤ z.length → rising (Lib.compactUpTo z.toArray m) ∧ (∀ x, x ∈ Lib.compactUpTo z.toArray m ↔ x ∈ z.take m) ∧ (Lib.compactUpTo z.toArray m).length ≤ m
  | 0, _ => ⟨by simp [Lib.compactUpTo, rising], by simp [Lib.compactUpTo], by simp [Lib.compactUpTo]⟩
  | m + 1, hm => by
    obtain ⟨h1, h2, h3⟩ := compact_rising h m HY
    rw [Lib.compactUpTo_succ]
    have hg : z.toArray[m]! = z[m] := by simp [show m < z.length by omega]
    have ht : z.take (m + 1) = z.take m ++ [z[m]] := List.take_succ_eq_append_getElem HY
    rw [hg, ht]
    have hall : ∀ x ∈ z.take m, ¬ z[m] < x := fun x hx => by
      obtain ⟨k, hk, e⟩ := List.getElem_of_mem hx
      have hk' : k < m := by simp at hk; omega
      rw [List.getElem_take] at e
      exact e ▸ List.pairwise_iff_getElem.1 h k m HY HY hk'
    by_cases c : Lib.keeps z.toArray m = true
    · rw [if_pos c]
      have hnew : z[m] ∉ z.take m := fun hx => by
        obtain ⟨k, hk, e⟩ := List.getElem_of_mem hx
        have hk' : k < m := by simp at hk; omega
        rw [List.getElem_take] at e
        have hp : z.toArray[m - 1]! = z[m - 1] := by simp [show m - 1 < z.length by omega]
        have hne : z[m] ≠ z[m - 1] := by
          intro e2
          rw [Lib.keeps_neg HY (by rw [hg, hp]; exact e2)] at c; cases c
        have hle := List.pairwise_iff_getElem.1 h (m - 1) m HY HY HY
        by_cases ck : k = m - 1
        · subst ck; exact hne e.symm
        have := List.pairwise_iff_getElem.1 h k (m - 1) HY HY HY
        rw [e] at this
        exact hne (List.le_antisymm (List.not_lt.1 this) (List.not_lt.1 hle))
      refine ⟨List.pairwise_append.2 ⟨h1, List.pairwise_singleton _ _, fun x hx y hy => ?_⟩, fun x => by simp only [List.mem_append, h2], by simp; omega⟩
      have hy : y = z[m] := by simpa using hy
      subst hy
      have hx' := (h2 x).1 hx
      have hle : x ≤ z[m] := List.not_lt.1 (hall x hx')
      exact Classical.byContradiction fun hn => hnew ((List.le_antisymm hle (List.not_lt.1 hn)) ▸ hx')
    rw [if_neg c]
    refine ⟨by simpa using h1, fun x => ?_, by simp; omega⟩
    have hm0 : m ≠ 0 := fun e => c (Lib.keeps_lt_one _ _ HY)
    have hp : z.toArray[m - 1]! = z[m - 1] := by simp [show m - 1 < z.length by omega]
    have heq : z[m] = z[m - 1] := Classical.byContradiction fun hn => c (Lib.keeps_pos (by rw [hg, hp]; exact hn))
    simp only [List.append_nil, h2, List.mem_append, List.mem_singleton]
    refine ⟨.inl, fun h => h.elim id fun e => ?_⟩
    rw [e, heq]
    exact List.mem_take_iff_getElem.2 ⟨m - 1, by omega, rfl⟩
def namesW (T : List Ty) (w : Wht) : List (List UInt8) := w.ms.map (·.name) ++ if (tyAt T w.under).kind = 6 then (tyAt T w.under).words.map fieldN else []
def wordsN (T : List Ty) (ws : List Wht) : List (List UInt8) := ws.flatMap (namesW T)
def stpN (s : List (List UInt8)) (T : List Ty) (_ : List Ent) (ws : List Wht) : List (List UInt8) := s ++ wordsN T ws
noncomputable def docW (N : List Nmd) : Nat → Except Int (List Ty × List Ent × List Wht × List Int) → List (List UInt8)
  | 0, _ => []
  | _ + 1, .error _ => []
  | n + 1, .ok (T, lev, ws, seen) => wordsN T ws ++ docW N n (docL N T (nextL T lev ws seen) (seen ++ typs (nextL T lev ws seen)))
theorem docW_nil (N : List Nmd) : ∀ (n : Nat) (T : List Ty) (seen : List Int), docW N n (docL N T [] seen) = []
  | 0, _, _ => rfl
  | n + 1, T, seen => by
    have : docL N T [] seen = .ok (T, [], [], seen) := rfl
    rw [this]
    simp only [docW, wordsN, List.flatMap_nil, List.nil_append]
    have h2 : nextL T [] [] seen = [] := rfl
    rw [h2]
    exact docW_nil N n T _
theorem run_names (N : List Nmd) : ∀ (n : Nat) (T : List Ty) (lev : List Ent) (seen : List Int) (s : List (List UInt8)), (runL N stpN (fun _ => true) n T lev seen s).1 = s ++ docW N n (docL N T lev seen)
  | 0, T, lev, seen, s => by simp [runL, docW]
  | n + 1, T, lev, seen, s => by
    by_cases c : lev = []
    · subst c
      rw [docW_nil, runL_nil, List.append_nil]
    cases hl : looksR N T lev lev.length with
    | error e =>
      rw [runL_err hl]
      have : docL N T lev seen = .error e := docL_err hl
      rw [this]; simp [docW]
    | ok x =>
      obtain ⟨T1, ws⟩ := x
      rw [runL_go hl c rfl, run_names N n, docL_ok hl]
      simp only [docW, stpN, List.append_assoc]
noncomputable def allN (N : List Nmd) (T : List Ty) (i : Int) : List (List UInt8) := docW N 7 (docFirst N T i)
theorem levels_names (N : List Nmd) (T : List Ty) (i : Int) : (levelsL N stpN (fun _ => true) T i []).1 = allN N T i := by
  unfold levelsL allN docFirst
  cases firstR T N i with
  | error e => rfl
  | ok x => obtain ⟨T1, lev⟩ := x; simp only; rw [run_names]; rfl
def pickN (N : List Nmd) (T : List Ty) (i : Int) (s : List UInt8) : Prop := s ≠ [95] ∧ ∃ x, findR N T i s = .ok x
def namesP (N : List Nmd) (T : List Ty) (i : Int) (l : List (List UInt8)) : Prop := rising l ∧ ∀ x, x ∈ l ↔ x ∈ allN N T i ∧ pickN N T i x
theorem names_once {N : List Nmd} {T : List Ty} {i : Int} {l m : List (List UInt8)} (h1 : namesP N T i l) (h2 : namesP N T i m) : l = m :=
  rising_once h1.1 h2.1 fun x => (h1.2 x).trans (h2.2 x).symm
end Go.Sy
