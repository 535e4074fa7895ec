/- Types, arenas, and what may be: in plain words. No program in sight. -/
import Derived.Test.YthbngbiodamndaaDoorTxt
import Derived.Test.YthbngbiodamndaaDoorTyp1
namespace Go.Sy
open Go

/-! ### A type as a key -/
structure Key where
  kind : Int
  n : Int
  name : List UInt8
  words : List UInt8
  kids : List UInt8
  lengths : List UInt8
deriving DecidableEq
def lensOf (ws : List (List UInt8)) : List Int := ws.map fun w => (w.length : Int)
def keyT (t : Ty) : Key := ⟨t.kind, t.n, t.name, t.words.flatten, commas t.kids, commas (lensOf t.words)⟩
theorem key_inj {t u : Ty} (h : keyT t = keyT u) : t = u := by
  unfold keyT at h
  simp only [Key.mk.injEq] at h
  obtain ⟨h1, h2, h3, h4, h5, h6⟩ := h
  have h7 := commas_inj _ _ h6
  have h8 : t.words.map List.length = u.words.map List.length := by
    have := congrArg (List.map Int.toNat) h7
    simpa [lensOf, Function.comp_def] using this
  exact ty_ext h1 h3 h2 (flatten_inj _ _ h8 h4) (commas_inj _ _ h5)

/-! ### What may be -/
def fieldN (w : List UInt8) : List UInt8 := match w with | 43 :: r => r | _ => w
def fieldAt (ws : List (List UInt8)) (i : Nat) (hi : i < ws.length) : Prop :=
  isName (fieldN ws[i]) = true ∧ ∀ j (hj : j < i), fieldN ws[j] = fieldN ws[i] → fieldN ws[i] = [95]
def fieldsP (ws : List (List UInt8)) : Prop := ∀ i (hi : i < ws.length), fieldAt ws i hi
def markP (w : List UInt8) : Prop := w = [61] ∨ w = [126]
def kindAt (l : List Ty) (k : Int) : Int := ((l[k.toNat]?).map Ty.kind).getD 0
def kidAt (t : Ty) (i : Nat) : Int := t.kids.getD i 0
def elemAtP (l : List Ty) (t : Ty) (i : Nat) (hi : i < t.words.length) : Prop :=
  (markP t.words[i] ∧ 2 ≤ t.n ∧ kindAt l (kidAt t i) ≠ 7 ∧ kindAt l (kidAt t i) ≠ 9 ∧ ¬(14 ≤ kidAt t i ∧ kidAt t i ≤ 19) ∧ (0 < i → markP (t.words.getD (i - 1) []) → kidAt t (i - 1) < kidAt t i)) ∨
  (¬ markP t.words[i] ∧ isName t.words[i] = true ∧ kindAt l (kidAt t i) = 5 ∧ (0 < i → ¬ markP (t.words.getD (i - 1) []) ∧ Op.bytesLess (t.words.getD (i - 1) []) t.words[i] = true))
def elemsP (l : List Ty) (t : Ty) : Prop := t.words.length = t.kids.length ∧ 0 ≤ t.n ∧ t.n ≤ 3 ∧ ∀ i (hi : i < t.words.length), elemAtP l t i hi
def namedP (s : List UInt8) : Prop := (cutD 46 s).2.2 = true ∧ isName (cutD 46 s).1 = true ∧ isName (cutD 46 s).2.1 = true
def madeK (l : List Ty) (t : Ty) : Prop :=
  (t.kind = 1 ∧ t.n = 0 ∧ t.kids.length = 1) ∨ (t.kind = 2 ∧ t.n = 0 ∧ t.kids.length = 1) ∨ (t.kind = 3 ∧ 0 ≤ t.n ∧ t.n ≤ 2147483648 ∧ t.kids.length = 1) ∨ (t.kind = 4 ∧ t.n = 0 ∧ t.kids.length = 2) ∨ (t.kind = 5 ∧ (t.n = 0 ∨ t.n = 1 ∧ 0 < t.kids.length)) ∨
  (t.kind = 6 ∧ t.n = 0 ∧ fieldsP t.words ∧ t.words.length = t.kids.length) ∨ (t.kind = 7 ∧ elemsP l t) ∨ (t.kind = 8 ∧ t.n = 0 ∧ namedP t.name) ∨ (t.kind = 9 ∧ 0 ≤ t.n ∧ t.n < 16 ∧ t.kids.length = 0)
def kidsP (l : List Ty) (t : Ty) : Prop := ∀ k ∈ t.kids, 0 ≤ k ∧ k < l.length
def madeP (l : List Ty) (t : Ty) : Prop :=
  kidsP l t ∧ t.kids.length ≤ 16 ∧ (t.kind ≠ 8 → t.name = []) ∧ (t.kind ≠ 6 → t.kind ≠ 7 → t.words = []) ∧ madeK l t
def startNames : List (List UInt8) := [[98, 111, 111, 108], [115, 116, 114, 105, 110, 103], [105, 110, 116], [105, 110, 116, 56], [105, 110, 116, 49, 54], [105, 110, 116, 51, 50], [105, 110, 116, 54, 52], [117, 105, 110, 116], [117, 105, 110, 116, 56], [117, 105, 110, 116, 49, 54], [117, 105, 110, 116, 51, 50], [117, 105, 110, 116, 54, 52], [102, 108, 111, 97, 116, 51, 50], [102, 108, 111, 97, 116, 54, 52], [117, 110, 116, 121, 112, 101, 100, 32, 98, 111, 111, 108], [117, 110, 116, 121, 112, 101, 100, 32, 115, 116, 114, 105, 110, 103], [117, 110, 116, 121, 112, 101, 100, 32, 105, 110, 116], [117, 110, 116, 121, 112, 101, 100, 32, 114, 117, 110, 101], [117, 110, 116, 121, 112, 101, 100, 32, 102, 108, 111, 97, 116], [117, 110, 116, 121, 112, 101, 100, 32, 110, 105, 108]]
def basicT (s : List UInt8) : Ty := ⟨0, s, 0, [], []⟩
def startL : List Ty := startNames.map basicT ++ [⟨7, [], 0, [], []⟩, ⟨7, [], 1, [], []⟩]
def rowAt (l : List Ty) (i : Nat) (hi : i < l.length) : Prop := if i < 22 then l[i] = startL.getD i (basicT []) else madeP (l.take i) l[i] ∧ l[i] ∉ l.take i
def rightP (l : List Ty) : Prop := 22 ≤ l.length ∧ l.length ≤ 400 ∧ ∀ i (hi : i < l.length), rowAt l i hi
/-- What the program asks besides: each once. -/
theorem start_once : startL.Nodup := by decide
theorem right_once {l : List Ty} (h : rightP l) : ∀ i (hi : i < l.length), l[i] ∉ l.take i := by
  intro i hi
  have hr := h.2.2 i hi
  unfold rowAt at hr
  by_cases c : i < 22
  · rw [if_pos c] at hr
    intro hm
    obtain ⟨j, hj, e⟩ := List.getElem_of_mem hm
    have hji : j < i := by simp at hj; omega
    rw [List.getElem_take] at e
    have hr2 := h.2.2 j (by omega)
    unfold rowAt at hr2
    rw [if_pos (by omega)] at hr2
    rw [hr, hr2] at e
    have hl : startL.length = 22 := by decide
    have e2 : startL[j]'(by omega) = startL[i]'(by omega) := by
      have g : ∀ k (hk : k < startL.length), startL.getD k (basicT []) = startL[k] := by intro k hk; simp [List.getD, List.getElem?_eq_getElem hk]
      rw [← g j (by omega), ← g i (by omega)]
      exact e
    have := (List.getElem_inj (h₀ := by omega) (h₁ := by omega) start_once).1 e2
    omega
  · rw [if_neg c] at hr
    exact hr.2
end Go.Sy
