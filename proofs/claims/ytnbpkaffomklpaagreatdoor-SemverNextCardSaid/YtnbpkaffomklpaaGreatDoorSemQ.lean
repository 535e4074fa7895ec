/- Which is ahead: the other way round, and through a third one. No program in sight. -/
import Derived.Test.YtnbpkaffomklpaaGreatDoorSem9
namespace Go.Sy
open Go

structure Cm {α : Type} (f : α → α → Int) : Prop where
  anti : ∀ a b, f b a = -f a b
  tr : ∀ a b c, f a b ≤ 0 → f b c ≤ 0 → f a c ≤ 0
theorem Cm.zero {α : Type} {f : α → α → Int} (h : Cm f) {a b c : α} (h1 : f a b ≤ 0) (h2 : f b c ≤ 0) : (f a b = 0 ∧ f b c = 0) ↔ f a c = 0 := by
  have t := h.tr a b c h1 h2
  constructor
  · rintro ⟨e1, e2⟩
    have := h.tr c b a (by rw [h.anti b c]; omega) (by rw [h.anti a b]; omega)
    rw [h.anti a c] at this; omega
  · intro e
    have e' : f c a ≤ 0 := by rw [h.anti a c]; omega
    have k1 := h.tr c a b e' h1
    have k2 := h.tr b c a h2 e'
    rw [h.anti b c] at k1
    rw [h.anti a b] at k2
    omega
theorem Cm.lex {α : Type} {f g : α → α → Int} (hf : Cm f) (hg : Cm g) : Cm (fun a b => if f a b ≠ 0 then f a b else g a b) := by
  constructor
  · intro a b
    have := hf.anti a b
    have := hg.anti a b
    show (if f b a ≠ 0 then f b a else g b a) = -(if f a b ≠ 0 then f a b else g a b)
    split <;> split <;> omega
  · intro a b c h1 h2
    replace h1 : (if f a b ≠ 0 then f a b else g a b) ≤ 0 := h1
    replace h2 : (if f b c ≠ 0 then f b c else g b c) ≤ 0 := h2
    show (if f a c ≠ 0 then f a c else g a c) ≤ 0
    have f1 : f a b ≤ 0 := by split at h1 <;> omega
    have f2 : f b c ≤ 0 := by split at h2 <;> omega
    have f3 := hf.tr a b c f1 f2
    split
    · exact f3
    · rename_i hz
      obtain ⟨z1, z2⟩ := (hf.zero f1 f2).2 (by omega)
      rw [if_neg (by omega)] at h1 h2
      exact hg.tr a b c h1 h2
theorem Cm.on {α β : Type} {f : β → β → Int} (h : Cm f) (p : α → β) : Cm (fun a b => f (p a) (p b)) := ⟨fun _ _ => h.anti _ _, fun _ _ _ => h.tr _ _ _⟩
theorem cmI : Cm Lib.compareInt := by
  constructor
  · intro a b; unfold Lib.compareInt; split <;> split <;> (try split) <;> omega
  · intro a b c; unfold Lib.compareInt; repeat' split
    all_goals omega
theorem first2 (x y : Int) : firstI [x, y] = if x ≠ 0 then x else y := by
  by_cases h : x = 0 <;> by_cases h2 : y = 0 <;> simp [firstI, h, h2]
theorem first3 (x y z : Int) : firstI [x, y, z] = if x ≠ 0 then x else if y ≠ 0 then y else z := by
  by_cases h : x = 0 <;> by_cases h2 : y = 0 <;> by_cases h3 : z = 0 <;> simp [firstI, h, h2, h3]

def lexL {α : Type} (f : α → α → Int) : List α → List α → Int
  | [], [] => 0
  | [], _ :: _ => -1
  | _ :: _, [] => 1
  | x :: a, y :: b => if f x y ≠ 0 then f x y else lexL f a b
theorem lexL_anti {α : Type} {f : α → α → Int} (h : Cm f) : ∀ a b : List α, lexL f b a = -lexL f a b
  | [], [] => rfl
  | [], _ :: _ => rfl
  | _ :: _, [] => rfl
  | x :: a, y :: b => by
    have := h.anti x y
    have := lexL_anti h a b
    simp only [lexL]
    split <;> split <;> omega
theorem lexL_tr {α : Type} {f : α → α → Int} (h : Cm f) : ∀ a b c : List α, lexL f a b ≤ 0 → lexL f b c ≤ 0 → lexL f a c ≤ 0
  | [], _, [], _, _ => by simp [lexL]
  | [], _, _ :: _, _, _ => by simp [lexL]
  | _ :: _, [], _, h1, _ => by simp [lexL] at h1
  | _ :: _, _ :: _, [], _, h2 => by simp [lexL] at h2
  | x :: a, y :: b, z :: c, h1, h2 => by
    simp only [lexL] at h1 h2 ⊢
    have f1 : f x y ≤ 0 := by split at h1 <;> omega
    have f2 : f y z ≤ 0 := by split at h2 <;> omega
    have f3 := h.tr x y z f1 f2
    split
    · exact f3
    · rename_i hz
      obtain ⟨z1, z2⟩ := (h.zero f1 f2).2 (by omega)
      rw [if_neg (by omega)] at h1 h2
      exact lexL_tr h a b c h1 h2
theorem cmLex {α : Type} {f : α → α → Int} (h : Cm f) : Cm (lexL f) := ⟨lexL_anti h, lexL_tr h⟩
theorem cmpS_lex : ∀ a b : List UInt8, cmpS a b = lexL (fun x y => Lib.compareInt (x.toNat : Int) (y.toNat : Int)) a b
  | [], [] => rfl
  | [], _ :: _ => rfl
  | _ :: _, [] => rfl
  | x :: a, y :: b => by
    have ih := cmpS_lex a b
    simp only [lexL, ← ih]
    rcases Nat.lt_trichotomy x.toNat y.toNat with h | h | h
    · have : x < y := UInt8.lt_iff_toNat_lt.2 h
      have e : Lib.compareInt (x.toNat : Int) (y.toNat : Int) = -1 := by unfold Lib.compareInt; rw [if_pos (by omega)]
      simp [cmpS, Op.bytesLess, this, e]
    · have : x = y := UInt8.toNat_inj.1 h
      subst this
      have e : Lib.compareInt (x.toNat : Int) (x.toNat : Int) = 0 := by unfold Lib.compareInt; rw [if_neg (by omega), if_neg (by omega)]
      simp [cmpS, Op.bytesLess, e]
    · have h1 : ¬ x < y := fun k => by have := UInt8.lt_iff_toNat_lt.1 k; omega
      have h2 : x ≠ y := fun k => by subst k; omega
      have e : Lib.compareInt (x.toNat : Int) (y.toNat : Int) = 1 := by unfold Lib.compareInt; rw [if_neg (by omega), if_pos (by omega)]
      simp [cmpS, Op.bytesLess, h1, h2, e]
theorem cmS : Cm cmpS := by
  have h := cmLex (cmI.on (fun x : UInt8 => (x.toNat : Int)))
  have e : cmpS = lexL (fun x y : UInt8 => Lib.compareInt (x.toNat : Int) (y.toNat : Int)) := by funext a b; exact cmpS_lex a b
  rw [e]; exact h
theorem cmLow : Cm lowerS := by
  have h := (cmI.on (fun s : List UInt8 => (s.length : Int))).lex cmS
  have e : lowerS = fun a b => if Lib.compareInt (a.length : Int) (b.length : Int) ≠ 0 then Lib.compareInt (a.length : Int) (b.length : Int) else cmpS a b := by
    funext a b; unfold lowerS; exact first2 _ _
  rw [e]; exact h
theorem cmAhead : Cm aheadS := by
  constructor
  · intro a b
    have h1 := cmLow.anti a b
    have h2 := cmS.anti a b
    unfold aheadS
    cases ha : numericS a <;> cases hb : numericS b <;> simp [h1, h2]
  · intro a b c
    have h1 := cmLow.tr a b c
    have h2 := cmS.tr a b c
    unfold aheadS
    cases ha : numericS a <;> cases hb : numericS b <;> cases hc : numericS c <;> simp <;> assumption
theorem cmpL_lex : ∀ a b, cmpL a b = lexL aheadS a b
  | [], [] => rfl
  | [], _ :: _ => rfl
  | _ :: _, [] => rfl
  | x :: a, y :: b => by simp only [cmpL, lexL, cmpL_lex a b]
theorem cmL : Cm cmpL := by
  have e : cmpL = lexL aheadS := by funext a b; exact cmpL_lex a b
  rw [e]; exact cmLex cmAhead
def cmpP (l m : List (List UInt8)) : Int := if l = [] ∨ m = [] then Lib.compareInt m.length l.length else cmpL l m
theorem cmP : Cm cmpP := by
  constructor
  · intro l m
    unfold cmpP
    have h1 := cmI.anti (m.length : Int) (l.length : Int)
    have h2 := cmL.anti l m
    by_cases h : l = [] ∨ m = []
    · rw [if_pos h, if_pos h.symm]; exact h1
    · rw [if_neg h, if_neg (fun e => h e.symm)]; exact h2
  · intro l m n h1 h2
    by_cases hn : n = []
    · subst hn
      simp only [cmpP, or_true, if_true]
      unfold Lib.compareInt
      repeat' split
      all_goals first | omega | (simp at *; omega)
    · by_cases hm : m = []
      · exfalso
        subst hm
        have : 0 < n.length := List.length_pos_iff.2 hn
        simp [cmpP, Lib.compareInt] at h2
        rw [if_pos this] at h2
        omega
      · by_cases hl : l = []
        · exfalso
          subst hl
          have : 0 < m.length := List.length_pos_iff.2 hm
          simp [cmpP, Lib.compareInt] at h1
          rw [if_pos this] at h1
          omega
        · simp only [cmpP, hl, hm, hn, or_self, if_false] at h1 h2 ⊢
          exact cmL.tr l m n h1 h2
theorem cmV : Cm cmpV := by
  have h := ((cmI.on (fun v : Ver => v.major)).lex ((cmI.on (fun v : Ver => v.minor)).lex (cmI.on (fun v : Ver => v.patch)))).lex (cmP.on (fun v : Ver => v.pre))
  have e : cmpV = fun a b => if (if Lib.compareInt a.major b.major ≠ 0 then Lib.compareInt a.major b.major else if Lib.compareInt a.minor b.minor ≠ 0 then Lib.compareInt a.minor b.minor else Lib.compareInt a.patch b.patch) ≠ 0 then (if Lib.compareInt a.major b.major ≠ 0 then Lib.compareInt a.major b.major else if Lib.compareInt a.minor b.minor ≠ 0 then Lib.compareInt a.minor b.minor else Lib.compareInt a.patch b.patch) else cmpP a.pre b.pre := by
    funext a b; unfold cmpV; rw [first3]; rfl
  rw [e]; exact h
end Go.Sy
