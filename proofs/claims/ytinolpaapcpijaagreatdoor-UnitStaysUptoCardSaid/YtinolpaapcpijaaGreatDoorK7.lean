/- Joined of my own texts: Txt. -/
import Derived.Test.YtinolpaapcpijaaGreatDoorK6
import Derived.Lib.Split
import Derived.Lib.CountLaws
import Derived.Lib.ItoaNum
namespace Go.Sy
open Go
def digitC (c : UInt8) : Bool := 48 ≤ c.toNat && c.toNat ≤ 57
def cutD (c : UInt8) : List UInt8 → List UInt8 × List UInt8 × Bool
  | [] => ([], [], false)
  | b :: s => if b = c then ([], s, true) else (b :: (cutD c s).1, (cutD c s).2.1, (cutD c s).2.2)
theorem index_cons_ne {b c : UInt8} (l : List UInt8) (h : b ≠ c) : Lib.index (b :: l) [c] = if Lib.index l [c] == -1 then -1 else Lib.index l [c] + 1 := by
  have hp : ([c] : List UInt8).isPrefixOf (b :: l) = false := by simp [List.isPrefixOf, Ne.symm h]
  rw [Lib.index, hp]; simp
theorem index_cons_eq (c : UInt8) (l : List UInt8) : Lib.index (c :: l) [c] = ((0 : Nat) : Int) := by rw [Lib.index]; simp [List.isPrefixOf]
theorem cut_eq (c : UInt8) : ∀ s : List UInt8, Lib.cut s [c] = cutD c s
  | [] => by simp [Lib.cut, Lib.index, cutD]
  | b :: l => by
    have ih := cut_eq c l
    by_cases h : b = c
    · subst h
      rw [Lib.cut, index_cons_eq]; simp [cutD]
    · simp only [cutD, if_neg h, ← ih]
      unfold Lib.cut
      rw [index_cons_ne l h]
      have hge := Lib.index_ge l [c]
      by_cases hm : Lib.index l [c] = -1
      · rw [hm]; simp
      · obtain ⟨j, hj⟩ : ∃ j : Nat, Lib.index l [c] = j := ⟨(Lib.index l [c]).toNat, by omega⟩
        rw [hj]
        have e1 : ((j : Int) == -1) = false := by simp
        have e2 : ((j : Int) + 1).toNat = j + 1 := by omega
        have e3 : (0 : Int) ≤ (j : Int) + 1 := by omega
        simp [e1, e2, e3]
def valFrom (n : Nat) (s : List UInt8) : Nat := s.foldl (fun n c => 10 * n + (c.toNat - 48)) n
abbrev valS (s : List UInt8) : Nat := valFrom 0 s
theorem valFrom_snoc (n : Nat) (a : List UInt8) (d : UInt8) : valFrom n (a ++ [d]) = 10 * valFrom n a + (d.toNat - 48) := by
  simp [valFrom, List.foldl_append]
theorem of48 {u : Nat} (h : u < 10) : (UInt8.ofNat (48 + u)).toNat = 48 + u := by
  rw [UInt8.toNat_ofNat']; omega
theorem dec_small {u : Nat} (h : u < 10) : Lib.decDigits u = [UInt8.ofNat (48 + u)] := by rw [Lib.decDigits, dif_pos h]
theorem dec_big {u : Nat} (h : ¬ u < 10) : Lib.decDigits u = Lib.decDigits (u / 10) ++ [UInt8.ofNat (48 + u % 10)] := by rw [Lib.decDigits, dif_neg h]
theorem digit_of {u : Nat} (h : u < 10) : digitC (UInt8.ofNat (48 + u)) = true := by
  unfold digitC; rw [of48 h]; simp; omega
theorem dec_all : ∀ u : Nat, (Lib.decDigits u).all digitC = true ∧ valS (Lib.decDigits u) = u ∧ Lib.decDigits u ≠ [] ∧ (0 < u → (Lib.decDigits u).headD 0 ≠ 48) := by
  intro u
  induction u using Nat.strongRecOn with
  | ind u ih =>
    by_cases h : u < 10
    · rw [dec_small h]
      refine ⟨by (show (digitC (UInt8.ofNat (48 + u)) && true) = true; rw [digit_of h]; rfl), ?_, by simp, fun h0 e => ?_⟩
      · show 10 * 0 + ((UInt8.ofNat (48 + u)).toNat - 48) = u
        rw [of48 h]; omega
      · have e' : UInt8.ofNat (48 + u) = 48 := e
        have := congrArg UInt8.toNat e'
        rw [of48 h] at this
        have h48 : (48 : UInt8).toNat = 48 := rfl
        omega
    · obtain ⟨i1, i2, i3, i4⟩ := ih (u / 10) (by omega)
      rw [dec_big h]
      have hm : u % 10 < 10 := Nat.mod_lt _ (by decide)
      refine ⟨by (rw [List.all_append, i1]; show (true && (digitC (UInt8.ofNat (48 + u % 10)) && true)) = true; rw [digit_of hm]; rfl), ?_, by simp, fun h0 => ?_⟩
      · show valFrom 0 _ = u
        rw [valFrom_snoc, of48 hm]
        have : valFrom 0 (Lib.decDigits (u / 10)) = u / 10 := i2
        omega
      · cases hd : Lib.decDigits (u / 10) with
        | nil => exact absurd hd i3
        | cons x r =>
          have := i4 (by omega)
          rw [hd] at this
          exact this
theorem cut_at (c : UInt8) : ∀ (s r : List UInt8), c ∉ s → cutD c (s ++ c :: r) = (s, r, true)
  | [], r, _ => by simp [cutD]
  | b :: s, r, h => by
    have h1 : b ≠ c := fun e => h (by rw [e]; exact .head _)
    have h2 := cut_at c s r (fun e => h (.tail _ e))
    simp only [List.cons_append, cutD, if_neg h1, h2]
theorem dec_inj {a b : Nat} (h : Lib.decDigits a = Lib.decDigits b) : a = b := by
  have h1 := (dec_all a).2.1
  have h2 := (dec_all b).2.1
  rw [h] at h1
  exact h1.symm.trans h2
theorem dec_no (c : UInt8) (hc : digitC c = false) (u : Nat) : c ∉ Lib.decDigits u := by
  intro h
  have := List.all_eq_true.1 (dec_all u).1 c h
  rw [hc] at this
  exact absurd this (by decide)
theorem itoa_inj {a b : Int} (h : Lib.itoa a = Lib.itoa b) : a = b := by
  unfold Lib.itoa at h
  by_cases ha : a < 0
  · rw [if_pos ha] at h
    by_cases hb : b < 0
    · rw [if_pos hb] at h
      have := dec_inj (List.cons.inj h).2
      omega
    · rw [if_neg hb] at h
      exact absurd (h ▸ List.mem_cons_self : (45 : UInt8) ∈ Lib.decDigits b.toNat) (dec_no 45 (by decide) _)
  · rw [if_neg ha] at h
    by_cases hb : b < 0
    · rw [if_pos hb] at h
      exact absurd (h ▸ List.mem_cons_self : (45 : UInt8) ∈ Lib.decDigits a.toNat) (dec_no 45 (by decide) _)
    · rw [if_neg hb] at h
      have := dec_inj h
      omega
theorem itoa_no (c : UInt8) (hc : digitC c = false) (h45 : c ≠ 45) (n : Int) : c ∉ Lib.itoa n := by
  unfold Lib.itoa
  split
  · intro h
    rcases List.mem_cons.1 h with e | e
    · exact h45 e
    · exact dec_no c hc _ e
  · exact dec_no c hc _
def commas (l : List Int) : List UInt8 := (l.map fun k => Lib.itoa k ++ [44]).flatten
theorem commas_cons (k : Int) (l : List Int) : commas (k :: l) = Lib.itoa k ++ 44 :: commas l := by simp [commas]
theorem commas_snoc (l : List Int) (k : Int) : commas (l ++ [k]) = commas l ++ (Lib.itoa k ++ [44]) := by simp [commas]
theorem commas_inj : ∀ (l m : List Int), commas l = commas m → l = m
  | [], [], _ => rfl
  | [], k :: m, h => by rw [commas_cons] at h; simp [commas] at h
  | k :: l, [], h => by rw [commas_cons] at h; simp [commas] at h
  | k :: l, q :: m, h => by
    rw [commas_cons, commas_cons] at h
    have h1 := cut_at 44 (Lib.itoa k) (commas l) (itoa_no 44 (by decide) (by decide) k)
    have h2 := cut_at 44 (Lib.itoa q) (commas m) (itoa_no 44 (by decide) (by decide) q)
    rw [h] at h1
    have h3 := h1.symm.trans h2
    simp only [Prod.mk.injEq, and_true] at h3
    rw [itoa_inj h3.1, commas_inj l m h3.2]
theorem flatten_inj : ∀ (l m : List (List UInt8)), l.map List.length = m.map List.length → l.flatten = m.flatten → l = m
  | [], [], _, _ => rfl
  | [], _ :: _, h, _ => by simp at h
  | _ :: _, [], h, _ => by simp at h
  | x :: l, y :: m, h, e => by
    simp only [List.map_cons, List.cons.injEq] at h
    simp only [List.flatten_cons] at e
    have := List.append_inj e h.1
    rw [this.1, flatten_inj l m h.2 this.2]
end Go.Sy
