/- Plain laws on texts: parting, cutting, numbers. No program in sight. -/
import Derived.Test.YtnbpkaffomklpaaGreatDoorSem2
namespace Go.Sy
open Go

def splitD (c : UInt8) : List UInt8 → List (List UInt8)
  | [] => [[]]
  | b :: s => if b = c then [] :: splitD c s else match splitD c s with
    | [] => [[b]]
    | h :: t => (b :: h) :: t
def cutD (c : UInt8) : List UInt8 → List UInt8 × List UInt8 × Bool
  | [] => ([], [], false)
  | b :: s => if b = c then ([], s, true) else (b :: (cutD c s).1, (cutD c s).2.1, (cutD c s).2.2)

theorem index_cons_ne {b c : UInt8} (l : List UInt8) (h : b ≠ c) : Lib.index (b :: l) [c] = if Lib.index l [c] == -1 then -1 else Lib.index l [c] + 1 := by
  have hp : ([c] : List UInt8).isPrefixOf (b :: l) = false := by simp [List.isPrefixOf, Ne.symm h]
  rw [Lib.index, hp]; simp
theorem index_cons_eq (c : UInt8) (l : List UInt8) : Lib.index (c :: l) [c] = ((0 : Nat) : Int) := by rw [Lib.index]; simp [List.isPrefixOf]

theorem split_eq (c : UInt8) : ∀ s : List UInt8, Lib.splitK [c] 0 (Lib.count s [c]) s = splitD c s
  | [] => by rw [Lib.count_miss (by simp [Lib.index])]; rfl
  | b :: l => by
    have ih := split_eq c l
    by_cases h : b = c
    · subst h
      rw [Lib.count_cons_eq, Nat.add_comm, Lib.splitK, index_cons_eq]
      simp only [splitD, if_true]
      simp [ih]
    · rw [Lib.count_cons_ne b c l h]
      simp only [splitD, if_neg h]
      by_cases hm : Lib.index l [c] = -1
      · rw [Lib.count_miss hm, Lib.splitK] at ih
        rw [Lib.count_miss hm, Lib.splitK, ← ih]
      · have hge := Lib.index_ge l [c]
        obtain ⟨j, hj⟩ : ∃ j : Nat, Lib.index l [c] = j := ⟨(Lib.index l [c]).toNat, by omega⟩
        have hix : Lib.index (b :: l) [c] = ((j + 1 : Nat) : Int) := by rw [index_cons_ne l h, if_neg (fun e => hm (beq_iff_eq.1 e)), hj]; omega
        rw [Lib.count_hit (by simp) hj, Nat.add_comm, Lib.splitK, hj, if_neg (by simp)] at ih
        rw [Lib.count_hit (by simp) hj, Nat.add_comm, Lib.splitK, hix, if_neg (by simp; omega), ← ih]
        simp

theorem cut_eq (c : UInt8) : ∀ s : List UInt8, Lib.cut s [c] = cutD c s
  | [] => by simp [Lib.cut, Lib.index, cutD]
  | b :: l => by
    have ih := cut_eq c l
    by_cases h : b = c
    · subst h
      rw [Lib.cut, index_cons_eq]; simp [cutD]
    · simp only [cutD, if_neg h, ← ih]
      unfold Lib.cut
      rw [index_cons_ne l h]
      have hge := Lib.index_ge l [c]
      by_cases hm : Lib.index l [c] = -1
      · rw [hm]; simp
      · obtain ⟨j, hj⟩ : ∃ j : Nat, Lib.index l [c] = j := ⟨(Lib.index l [c]).toNat, by omega⟩
        rw [hj]
        have e1 : ((j : Int) == -1) = false := by simp
        have e2 : ((j : Int) + 1).toNat = j + 1 := by omega
        have e3 : (0 : Int) ≤ (j : Int) + 1 := by omega
        simp [e1, e2, e3]

theorem splitD_ne (c : UInt8) (s : List UInt8) : splitD c s ≠ [] := by
  cases s with
  | nil => simp [splitD]
  | cons b s => simp only [splitD]; split <;> (try split) <;> simp
theorem splitD_len (c : UInt8) : ∀ (s : List UInt8), (splitD c s).length ≤ s.length + 1
  | [] => by simp [splitD]
  | b :: s => by
    have := splitD_len c s
    simp only [splitD]; split
    · simp; omega
    · split
      · simp
      · rename_i h; rw [h] at this; simp at this ⊢; omega
theorem splitD_mem (c : UInt8) : ∀ (s x : List UInt8), x ∈ splitD c s → x.length ≤ s.length
  | [], x, h => by simp [splitD] at h; simp [h]
  | b :: s, x, h => by
    simp only [splitD] at h
    split at h
    · rcases List.mem_cons.1 h with rfl | h
      · simp
      · have := splitD_mem c s x h; simp; omega
    · split at h
      · simp at h; subst h; simp
      · rename_i hd tl he
        rcases List.mem_cons.1 h with rfl | h
        · have := splitD_mem c s hd (by rw [he]; simp); simp; omega
        · have := splitD_mem c s x (by rw [he]; exact List.mem_cons_of_mem _ h); simp; omega
theorem cutD_len (c : UInt8) : ∀ (s : List UInt8), (cutD c s).1.length ≤ s.length ∧ (cutD c s).2.1.length ≤ s.length
  | [] => by simp [cutD]
  | b :: s => by
    have := cutD_len c s
    simp only [cutD]; split <;> simp <;> omega

/-! ### Numbers -/
def valFrom (n : Nat) (s : List UInt8) : Nat := s.foldl (fun n c => 10 * n + (c.toNat - 48)) n
abbrev valS (s : List UInt8) : Nat := valFrom 0 s

theorem valFrom_ge (s : List UInt8) : ∀ n, n ≤ valFrom n s := by
  induction s with
  | nil => intro n; exact Nat.le_refl _
  | cons c s ih => intro n; have := ih (10 * n + (c.toNat - 48)); simp only [valFrom, List.foldl_cons] at this ⊢; omega
theorem parse_val : ∀ (s : List UInt8) (n : Nat), s.all digitC = true → valFrom n s < 18446744073709551616 → Lib.parseUint10 n s = .ok (valFrom n s)
  | [], n, _, _ => rfl
  | c :: s, n, hd, hv => by
    simp only [List.all_cons, Bool.and_eq_true] at hd
    have hc : 48 ≤ c.toNat ∧ c.toNat ≤ 57 := by simpa [digitC] using hd.1
    have hv' : valFrom (10 * n + (c.toNat - 48)) s < 18446744073709551616 := hv
    have hge := valFrom_ge s (10 * n + (c.toNat - 48))
    have ih := parse_val s (n * 10 + (c.toNat - 48)) hd.2 (by rw [Nat.mul_comm n 10]; exact hv')
    have e : valFrom (n * 10 + (c.toNat - 48)) s = valFrom n (c :: s) := by rw [Nat.mul_comm n 10]; rfl
    rw [e] at ih
    unfold Lib.parseUint10
    have g1 : ¬ (1844674407370955162 ≤ n) := by omega
    have g2 : ¬ (18446744073709551616 ≤ n * 10 + (c.toNat - 48)) := by omega
    simp [hc, g1, g2, ih]
theorem atoi_val {s : List UInt8} (hn : numericS s = true) (hv : valS s ≤ 9223372036854775807) : Lib.atoiAll s = .ok (valS s : Int) := by
  unfold numericS at hn
  cases s with
  | nil => simp at hn
  | cons c r =>
    have hd : (c :: r).all digitC = true := by simp at hn; simp [hn.1]; simpa using hn.2
    have hc : 48 ≤ c.toNat ∧ c.toNat ≤ 57 := by
      have := hd; simp only [List.all_cons, Bool.and_eq_true] at this; simpa [digitC] using this.1
    have h1 : ¬ (c.toNat = 43 ∨ c.toNat = 45) := by omega
    have h2 : ¬ (c.toNat = 45) := by omega
    have h5 : ¬ (c.toNat = 43) := by omega
    have h3 := parse_val (c :: r) 0 hd (by have : valFrom 0 (c :: r) ≤ _ := hv; omega)
    have h4 : ¬ (9223372036854775808 ≤ valFrom 0 (c :: r)) := by have : valFrom 0 (c :: r) ≤ _ := hv; omega
    simp [Lib.atoiAll, h2, h5, Lib.parseMag, h3, h4, valS]
theorem valFrom_lt : ∀ (s : List UInt8) (n : Nat), s.all digitC = true → valFrom n s < (n + 1) * 10 ^ s.length
  | [], n, _ => by simp [valFrom]
  | c :: s, n, hd => by
    simp only [List.all_cons, Bool.and_eq_true] at hd
    have hc : 48 ≤ c.toNat ∧ c.toNat ≤ 57 := by simpa [digitC] using hd.1
    have ih := valFrom_lt s (10 * n + (c.toNat - 48)) hd.2
    have : (10 * n + (c.toNat - 48) + 1) * 10 ^ s.length ≤ (10 * (n + 1)) * 10 ^ s.length := Nat.mul_le_mul_right _ (by omega)
    have e : (10 * (n + 1)) * 10 ^ s.length = (n + 1) * 10 ^ (s.length + 1) := by rw [Nat.pow_succ, Nat.mul_comm 10 (n + 1), Nat.mul_assoc, Nat.mul_comm 10]
    have e2 : valFrom n (c :: s) = valFrom (10 * n + (c.toNat - 48)) s := rfl
    rw [e2, List.length_cons]; omega
theorem valFrom_le : ∀ (s : List UInt8) (n : Nat), n * 10 ^ s.length ≤ valFrom n s
  | [], n => by simp [valFrom]
  | c :: s, n => by
    have ih := valFrom_le s (10 * n + (c.toNat - 48))
    have : (10 * n) * 10 ^ s.length ≤ (10 * n + (c.toNat - 48)) * 10 ^ s.length := Nat.mul_le_mul_right _ (by omega)
    have e : (10 * n) * 10 ^ s.length = n * 10 ^ (s.length + 1) := by rw [Nat.pow_succ, Nat.mul_comm 10 n, Nat.mul_assoc, Nat.mul_comm 10]
    have e2 : valFrom n (c :: s) = valFrom (10 * n + (c.toNat - 48)) s := rfl
    rw [e2, List.length_cons]; omega
theorem val_less : ∀ (a b : List UInt8) (n : Nat), a.length = b.length → a.all digitC = true → b.all digitC = true → Op.bytesLess a b = true → valFrom n a < valFrom n b
  | [], [], _, _, _, _, h => by simp [Op.bytesLess] at h
  | [], _ :: _, _, hl, _, _, _ => by simp at hl
  | _ :: _, [], _, hl, _, _, _ => by simp at hl
  | x :: a, y :: b, n, hl, ha, hb, h => by
    simp only [List.all_cons, Bool.and_eq_true] at ha hb
    have hx : 48 ≤ x.toNat ∧ x.toNat ≤ 57 := by simpa [digitC] using ha.1
    have hy : 48 ≤ y.toNat ∧ y.toNat ≤ 57 := by simpa [digitC] using hb.1
    have hl' : a.length = b.length := by simpa using hl
    show valFrom (10 * n + (x.toNat - 48)) a < valFrom (10 * n + (y.toNat - 48)) b
    have h' : x < y ∨ x = y ∧ Op.bytesLess a b = true := by simpa [Op.bytesLess] using h
    rcases h' with h' | ⟨rfl, h'⟩
    · have hlt := UInt8.lt_iff_toNat_lt.1 h'
      have h1 := valFrom_lt a (10 * n + (x.toNat - 48)) ha.2
      have h2 := valFrom_le b (10 * n + (y.toNat - 48))
      have h3 : (10 * n + (x.toNat - 48) + 1) * 10 ^ a.length ≤ (10 * n + (y.toNat - 48)) * 10 ^ a.length := Nat.mul_le_mul_right _ (by omega)
      rw [hl'] at h3 h1
      omega
    · exact val_less a b _ hl' ha.2 hb.2 h'
theorem fits_val {s : List UInt8} (hn : numericS s = true) (hf : fitsS s = true) : valS s ≤ 9223372036854775807 := by
  have hd : s.all digitC = true := by simp only [numericS, Bool.and_eq_true] at hn; exact hn.1
  have hg : greatest.all digitC = true := by decide
  have hgv : valS greatest = 9223372036854775807 := by decide
  have hgl : greatest.length = 19 := by decide
  have hf' : lowerS s greatest ≤ 0 := of_decide_eq_true hf
  unfold lowerS firstI at hf'
  rcases Nat.lt_trichotomy s.length 19 with h | h | h
  · have h1 := valFrom_lt s 0 hd
    have h2 : 10 ^ s.length ≤ 10 ^ 18 := Nat.pow_le_pow_right (by decide) (by omega)
    have : (10 : Nat) ^ 18 = 1000000000000000000 := by decide
    show valFrom 0 s ≤ _
    omega
  · have e : Lib.compareInt (s.length : Int) (greatest.length : Int) = 0 := by rw [h, hgl]; decide
    rw [e] at hf'
    by_cases hb : Op.bytesLess s greatest = true
    · have := val_less s greatest 0 (by omega) hd hg hb
      have hgv' : valFrom 0 greatest = _ := hgv
      show valFrom 0 s ≤ _
      omega
    · by_cases he : s = greatest
      · rw [he, hgv]; exact Nat.le_refl _
      · exfalso
        have : cmpS s greatest = 1 := by simp [cmpS, hb, he]
        rw [this] at hf'; simp at hf'
  · exfalso
    have e : Lib.compareInt (s.length : Int) (greatest.length : Int) = 1 := by
      rw [hgl]; unfold Lib.compareInt; rw [if_neg (by omega), if_pos (by omega)]
    rw [e] at hf'; simp at hf'
end Go.Sy
