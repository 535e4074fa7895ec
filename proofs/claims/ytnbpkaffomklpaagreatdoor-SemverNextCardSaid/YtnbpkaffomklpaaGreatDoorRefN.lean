/- The document's next release: what its functions answer, and that it is what the program's is. -/
import Derived.Test.YtnbpkaffomklpaaGreatDoorRefB
import Derived.Test.YtnbpkaffomklpaaGreatDoorSemL
namespace Go.Sy
open Go Go.Proofs Go.RowKit

abbrev T3 := Int × Int × Int
/-- Is a release one for a class, behind a version? -/
def suits3 (a b c : Int) (v : Ver) (k : Int) : Prop :=
  (v.major < a ∨ a = v.major ∧ (v.minor < b ∨ b = v.minor ∧ (v.patch < c ∨ c = v.patch ∧ 0 < v.pre.length))) ∧ (0 < k → c = 0) ∧ (k < 2 ∨ v.major = 0 ∨ b = 0)
abbrev suitsP (r : T3) (v : Ver) (k : Int) : Prop := suits3 r.1 r.2.1 r.2.2 v k
def cand0 (v : Ver) (k : Int) : List T3 := if k = 0 ∧ v.patch < 9223372036854775807 then [(v.major, v.minor, v.patch + 1)] else []
def cand1 (v : Ver) (k : Int) : List T3 := if (0 < k ∧ (k = 1 ∨ v.major = 0)) ∧ v.minor < 9223372036854775807 then [(v.major, v.minor + 1, 0)] else []
def cand2 (v : Ver) (k : Int) : List T3 := if (1 < k ∧ 0 < v.major) ∧ v.major < 9223372036854775807 then [(v.major + 1, 0, 0)] else []
def candS (v : Ver) (k : Int) : List T3 := (([(v.major, v.minor, v.patch)] ++ cand0 v k) ++ cand1 v k) ++ cand2 v k
/-- Where there is none. -/
theorem next_over {v : Ver} {k : Int} (h0 : 0 ≤ k) (h3 : k ≤ 3) (hr : rightV v = true) (he : (nextS v k).2 ≠ 0) :
    nextS v k = (relV 0 0 0, 2) ∧ (if 2 ≤ k ∧ 0 < v.major then ¬(0 < v.pre.length ∧ v.minor = 0 ∧ v.patch = 0) ∧ v.major = 9223372036854775807
      else if 0 < k then ¬(0 < v.pre.length ∧ v.patch = 0) ∧ v.minor = 9223372036854775807 else ¬ 0 < v.pre.length ∧ v.patch = 9223372036854775807) := by
  unfold nextS at he ⊢
  rw [if_neg (by rw [hr]; decide), if_neg (by omega), if_neg (by omega)] at he ⊢
  by_cases c1 : 2 ≤ k ∧ 0 < v.major
  · rw [if_pos c1] at he ⊢
    by_cases c2 : 0 < v.pre.length ∧ v.minor = 0 ∧ v.patch = 0
    · rw [if_pos c2] at he; exact absurd rfl he
    rw [if_neg c2] at he ⊢
    by_cases c3 : v.major = 9223372036854775807
    · rw [if_pos c3, if_pos c1]; exact ⟨rfl, c2, c3⟩
    · rw [if_neg c3] at he; exact absurd rfl he
  · rw [if_neg c1] at he ⊢
    by_cases c4 : k > 0
    · rw [if_pos c4] at he ⊢
      by_cases c2 : 0 < v.pre.length ∧ v.patch = 0
      · rw [if_pos c2] at he; exact absurd rfl he
      rw [if_neg c2] at he ⊢
      by_cases c3 : v.minor = 9223372036854775807
      · rw [if_pos c3, if_neg c1, if_pos c4]; exact ⟨rfl, c2, c3⟩
      · rw [if_neg c3] at he; exact absurd rfl he
    · rw [if_neg c4] at he ⊢
      by_cases c2 : 0 < v.pre.length
      · rw [if_pos c2] at he; exact absurd rfl he
      rw [if_neg c2] at he ⊢
      by_cases c3 : v.patch = 9223372036854775807
      · rw [if_pos c3, if_neg c1, if_neg c4]; exact ⟨rfl, c2, c3⟩
      · rw [if_neg c3] at he; exact absurd rfl he
/-- The second one, where there is one. -/
def sec3 (a b c : Int) (v : Ver) (k : Int) : Prop :=
  (k = 0 ∧ v.patch < 9223372036854775807 ∧ a = v.major ∧ b = v.minor ∧ c = v.patch + 1) ∨ ((0 < k ∧ (k = 1 ∨ v.major = 0)) ∧ v.minor < 9223372036854775807 ∧ a = v.major ∧ b = v.minor + 1 ∧ c = 0) ∨ ((1 < k ∧ 0 < v.major) ∧ v.major < 9223372036854775807 ∧ a = v.major + 1 ∧ b = 0 ∧ c = 0)
def noSec (v : Ver) (k : Int) : Prop := ¬(k = 0 ∧ v.patch < 9223372036854775807) ∧ ¬((0 < k ∧ (k = 1 ∨ v.major = 0)) ∧ v.minor < 9223372036854775807) ∧ ¬((1 < k ∧ 0 < v.major) ∧ v.major < 9223372036854775807)
theorem cand_two (v : Ver) (k : Int) : (candS v k = [(v.major, v.minor, v.patch)] ∧ noSec v k) ∨ ∃ a b c, candS v k = [(v.major, v.minor, v.patch), (a, b, c)] ∧ sec3 a b c v k := by
  unfold candS cand0 cand1 cand2
  by_cases a : k = 0 ∧ v.patch < 9223372036854775807
  · right; rw [if_pos a, if_neg (by omega), if_neg (by omega)]; exact ⟨_, _, _, rfl, Or.inl ⟨a.1, a.2, rfl, rfl, rfl⟩⟩
  rw [if_neg a]
  by_cases b : (0 < k ∧ (k = 1 ∨ v.major = 0)) ∧ v.minor < 9223372036854775807
  · right; rw [if_pos b, if_neg (by omega)]; exact ⟨_, _, _, rfl, Or.inr (Or.inl ⟨b.1, b.2, rfl, rfl, rfl⟩)⟩
  rw [if_neg b]
  by_cases c : (1 < k ∧ 0 < v.major) ∧ v.major < 9223372036854775807
  · right; rw [if_pos c]; exact ⟨_, _, _, rfl, Or.inr (Or.inr ⟨c.1, c.2, rfl, rfl, rfl⟩)⟩
  rw [if_neg c]; exact Or.inl ⟨rfl, a, b, c⟩
section
variable {v : Ver} {k : Int}
/-- The first one that suits is the next one. -/
theorem suits_next (hv : VerOk v) (h0 : 0 ≤ k) (h3 : k ≤ 3) (hr : rightV v = true) {x y z : Int} (hs : suits3 x y z v k)
    (hr1 : (x = v.major ∧ y = v.minor ∧ z = v.patch) ∨ (¬ suits3 v.major v.minor v.patch v k ∧ sec3 x y z v k)) : nextS v k = (relV x y z, 0) := by
  have hg := right_ge hr
  unfold suits3 sec3 at hr1
  unfold suits3 at hs
  by_cases he : (nextS v k).2 = 0
  · obtain ⟨a, b, c, N⟩ := next_is hv h0 h3 he
    have is := N.is
    have key : a = x ∧ b = y ∧ c = z := by
      (repeat' split at is) <;> omega
    rw [N.eq, key.1, key.2.1, key.2.2]
  · exfalso
    have ho := (next_over h0 h3 hr he).2
    (repeat' split at ho) <;> omega
theorem none_suits (hv : VerOk v) (h0 : 0 ≤ k) (h3 : k ≤ 3) (hr : rightV v = true) (h1 : ¬ suits3 v.major v.minor v.patch v k) (h2 : noSec v k ∨ ∃ a b c, sec3 a b c v k ∧ ¬ suits3 a b c v k) : nextS v k = (relV 0 0 0, 2) := by
  have hg := right_ge hr
  by_cases he : (nextS v k).2 = 0
  · exfalso
    obtain ⟨a, b, c, N⟩ := next_is hv h0 h3 he
    have is := N.is
    have hr2 := N.r2
    have hr1 := N.r1
    have hr3 := N.r3
    unfold suits3 at h1
    rcases h2 with h2 | ⟨x, y, z, h2, h4⟩
    · unfold noSec at h2
      (repeat' split at is) <;> omega
    · unfold sec3 at h2
      unfold suits3 at h4
      (repeat' split at is) <;> omega
  · exact (next_over h0 h3 hr he).1
theorem found_next (hv : VerOk v) (h0 : 0 ≤ k) (h3 : k ≤ 3) (hr : rightV v = true) {q : Nat} (hq : q < (candS v k).length) (hno : ∀ j (hj : j < (candS v k).length), j < q → ¬ suitsP (candS v k)[j] v k) (hs : suitsP (candS v k)[q] v k) :
    nextS v k = (relV (candS v k)[q].1 (candS v k)[q].2.1 (candS v k)[q].2.2, 0) := by
  have h2 := cand_two v k
  generalize candS v k = l at hq hno hs h2 ⊢
  rcases h2 with ⟨rfl, _⟩ | ⟨a, b, c, rfl, hsec⟩
  · match q, hq with
    | 0, _ => exact suits_next hv h0 h3 hr hs (Or.inl ⟨rfl, rfl, rfl⟩)
  · match q, hq with
    | 0, _ => exact suits_next hv h0 h3 hr hs (Or.inl ⟨rfl, rfl, rfl⟩)
    | 1, _ => exact suits_next hv h0 h3 hr hs (Or.inr ⟨hno 0 (by simp) (by omega), hsec⟩)
theorem none_next (hv : VerOk v) (h0 : 0 ≤ k) (h3 : k ≤ 3) (hr : rightV v = true) (hno : ∀ j (hj : j < (candS v k).length), ¬ suitsP (candS v k)[j] v k) : nextS v k = (relV 0 0 0, 2) := by
  have h2 := cand_two v k
  generalize candS v k = l at hno h2
  rcases h2 with ⟨rfl, h⟩ | ⟨a, b, c, rfl, hsec⟩
  · exact none_suits hv h0 h3 hr (hno 0 (by simp)) (Or.inl h)
  · exact none_suits hv h0 h3 hr (hno 0 (by simp)) (Or.inr ⟨a, b, c, hsec, hno 1 (by simp)⟩)
end
end Go.Sy
