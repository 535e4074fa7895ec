/- The next release is greater, and the least one of its kind: no program in sight. -/
import Derived.Test.YtnbpkaffomklpaaGreatDoorSemV
import Derived.Test.YtnbpkaffomklpaaGreatDoorSem6
namespace Go.Sy
open Go

theorem cmpV_gt {a b c : Int} {v : Ver} : 0 < cmpV (relV a b c) v ↔ v.major < a ∨ a = v.major ∧ (v.minor < b ∨ b = v.minor ∧ (v.patch < c ∨ c = v.patch ∧ 0 < v.pre.length)) := by
  unfold cmpV
  rw [first3]
  simp only [true_or, if_true, List.length_nil]
  unfold Lib.compareInt
  repeat' split
  all_goals omega
theorem cmpV_lt {a b c : Int} {v : Ver} : cmpV (relV a b c) v < 0 ↔ a < v.major ∨ a = v.major ∧ (b < v.minor ∨ b = v.minor ∧ c < v.patch) := by
  unfold cmpV
  rw [first3]
  simp only [true_or, if_true, List.length_nil]
  unfold Lib.compareInt
  repeat' split
  all_goals omega
theorem sign_one (n : Int) : Lib.compareInt n 0 = 1 ↔ 0 < n := by
  unfold Lib.compareInt; repeat' split
  all_goals omega
theorem sign_neg (n : Int) : Lib.compareInt n 0 = -1 ↔ n < 0 := by
  unfold Lib.compareInt; repeat' split
  all_goals omega
theorem may_nil (b : Bool) : mayS [] b = true := by cases b <;> rfl
theorem right_rel {a b c : Int} (h1 : 0 ≤ a) (h2 : 0 ≤ b) (h3 : 0 ≤ c) : rightV (relV a b c) = true := by
  unfold rightV; simp only [may_nil, Bool.and_true, decide_eq_true h1, decide_eq_true h2, decide_eq_true h3]
theorem right_ge {v : Ver} (h : rightV v = true) : 0 ≤ v.major ∧ 0 ≤ v.minor ∧ 0 ≤ v.patch := by
  unfold rightV at h
  simp only [Bool.and_eq_true, decide_eq_true_eq] at h
  exact ⟨h.1, h.2.1, h.2.2.1⟩

/-- The release that is told, with what it is. -/
structure NextIs (v : Ver) (k : Int) (a b c : Int) : Prop where
  eq : nextS v k = (relV a b c, 0)
  right : rightV v = true
  r1 : 0 ≤ a ∧ a ≤ 9223372036854775807
  r2 : 0 ≤ b ∧ b ≤ 9223372036854775807
  r3 : 0 ≤ c ∧ c ≤ 9223372036854775807
  is : if 2 ≤ k ∧ 0 < v.major then (a = v.major ∧ b = 0 ∧ c = 0 ∧ v.minor = 0 ∧ v.patch = 0 ∧ 0 < v.pre.length) ∨ (a = v.major + 1 ∧ b = 0 ∧ c = 0 ∧ ¬(0 < v.pre.length ∧ v.minor = 0 ∧ v.patch = 0))
    else if 0 < k then a = v.major ∧ ((b = v.minor ∧ c = 0 ∧ v.patch = 0 ∧ 0 < v.pre.length) ∨ (b = v.minor + 1 ∧ c = 0 ∧ ¬(0 < v.pre.length ∧ v.patch = 0)))
    else a = v.major ∧ b = v.minor ∧ ((c = v.patch ∧ 0 < v.pre.length) ∨ (c = v.patch + 1 ∧ ¬ 0 < v.pre.length))
theorem next_is {v : Ver} (hv : VerOk v) {k : Int} (h0 : 0 ≤ k) (h3 : k ≤ 3) (he : (nextS v k).2 = 0) : ∃ a b c, NextIs v k a b c := by
  have hr1 := hv.r1
  have hr2 := hv.r2
  have hr3 := hv.r3
  cases hr : rightV v with
  | false => unfold nextS at he; rw [if_pos hr] at he; exact absurd he (by decide)
  | true =>
    have hg := right_ge hr
    have key : ∀ a b c : Int, nextS v k = (relV a b c, 0) → (0 ≤ a ∧ a ≤ 9223372036854775807) → (0 ≤ b ∧ b ≤ 9223372036854775807) → (0 ≤ c ∧ c ≤ 9223372036854775807) → _ → ∃ a b c, NextIs v k a b c := fun a b c e q1 q2 q3 is => ⟨a, b, c, e, hr, q1, q2, q3, is⟩
    unfold nextS at he key
    rw [if_neg (by rw [hr]; decide), if_neg (by omega), if_neg (by omega)] at he key
    by_cases c1 : 2 ≤ k ∧ 0 < v.major
    · rw [if_pos c1] at he key
      by_cases c2 : 0 < v.pre.length ∧ v.minor = 0 ∧ v.patch = 0
      · rw [if_pos c2] at he key
        exact key _ _ _ rfl (by omega) (by omega) (by omega) (by rw [if_pos c1]; omega)
      · rw [if_neg c2] at he key
        by_cases c3 : v.major = 9223372036854775807
        · rw [if_pos c3] at he; exact absurd he (by decide)
        · rw [if_neg c3] at key
          exact key _ _ _ rfl (by omega) (by omega) (by omega) (by rw [if_pos c1]; omega)
    · rw [if_neg c1] at he key
      by_cases c4 : k > 0
      · rw [if_pos c4] at he key
        by_cases c2 : 0 < v.pre.length ∧ v.patch = 0
        · rw [if_pos c2] at he key
          exact key _ _ _ rfl (by omega) (by omega) (by omega) (by rw [if_neg c1, if_pos (by omega)]; omega)
        · rw [if_neg c2] at he key
          by_cases c3 : v.minor = 9223372036854775807
          · rw [if_pos c3] at he; exact absurd he (by decide)
          · rw [if_neg c3] at key
            exact key _ _ _ rfl (by omega) (by omega) (by omega) (by rw [if_neg c1, if_pos (by omega)]; omega)
      · rw [if_neg c4] at he key
        by_cases c2 : 0 < v.pre.length
        · rw [if_pos c2] at he key
          exact key _ _ _ rfl (by omega) (by omega) (by omega) (by rw [if_neg c1, if_neg (by omega)]; omega)
        · rw [if_neg c2] at he key
          by_cases c3 : v.patch = 9223372036854775807
          · rw [if_pos c3] at he; exact absurd he (by decide)
          · rw [if_neg c3] at key
            exact key _ _ _ rfl (by omega) (by omega) (by omega) (by rw [if_neg c1, if_neg (by omega)]; omega)
theorem next_err {v : Ver} {k : Int} (h0 : 0 ≤ k) (h3 : k ≤ 3) (he : (nextS v k).2 ≠ 0) (hr : rightV v = true) : (nextS v k).2 = 2 := by
  unfold nextS at he ⊢
  rw [if_neg (by rw [hr]; decide), if_neg (by omega), if_neg (by omega)] at he ⊢
  repeat' split at he
  all_goals first | (exact absurd rfl he) | (simp [*]; done) | simp_all

theorem NextIs.ok {v : Ver} {k a b c : Int} (h : NextIs v k a b c) : VerOk (relV a b c) := rel_ok (by have := h.r1; omega) (by have := h.r2; omega) (by have := h.r3; omega)
theorem NextIs.rt {v : Ver} {k a b c : Int} (h : NextIs v k a b c) : rightV (relV a b c) = true := right_rel h.r1.1 h.r2.1 h.r3.1
theorem NextIs.ahead {v : Ver} {k a b c : Int} (h : NextIs v k a b c) : cmpR (relV a b c) v = (1, 0) := by
  rw [cmpR_yes h.rt h.right, (sign_one _).2]
  rw [cmpV_gt]
  have is := h.is
  repeat' split at is
  all_goals omega
theorem NextIs.fine {v : Ver} {k a b c : Int} (h : NextIs v k a b c) : (0 < k → c = 0) ∧ (1 < k → 0 < v.major → b = 0) := by
  have is := h.is
  repeat' split at is
  all_goals omega
/-- No release of the same kind stands between. -/
theorem NextIs.least {v : Ver} {k a b c : Int} (h : NextIs v k a b c) {x y z : Int} (hz : 0 < k → z = 0) (hy : 1 < k → 0 < v.major → y = 0) (ho : rightV (relV x y z) = true) :
    (cmpR (relV x y z) v).2 = 0 ∧ (cmpR (relV x y z) (relV a b c)).2 = 0 ∧ ¬((cmpR (relV x y z) v).1 = 1 ∧ (cmpR (relV x y z) (relV a b c)).1 = -1) := by
  rw [cmpR_yes ho h.right, cmpR_yes ho h.rt]
  refine ⟨rfl, rfl, ?_⟩
  rintro ⟨h1, h2⟩
  have h1 := (sign_one _).1 h1
  have h2 := (sign_neg _).1 h2
  rw [cmpV_gt] at h1
  rw [cmpV_lt] at h2
  simp only [] at h1 h2
  have hg := right_ge ho
  have hg2 := right_ge h.right
  have is := h.is
  simp only [] at hg
  repeat' split at is
  all_goals omega
/-- Of a greater class it is not less. -/
theorem NextIs.up {v : Ver} {k a b c : Int} (h : NextIs v k a b c) {l x y z : Int} (hl : l < k) (g : NextIs v l x y z) : (cmpR (relV x y z) (relV a b c)).2 = 0 ∧ (cmpR (relV x y z) (relV a b c)).1 ≤ 0 := by
  rw [cmpR_yes g.rt h.rt]
  refine ⟨rfl, (sign_le _).2 ?_⟩
  have : ¬ 0 < cmpV (relV x y z) (relV a b c) := by
    rw [cmpV_gt]
    simp only [List.length_nil]
    have hg2 := right_ge h.right
    have is := h.is
    have js := g.is
    repeat' split at is
    all_goals (repeat' split at js)
    all_goals omega
  omega
end Go.Sy
