/- What Cmp tells of two versions; what the statements cut versions to may be asked. -/
import Derived.Test.YtnbpkaffomklpaaGreatDoorSemQ
namespace Go.Sy
open Go Go.Proofs Go.RowKit

/-- What Cmp tells: which is ahead, and the error. -/
def cmpR (v u : Ver) : Int × Int := if (rightV v && rightV u) = true then (Lib.compareInt (cmpV v u) 0, 0) else (0, 1)
theorem cmpR_no {v u : Ver} (h : (rightV v && rightV u) = false) : cmpR v u = (0, 1) := by rw [cmpR, if_neg (by simp only [h]; decide)]
theorem cmpR_yes {v u : Ver} (h1 : rightV v = true) (h2 : rightV u = true) : cmpR v u = (Lib.compareInt (cmpV v u) 0, 0) := by rw [cmpR, if_pos (by rw [h1, h2]; rfl)]
theorem cmpR_err (v u : Ver) : (cmpR v u).2 = (cmpR u v).2 := by
  unfold cmpR; rw [Bool.and_comm]; split <;> rfl
theorem sign_anti (n : Int) : Lib.compareInt (-n) 0 = -Lib.compareInt n 0 := by
  unfold Lib.compareInt; repeat' split
  all_goals omega
theorem sign_le (n : Int) : Lib.compareInt n 0 ≤ 0 ↔ n ≤ 0 := by
  unfold Lib.compareInt; repeat' split
  all_goals omega
theorem sign_zero (n : Int) : Lib.compareInt n 0 = 0 ↔ n = 0 := by
  unfold Lib.compareInt; repeat' split
  all_goals omega
theorem sign_range (n : Int) : -1 ≤ Lib.compareInt n 0 ∧ Lib.compareInt n 0 ≤ 1 := by
  unfold Lib.compareInt; repeat' split
  all_goals omega
theorem cmpR_anti (v u : Ver) : (cmpR v u).1 = -(cmpR u v).1 := by
  unfold cmpR; rw [Bool.and_comm]
  split
  · show Lib.compareInt (cmpV v u) 0 = -Lib.compareInt (cmpV u v) 0
    rw [cmV.anti u v, sign_anti]
  · rfl
theorem cmpR_range (v u : Ver) : -1 ≤ (cmpR v u).1 ∧ (cmpR v u).1 ≤ 1 := by
  unfold cmpR; split
  · exact sign_range _
  · decide
theorem cmpR_ok {v u : Ver} (h : (cmpR v u).2 = 0) : (cmpR v u).1 = Lib.compareInt (cmpV v u) 0 := by
  unfold cmpR at h ⊢; split
  · rfl
  · rename_i k; rw [if_neg k] at h; simp at h
theorem cmpR_chain {a b c : Ver} (e1 : (cmpR a b).2 = 0) (e2 : (cmpR b c).2 = 0) (e3 : (cmpR a c).2 = 0) (h1 : (cmpR a b).1 ≤ 0) (h2 : (cmpR b c).1 ≤ 0) : (cmpR a c).1 ≤ 0 ∧ (((cmpR a b).1 = 0 ∧ (cmpR b c).1 = 0) ↔ (cmpR a c).1 = 0) := by
  rw [cmpR_ok e1] at h1 ⊢
  rw [cmpR_ok e2] at h2 ⊢
  rw [cmpR_ok e3]
  rw [sign_le] at h1 h2 ⊢
  rw [sign_zero, sign_zero, sign_zero]
  exact ⟨cmV.tr a b c h1 h2, cmV.zero h1 h2⟩

theorem few_sml (l : List (List UInt8)) : Sml (fewL l) := by
  intro s hs
  simp only [fewL, List.mem_map] at hs
  obtain ⟨t, _, rfl⟩ := hs
  simp [few1]; omega
theorem few_ok {v : Ver} (h : VerIn v) : VerOk (fewV v) := ⟨few_sml _, few_sml _, h.r1, h.r2, h.r3⟩

attribute [local irreducible] AC AT AO AK AH ACalls Sub Res.cells Res.obj Res.nix Res.own Exit.then Exit.inBlock bodyPost Code.wp Next Post Kont
section
variable {W0 : World} {L : List Res} {F : List Fact} {R : Value → List Res → List Fact → Prop}
set_option maxRecDepth 100000
set_option maxHeartbeats 4000000
theorem cmp2_c (v u : Ver) (hv : VerOk v) (hu : VerOk u) {a1 a2 a3 a4 : Option Addr} {k1 c1 k2 c2 k3 c3 k4 c4 : Nat} (m1 : fS v.pre a1 k1 c1 ∈ F) (m2 : fS v.build a2 k2 c2 ∈ F) (m3 : fS u.pre a3 k3 c3 ∈ F) (m4 : fS u.build a4 k4 c4 ∈ F)
    (h : R (.tuple #[.int .i64 (cmpR v u).1, .int .i64 (cmpR v u).2]) L F) :
    ACalls Tryz.prog W0 12 #[vVer v a1 k1 c1 a2 k2 c2, vVer u a3 k3 c3 a4 k4 c4] L F R :=
  cmp_c v u hv hu m1 m2 m3 m4 (fun e => by rw [cmpR_no e] at h; exact h) (fun e1 e2 => by rw [cmpR_yes e1 e2] at h; exact h)
end
end Go.Sy
