/- The document's functions on texts and words: bytes, numbers, what is the same. -/
import Derived.Test.YtnbpkaffomklpaaGreatDoorSem3
namespace Go.Sy
open Go Go.Proofs Go.RowKit

theorem take_step {α : Type} {l m : List α} {k : Nat} (h : l.take k = m.take k) (hl : k < l.length) (hm : k < m.length) (he : l[k] = m[k]) : l.take (k + 1) = m.take (k + 1) := by
  rw [List.take_succ_eq_append_getElem hl, List.take_succ_eq_append_getElem hm, h, he]
theorem ne_at {α : Type} {l m : List α} {k : Nat} (hl : k < l.length) (hm : k < m.length) (he : l[k] ≠ m[k]) : l ≠ m := fun e => he (by subst e; rfl)
theorem all_of_take {α : Type} {l m : List α} {k : Nat} (h : l.take k = m.take k) (hl : l.length ≤ k) (hm : m.length ≤ k) : l = m := by
  rwa [List.take_of_length_le hl, List.take_of_length_le hm] at h
theorem letter_yes {c : UInt8} (h : digitC c = true ∨ (97 ≤ c.toNat ∧ c.toNat ≤ 122) ∨ (65 ≤ c.toNat ∧ c.toNat ≤ 90) ∨ c.toNat = 45) : letterC c = true := by
  unfold letterC
  rcases h with h | h | h | h
  · rw [h]; rfl
  · simp [h.1, h.2]
  · simp [h.1, h.2]
  · simp [h]
theorem letter_no {c : UInt8} (h : digitC c = false) (h1 : ¬(97 ≤ c.toNat ∧ c.toNat ≤ 122)) (h2 : ¬(65 ≤ c.toNat ∧ c.toNat ≤ 90)) (h3 : c.toNat ≠ 45) : letterC c = false := by
  unfold letterC
  rw [h]
  simp
  omega
theorem empty_of {s : List UInt8} (h : (s.length : Int) ≤ 0) : s = [] := List.eq_nil_of_length_eq_zero (by omega)
theorem ver_ext {v u : Ver} (h1 : v.major = u.major) (h2 : v.minor = u.minor) (h3 : v.patch = u.patch) (h4 : v.pre = u.pre) (h5 : v.build = u.build) : v = u := by
  cases v; cases u; simp_all

attribute [local irreducible] AC AT AO AK AH ACalls Sub Res.cells Res.obj Res.nix Res.own Exit.then Exit.inBlock bodyPost Code.wp Next Post Kont
section
variable {W0 : World} {L : List Res} {F : List Fact} {R : Value → List Res → List Fact → Prop}
set_option maxRecDepth 100000
theorem rsame_c (l m : List (List UInt8)) {a1 a2 : Option Addr} {k1 c1 k2 c2 : Nat} (m1 : fS l a1 k1 c1 ∈ F) (m2 : fS m a2 k2 c2 ∈ F) (hT : l = m → R (.bool true) L F) (hF : l ≠ m → R (.bool false) L F) :
    ACalls Tryz.prog W0 23 #[.slice a1 k1 c1, .slice a2 k2 c2] L F R := by
  refine ACalls.body Tryz.func23 rfl Tryz.ntmps23 rfl ?_
  refine AC.seq (AC.region (AL.go (AO.assign rfl rfl (AL.nil (AK.seqN (AC.seq ?_))))))
  refine AC.seq (AC.region (AL.go (AO.move rfl rfl ?_)))
  refine AL.go (AO.len rfl rfl (fun hl1 => ?_) (hm := m1))
  refine AL.go (AO.move rfl rfl ?_)
  refine AL.go (AO.len rfl rfl (fun hl2 => ?_) (hm := m2))
  refine AL.go (AO.neq rfl rfl rfl (fun c10 => ?_) (fun c10 => ?_))
  · refine AL.nil (AK.seqN (AC.condT rfl (AC.seq (AC.region (AL.go (AO.assign rfl rfl ?_))))))
    refine AL.nil (AK.seqN (AC.ret (AK.seqR ?_)))
    first | refine AK.ret Tryz.results23 rfl (by repeat (first | exact Sub.refl _ _ | refine Sub.trans Sub.drop ?_ | refine Sub.trans Sub.dropF ?_)) (hT ?_) | refine AK.ret Tryz.results23 rfl (by repeat (first | exact Sub.refl _ _ | refine Sub.trans Sub.drop ?_ | refine Sub.trans Sub.dropF ?_)) (hF ?_)
    first
    | exact ne_at hkl hkm c24
    | exact fun e => c10 (by rw [e])
    | exact all_of_take hok (by omega) (by omega)
  · refine AL.nil (AK.seqN (AC.condF rfl (AC.skip (AK.seqN (AC.seq ?_)))))
    refine AC.seq (AC.region (AL.go (AO.move rfl rfl ?_)))
    refine AL.go (AO.len rfl rfl (fun hl3 => ?_) (hm := m1))
    refine AL.go (AO.move rfl rfl (AL.nil (AK.seqN (AC.block ?_))))
    refine AC.loop (fun k => k ≤ l.length ∧ l.take k = m.take k) (fun k => [(0, .slice a1 k1 c1), (1, .slice a2 k2 c2), (12, .int .i64 l.length), (13, .int .i64 (k : Int))]) (fun _ => L) (fun _ => F) (fun k => l.length - k) 0 ⟨by omega, by simp⟩ (by repeat (first | exact SubR.nil | refine SubR.cons rfl ?_)) (Sub.refl _ _) ?_
    rintro k ⟨hk, hok⟩
    refine AC.seq (AC.region ?_)
    refine AL.go (AO.lss rfl rfl rfl (fun c14 => ?_) (fun c14 => ?_))
    · refine AL.nil (AK.seqN (AC.seq (AC.condT rfl (AC.skip (AK.seqN ?_)))))
      refine AC.seq (AC.block (AC.seq (AC.region (AL.go (AO.move rfl rfl (AL.go (AO.assign rfl rfl ?_)))))))
      refine AL.nil (AK.seqN (AC.seq ?_))
      refine AC.draw (fun _ => false) [] (by repeat (first | exact BxIn.nil | refine BxIn.cons (by repeat (first | exact has0 | apply hasS)) ?_)) rfl (fun hx hX => ?_)
      have hkl : k < l.length := by omega
      have hkm : k < m.length := by omega
      have hkk1 := (len_of_fact (hX _ m1)).1
      have hkk3 := (len_of_fact (hX _ m2)).1
      obtain ⟨p1, o1, rfl, at1⟩ := row_of_fact (hX _ m1) hkl
      obtain ⟨p2, o2, rfl, at2⟩ := row_of_fact (hX _ m2) hkm
      obtain ⟨v1, hv1, hc1⟩ := at1 0 _ rfl
      obtain ⟨v2, hv2, hc2⟩ := at2 0 _ rfl
      cases hc1
      cases hc2
      refine AH.takeW (i := 0) rfl (Y.move rfl) (by kernel_rfl) rfl rfl ?_
      refine AH.takeW (i := 1) rfl (Y.move rfl) (by kernel_rfl) rfl rfl ?_
      refine AH.takeW (i := 2) rfl (Y.indexAddr rfl rfl rfl (by omega)) (by kernel_rfl) rfl rfl ?_
      refine AH.takeS (i := 3) rfl (Y.loadF rfl (by assumption)) (by kernel_rfl) (by kernel_rfl) rfl rfl rfl ?_
      refine AH.takeW (i := 4) rfl (Y.move rfl) (by kernel_rfl) rfl rfl ?_
      refine AH.takeW (i := 5) rfl (Y.move rfl) (by kernel_rfl) rfl rfl ?_
      refine AH.takeW (i := 6) rfl (Y.indexAddr rfl rfl rfl (by omega)) (by kernel_rfl) rfl rfl ?_
      refine AH.takeS (i := 7) rfl (Y.loadF rfl (by assumption)) (by kernel_rfl) (by kernel_rfl) rfl rfl rfl ?_
      refine AH.takeB (i := 8) rfl (Y.neqS rfl rfl) (by kernel_rfl) rfl rfl (fun c24 => ?_) (fun c24 => ?_)
      · replace c24 := ne_of_nbeq c24
        refine AH.done (by kernel_rfl) ?_
        refine AK.seqN (AC.condT rfl (AC.seq (AC.region (AL.go (AO.assign rfl rfl (AL.nil ?_))))))
        refine AK.seqN (AC.ret (AK.blkR (AK.seqR (AK.seqR (AK.blkR ?_)))))
        refine AK.seqR ?_
        first | refine AK.ret Tryz.results23 rfl (by repeat (first | exact Sub.refl _ _ | refine Sub.trans Sub.drop ?_ | refine Sub.trans Sub.dropF ?_)) (hT ?_) | refine AK.ret Tryz.results23 rfl (by repeat (first | exact Sub.refl _ _ | refine Sub.trans Sub.drop ?_ | refine Sub.trans Sub.dropF ?_)) (hF ?_)
        first
        | exact ne_at hkl hkm c24
        | exact fun e => c10 (by rw [e])
        | exact all_of_take hok (by omega) (by omega)
      · replace c24 := eq_of_nbeqF c24
        refine AH.done (by kernel_rfl) ?_
        refine AK.seqN (AC.condF rfl (AC.skip (AK.blkN (AK.seqN (AC.region ?_)))))
        refine AL.go (AO.add rfl rfl rfl (by omega) (by omega) (AL.go (AO.move rfl rfl (AL.nil ?_))))
        refine AK.next (k + 1) ⟨by omega, take_step hok hkl hkm c24⟩ (by omega) (by repeat (first | exact SubR.nil | refine SubR.cons rfl ?_)) (by repeat (first | exact Sub.refl _ _ | refine Sub.trans Sub.dropF ?_))
    · refine AL.nil (AK.seqN (AC.seq (AC.condF rfl (AC.exit (AK.seqX ?_)))))
      refine AK.seqX (AK.blkX (AK.seqN (AC.seq (AC.region (AL.go (AO.assign rfl rfl ?_))))))
      refine AL.nil (AK.seqN (AC.ret ?_))
      first | refine AK.ret Tryz.results23 rfl (by repeat (first | exact Sub.refl _ _ | refine Sub.trans Sub.drop ?_ | refine Sub.trans Sub.dropF ?_)) (hT ?_) | refine AK.ret Tryz.results23 rfl (by repeat (first | exact Sub.refl _ _ | refine Sub.trans Sub.drop ?_ | refine Sub.trans Sub.dropF ?_)) (hF ?_)
      first
      | exact ne_at hkl hkm c24
      | exact fun e => c10 (by rw [e])
      | exact all_of_take hok (by omega) (by omega)
theorem rlike_c (v u : Ver) {a1 a2 a3 a4 : Option Addr} {k1 c1 k2 c2 k3 c3 k4 c4 : Nat} (m1 : fS v.pre a1 k1 c1 ∈ F) (m2 : fS v.build a2 k2 c2 ∈ F) (m3 : fS u.pre a3 k3 c3 ∈ F) (m4 : fS u.build a4 k4 c4 ∈ F)
    (hT : v = u → R (.bool true) L F) (hF : v ≠ u → R (.bool false) L F) : ACalls Tryz.prog W0 9 #[vVer v a1 k1 c1 a2 k2 c2, vVer u a3 k3 c3 a4 k4 c4] L F R := by
  refine ACalls.body Tryz.func9 rfl Tryz.ntmps9 rfl ?_
  refine AC.seq (AC.region (AL.go (AO.box rfl rfl (fun b2 => ?_))))
  refine AL.go (AO.box rfl rfl (fun b3 => ?_))
  refine AL.go (AO.assign rfl rfl (AL.nil (AK.seqN (AC.seq (AC.region (AL.go (AO.field rfl rfl ?_)))))))
  refine AL.go (AO.loadB rfl rfl ?_)
  refine AL.go (AO.field rfl rfl ?_)
  refine AL.go (AO.loadB rfl rfl ?_)
  refine AL.go (AO.eql rfl rfl rfl (fun c9 => ?_) (fun c9 => ?_))
  · refine AL.go (AO.move rfl rfl (AL.yes rfl rfl (AO.field rfl rfl ?_)))
    refine AL.yes rfl rfl (AO.loadB rfl rfl ?_)
    refine AL.yes rfl rfl (AO.field rfl rfl ?_)
    refine AL.yes rfl rfl (AO.loadB rfl rfl ?_)
    refine AL.yes rfl rfl (AO.eql rfl rfl rfl (fun c15 => ?_) (fun c15 => ?_))
    · refine AL.go (AO.pickT rfl rfl rfl (AL.go (AO.move rfl rfl (AL.yes rfl rfl (AO.field rfl rfl ?_)))))
      refine AL.yes rfl rfl (AO.loadB rfl rfl ?_)
      refine AL.yes rfl rfl (AO.field rfl rfl ?_)
      refine AL.yes rfl rfl (AO.loadB rfl rfl ?_)
      refine AL.yes rfl rfl (AO.eql rfl rfl rfl (fun c22 => ?_) (fun c22 => ?_))
      · refine AL.go (AO.pickT rfl rfl rfl (AL.go (AO.move rfl rfl (AL.yes rfl rfl (AO.field rfl rfl ?_)))))
        refine AL.yes rfl rfl (AO.loadB rfl rfl ?_)
        refine AL.yes rfl rfl (AO.field rfl rfl ?_)
        refine AL.yes rfl rfl (AO.loadB rfl rfl ?_)
        refine AL.yes rfl rfl (AO.call rfl rfl (rsame_c v.pre u.pre (by repeat (first | exact mem0 | assumption | refine memS ?_)) (by repeat (first | exact mem0 | assumption | refine memS ?_)) (fun c29 => ?_) (fun c29 => ?_)))
        · refine AL.go (AO.pickT rfl rfl rfl (AL.go (AO.move rfl rfl (AL.yes rfl rfl (AO.field rfl rfl ?_)))))
          refine AL.yes rfl rfl (AO.loadB rfl rfl ?_)
          refine AL.yes rfl rfl (AO.field rfl rfl ?_)
          refine AL.yes rfl rfl (AO.loadB rfl rfl ?_)
          refine AL.yes rfl rfl (AO.call rfl rfl (rsame_c v.build u.build (by repeat (first | exact mem0 | assumption | refine memS ?_)) (by repeat (first | exact mem0 | assumption | refine memS ?_)) (fun c36 => ?_) (fun c36 => ?_)))
          · refine AL.go (AO.pickT rfl rfl rfl (AL.go (AO.assign rfl rfl (AL.nil (AK.seqN (AC.ret ?_))))))
            first | refine AK.ret (L' := L) (F' := F) Tryz.results9 rfl (by repeat (first | exact Sub.refl _ _ | refine Sub.trans Sub.drop ?_ | refine Sub.trans Sub.dropF ?_)) (hT ?_) | refine AK.ret (L' := L) (F' := F) Tryz.results9 rfl (by repeat (first | exact Sub.refl _ _ | refine Sub.trans Sub.drop ?_ | refine Sub.trans Sub.dropF ?_)) (hF ?_)
            first
            | exact ver_ext c9 c15 c22 c29 c36
            | exact fun e => c9 (by rw [e])
            | exact fun e => c15 (by rw [e])
            | exact fun e => c22 (by rw [e])
            | exact fun e => c29 (by rw [e])
            | exact fun e => c36 (by rw [e])
          · refine AL.go (AO.pickT rfl rfl rfl (AL.go (AO.assign rfl rfl (AL.nil (AK.seqN (AC.ret ?_))))))
            first | refine AK.ret (L' := L) (F' := F) Tryz.results9 rfl (by repeat (first | exact Sub.refl _ _ | refine Sub.trans Sub.drop ?_ | refine Sub.trans Sub.dropF ?_)) (hT ?_) | refine AK.ret (L' := L) (F' := F) Tryz.results9 rfl (by repeat (first | exact Sub.refl _ _ | refine Sub.trans Sub.drop ?_ | refine Sub.trans Sub.dropF ?_)) (hF ?_)
            first
            | exact ver_ext c9 c15 c22 c29 c36
            | exact fun e => c9 (by rw [e])
            | exact fun e => c15 (by rw [e])
            | exact fun e => c22 (by rw [e])
            | exact fun e => c29 (by rw [e])
            | exact fun e => c36 (by rw [e])
        · refine AL.go (AO.pickT rfl rfl rfl (AL.go (AO.move rfl rfl (AL.no rfl rfl rfl rfl (AL.no rfl rfl rfl rfl (AL.no rfl rfl rfl rfl (AL.no rfl rfl rfl rfl ?_)))))))
          refine AL.no rfl rfl rfl rfl (AL.go (AO.pickF rfl rfl rfl (AL.go (AO.assign rfl rfl (AL.nil (AK.seqN (AC.ret ?_)))))))
          first | refine AK.ret (L' := L) (F' := F) Tryz.results9 rfl (by repeat (first | exact Sub.refl _ _ | refine Sub.trans Sub.drop ?_ | refine Sub.trans Sub.dropF ?_)) (hT ?_) | refine AK.ret (L' := L) (F' := F) Tryz.results9 rfl (by repeat (first | exact Sub.refl _ _ | refine Sub.trans Sub.drop ?_ | refine Sub.trans Sub.dropF ?_)) (hF ?_)
          first
          | exact ver_ext c9 c15 c22 c29 c36
          | exact fun e => c9 (by rw [e])
          | exact fun e => c15 (by rw [e])
          | exact fun e => c22 (by rw [e])
          | exact fun e => c29 (by rw [e])
          | exact fun e => c36 (by rw [e])
      · refine AL.go (AO.pickT rfl rfl rfl (AL.go (AO.move rfl rfl (AL.no rfl rfl rfl rfl (AL.no rfl rfl rfl rfl (AL.no rfl rfl rfl rfl (AL.no rfl rfl rfl rfl ?_)))))))
        refine AL.no rfl rfl rfl rfl (AL.go (AO.pickF rfl rfl rfl (AL.go (AO.move rfl rfl (AL.no rfl rfl rfl rfl (AL.no rfl rfl rfl rfl (AL.no rfl rfl rfl rfl ?_)))))))
        refine AL.no rfl rfl rfl rfl (AL.no rfl rfl rfl rfl (AL.go (AO.pickF rfl rfl rfl (AL.go (AO.assign rfl rfl (AL.nil (AK.seqN ?_)))))))
        refine AC.ret ?_
        first | refine AK.ret (L' := L) (F' := F) Tryz.results9 rfl (by repeat (first | exact Sub.refl _ _ | refine Sub.trans Sub.drop ?_ | refine Sub.trans Sub.dropF ?_)) (hT ?_) | refine AK.ret (L' := L) (F' := F) Tryz.results9 rfl (by repeat (first | exact Sub.refl _ _ | refine Sub.trans Sub.drop ?_ | refine Sub.trans Sub.dropF ?_)) (hF ?_)
        first
        | exact ver_ext c9 c15 c22 c29 c36
        | exact fun e => c9 (by rw [e])
        | exact fun e => c15 (by rw [e])
        | exact fun e => c22 (by rw [e])
        | exact fun e => c29 (by rw [e])
        | exact fun e => c36 (by rw [e])
    · refine AL.go (AO.pickT rfl rfl rfl (AL.go (AO.move rfl rfl (AL.no rfl rfl rfl rfl (AL.no rfl rfl rfl rfl (AL.no rfl rfl rfl rfl (AL.no rfl rfl rfl rfl ?_)))))))
      refine AL.no rfl rfl rfl rfl (AL.go (AO.pickF rfl rfl rfl (AL.go (AO.move rfl rfl (AL.no rfl rfl rfl rfl (AL.no rfl rfl rfl rfl (AL.no rfl rfl rfl rfl ?_)))))))
      refine AL.no rfl rfl rfl rfl (AL.no rfl rfl rfl rfl (AL.go (AO.pickF rfl rfl rfl (AL.go (AO.move rfl rfl (AL.no rfl rfl rfl rfl (AL.no rfl rfl rfl rfl ?_)))))))
      refine AL.no rfl rfl rfl rfl (AL.no rfl rfl rfl rfl (AL.no rfl rfl rfl rfl (AL.go (AO.pickF rfl rfl rfl (AL.go (AO.assign rfl rfl (AL.nil ?_)))))))
      refine AK.seqN (AC.ret ?_)
      first | refine AK.ret (L' := L) (F' := F) Tryz.results9 rfl (by repeat (first | exact Sub.refl _ _ | refine Sub.trans Sub.drop ?_ | refine Sub.trans Sub.dropF ?_)) (hT ?_) | refine AK.ret (L' := L) (F' := F) Tryz.results9 rfl (by repeat (first | exact Sub.refl _ _ | refine Sub.trans Sub.drop ?_ | refine Sub.trans Sub.dropF ?_)) (hF ?_)
      first
      | exact ver_ext c9 c15 c22 c29 c36
      | exact fun e => c9 (by rw [e])
      | exact fun e => c15 (by rw [e])
      | exact fun e => c22 (by rw [e])
      | exact fun e => c29 (by rw [e])
      | exact fun e => c36 (by rw [e])
  · refine AL.go (AO.move rfl rfl (AL.no rfl rfl rfl rfl (AL.no rfl rfl rfl rfl (AL.no rfl rfl rfl rfl (AL.no rfl rfl rfl rfl (AL.no rfl rfl rfl rfl ?_))))))
    refine AL.go (AO.pickF rfl rfl rfl (AL.go (AO.move rfl rfl (AL.no rfl rfl rfl rfl (AL.no rfl rfl rfl rfl (AL.no rfl rfl rfl rfl (AL.no rfl rfl rfl rfl ?_)))))))
    refine AL.no rfl rfl rfl rfl (AL.go (AO.pickF rfl rfl rfl (AL.go (AO.move rfl rfl (AL.no rfl rfl rfl rfl (AL.no rfl rfl rfl rfl (AL.no rfl rfl rfl rfl ?_)))))))
    refine AL.no rfl rfl rfl rfl (AL.no rfl rfl rfl rfl (AL.go (AO.pickF rfl rfl rfl (AL.go (AO.move rfl rfl (AL.no rfl rfl rfl rfl (AL.no rfl rfl rfl rfl ?_)))))))
    refine AL.no rfl rfl rfl rfl (AL.no rfl rfl rfl rfl (AL.no rfl rfl rfl rfl (AL.go (AO.pickF rfl rfl rfl (AL.go (AO.assign rfl rfl (AL.nil ?_)))))))
    refine AK.seqN (AC.ret ?_)
    first | refine AK.ret (L' := L) (F' := F) Tryz.results9 rfl (by repeat (first | exact Sub.refl _ _ | refine Sub.trans Sub.drop ?_ | refine Sub.trans Sub.dropF ?_)) (hT ?_) | refine AK.ret (L' := L) (F' := F) Tryz.results9 rfl (by repeat (first | exact Sub.refl _ _ | refine Sub.trans Sub.drop ?_ | refine Sub.trans Sub.dropF ?_)) (hF ?_)
    first
    | exact ver_ext c9 c15 c22 c29 c36
    | exact fun e => c9 (by rw [e])
    | exact fun e => c15 (by rw [e])
    | exact fun e => c22 (by rw [e])
    | exact fun e => c29 (by rw [e])
    | exact fun e => c36 (by rw [e])
theorem rdigit_c (c : UInt8) (hT : digitC c = true → R (.bool true) L F) (hF : digitC c = false → R (.bool false) L F) : ACalls Tryz.prog W0 34 #[.int .u8 c.toNat] L F R := by
  refine ACalls.body Tryz.func34 rfl Tryz.ntmps34 rfl ?_
  refine AC.seq (AC.region (AL.go (AO.assign rfl rfl (AL.nil (AK.seqN (AC.seq ?_))))))
  refine AC.region (AL.go (AO.move rfl rfl ?_))
  refine AL.go (AO.geq rfl rfl rfl (fun c4 => ?_) (fun c4 => ?_))
  · refine AL.go (AO.move rfl rfl (AL.yes rfl rfl (AO.move rfl rfl ?_)))
    refine AL.yes rfl rfl (AO.leq rfl rfl rfl (fun c7 => ?_) (fun c7 => ?_))
    · refine AL.go (AO.pickT rfl rfl rfl (AL.go (AO.assign rfl rfl (AL.nil (AK.seqN (AC.ret ?_))))))
      first | refine AK.ret Tryz.results34 rfl (Sub.refl _ _) (hT ?_) | refine AK.ret Tryz.results34 rfl (Sub.refl _ _) (hF ?_)
      simp [digitC]; omega
    · refine AL.go (AO.pickT rfl rfl rfl (AL.go (AO.assign rfl rfl (AL.nil (AK.seqN (AC.ret ?_))))))
      first | refine AK.ret Tryz.results34 rfl (Sub.refl _ _) (hT ?_) | refine AK.ret Tryz.results34 rfl (Sub.refl _ _) (hF ?_)
      simp [digitC]; omega
  · refine AL.go (AO.move rfl rfl (AL.no rfl rfl rfl rfl (AL.no rfl rfl rfl rfl (AL.go (AO.pickF rfl rfl rfl (AL.go (AO.assign rfl rfl (AL.nil ?_))))))))
    refine AK.seqN (AC.ret ?_)
    first | refine AK.ret Tryz.results34 rfl (Sub.refl _ _) (hT ?_) | refine AK.ret Tryz.results34 rfl (Sub.refl _ _) (hF ?_)
    simp [digitC]; omega
theorem rword_c (s : List UInt8) (hs : s.length < 4294967281) (hT : wordS s = true → R (.bool true) L F) (hF : wordS s = false → R (.bool false) L F) : ACalls Tryz.prog W0 18 #[S s] L F R := by
  refine ACalls.body Tryz.func18 rfl Tryz.ntmps18 rfl ?_
  refine AC.seq (AC.region (AL.go (AO.assign rfl rfl (AL.nil (AK.seqN (AC.seq ?_))))))
  refine AC.seq (AC.region (AL.go (AO.assign rfl rfl (AL.nil (AK.seqN (AC.block ?_))))))
  refine AC.loop (fun k => k ≤ s.length ∧ ∀ j (hj : j < s.length), j < k → letterC s[j] = true) (fun k => [(0, S s), (3, .int .i64 (k : Int))]) (fun _ => L) (fun _ => F) (fun k => s.length - k) 0 ⟨by omega, by omega⟩ (by repeat (first | exact SubR.nil | refine SubR.cons rfl ?_)) (Sub.refl _ _) ?_
  rintro k ⟨hk, hok⟩
  refine AC.seq (AC.seq (AC.region (AL.go (AO.move rfl rfl (AL.go (AO.move rfl rfl (AL.go (AO.lenS rfl rfl ?_))))))))
  refine AL.go (AO.lss rfl rfl rfl (fun c8 => ?_) (fun c8 => ?_))
  · refine AL.nil (AK.seqN (AC.condT rfl (AC.skip (AK.seqN (AC.seq ?_)))))
    refine AC.block (AC.seq (AC.region (AL.go (AO.move rfl rfl (AL.go (AO.move rfl rfl ?_))))))
    have hkl : k < s.length := by omega
    refine AL.go (AO.indexS rfl rfl rfl rfl hkl ?_)
    refine AL.go (AO.assign rfl rfl (AL.nil (AK.seqN (AC.seq (AC.region (AL.go (AO.move rfl rfl ?_)))))))
    refine AL.go (AO.call rfl rfl (rdigit_c s[k] (fun c15 => ?_) (fun c15 => ?_)))
    · refine AL.go (AO.not rfl rfl (AL.go (AO.move rfl rfl (AL.no rfl rfl rfl rfl (AL.no rfl rfl rfl rfl (AL.no rfl rfl rfl rfl (AL.no rfl rfl rfl rfl ?_)))))))
      refine AL.no rfl rfl rfl rfl (AL.no rfl rfl rfl rfl (AL.go (AO.pickF rfl rfl rfl (AL.go (AO.move rfl rfl (AL.no rfl rfl rfl rfl (AL.no rfl rfl rfl rfl ?_)))))))
      refine AL.no rfl rfl rfl rfl (AL.no rfl rfl rfl rfl (AL.no rfl rfl rfl rfl (AL.no rfl rfl rfl rfl (AL.go (AO.pickF rfl rfl rfl (AL.go (AO.move rfl rfl ?_)))))))
      refine AL.no rfl rfl rfl rfl (AL.no rfl rfl rfl rfl (AL.go (AO.pickF rfl rfl rfl (AL.nil (AK.seqN (AC.condF rfl ?_))))))
      refine AC.skip (AK.blkN (AK.seqN (AC.region (AL.go (AO.move rfl rfl (AL.go (AO.add rfl rfl rfl (by omega) (by omega) ?_)))))))
      refine AL.go (AO.assign rfl rfl (AL.nil ?_))
      refine AK.next (k + 1) ⟨by omega, ?_⟩ (by omega) (by repeat (first | exact SubR.nil | refine SubR.cons rfl ?_)) (Sub.refl _ _)
      intro j hj hjk
      rcases Nat.lt_succ_iff_lt_or_eq.1 hjk with h | rfl
      · exact hok j hj h
      · exact letter_yes (by first | exact Or.inl c15 | (right; omega))
    · refine AL.go (AO.not rfl rfl (AL.go (AO.move rfl rfl (AL.yes rfl rfl (AO.move rfl rfl ?_)))))
      refine AL.yes rfl rfl (AO.lss rfl rfl rfl (fun c19 => ?_) (fun c19 => ?_))
      · refine AL.yes rfl rfl (AO.move rfl rfl (AL.no rfl rfl rfl rfl (AL.no rfl rfl rfl rfl (AL.yes rfl rfl (AO.pickT rfl rfl rfl (AL.go (AO.pickT rfl rfl rfl (AL.go (AO.move rfl rfl ?_)))))))))
        refine AL.yes rfl rfl (AO.move rfl rfl ?_)
        refine AL.yes rfl rfl (AO.lss rfl rfl rfl (fun c27 => ?_) (fun c27 => ?_))
        · refine AL.yes rfl rfl (AO.move rfl rfl (AL.no rfl rfl rfl rfl (AL.no rfl rfl rfl rfl (AL.yes rfl rfl (AO.pickT rfl rfl rfl (AL.go (AO.pickT rfl rfl rfl (AL.go (AO.move rfl rfl ?_)))))))))
          refine AL.yes rfl rfl (AO.move rfl rfl ?_)
          refine AL.yes rfl rfl (AO.neq rfl rfl rfl (fun c35 => ?_) (fun c35 => ?_))
          · refine AL.go (AO.pickT rfl rfl rfl (AL.nil (AK.seqN (AC.condT rfl (AC.seq (AC.region ?_))))))
            refine AL.go (AO.assign rfl rfl (AL.nil (AK.seqN (AC.ret (AK.blkR (AK.seqR ?_))))))
            refine AK.seqR (AK.blkR (AK.seqR ?_))
            first | refine AK.ret Tryz.results18 rfl (Sub.refl _ _) (hT ?_) | refine AK.ret Tryz.results18 rfl (Sub.refl _ _) (hF ?_)
            first
            | (rw [wordS, all_yes (fun j hj => hok j hj (by omega))]; cases s <;> simp_all; done)
            | (rw [wordS, all_no hkl (letter_no c15 (by omega) (by omega) (by omega))]; rfl)
            | (rw [empty_of c39]; rfl)
          · refine AL.go (AO.pickT rfl rfl rfl (AL.nil (AK.seqN (AC.condF rfl (AC.skip (AK.blkN ?_))))))
            refine AK.seqN (AC.region (AL.go (AO.move rfl rfl (AL.go (AO.add rfl rfl rfl (by omega) (by omega) (AL.go (AO.assign rfl rfl (AL.nil ?_))))))))
            refine AK.next (k + 1) ⟨by omega, ?_⟩ (by omega) (by repeat (first | exact SubR.nil | refine SubR.cons rfl ?_)) (Sub.refl _ _)
            intro j hj hjk
            rcases Nat.lt_succ_iff_lt_or_eq.1 hjk with h | rfl
            · exact hok j hj h
            · exact letter_yes (by first | exact Or.inl c15 | (right; omega))
        · refine AL.yes rfl rfl (AO.move rfl rfl (AL.yes rfl rfl (AO.move rfl rfl ?_)))
          refine AL.yes rfl rfl (AO.gtr rfl rfl rfl (fun c30 => ?_) (fun c30 => ?_))
          · refine AL.yes rfl rfl (AO.pickF rfl rfl rfl (AL.go (AO.pickT rfl rfl rfl (AL.go (AO.move rfl rfl (AL.yes rfl rfl (AO.move rfl rfl ?_)))))))
            refine AL.yes rfl rfl (AO.neq rfl rfl rfl (fun c35 => ?_) (fun c35 => ?_))
            · refine AL.go (AO.pickT rfl rfl rfl (AL.nil (AK.seqN (AC.condT rfl (AC.seq (AC.region ?_))))))
              refine AL.go (AO.assign rfl rfl (AL.nil (AK.seqN (AC.ret (AK.blkR (AK.seqR ?_))))))
              refine AK.seqR (AK.blkR (AK.seqR ?_))
              first | refine AK.ret Tryz.results18 rfl (Sub.refl _ _) (hT ?_) | refine AK.ret Tryz.results18 rfl (Sub.refl _ _) (hF ?_)
              first
              | (rw [wordS, all_yes (fun j hj => hok j hj (by omega))]; cases s <;> simp_all; done)
              | (rw [wordS, all_no hkl (letter_no c15 (by omega) (by omega) (by omega))]; rfl)
              | (rw [empty_of c39]; rfl)
            · refine AL.go (AO.pickT rfl rfl rfl (AL.nil (AK.seqN (AC.condF rfl (AC.skip (AK.blkN ?_))))))
              refine AK.seqN (AC.region (AL.go (AO.move rfl rfl (AL.go (AO.add rfl rfl rfl (by omega) (by omega) (AL.go (AO.assign rfl rfl (AL.nil ?_))))))))
              refine AK.next (k + 1) ⟨by omega, ?_⟩ (by omega) (by repeat (first | exact SubR.nil | refine SubR.cons rfl ?_)) (Sub.refl _ _)
              intro j hj hjk
              rcases Nat.lt_succ_iff_lt_or_eq.1 hjk with h | rfl
              · exact hok j hj h
              · exact letter_yes (by first | exact Or.inl c15 | (right; omega))
          · refine AL.yes rfl rfl (AO.pickF rfl rfl rfl (AL.go (AO.pickT rfl rfl rfl (AL.go (AO.move rfl rfl (AL.no rfl rfl rfl rfl (AL.no rfl rfl rfl rfl (AL.go (AO.pickF rfl rfl rfl ?_)))))))))
            refine AL.nil (AK.seqN (AC.condF rfl (AC.skip (AK.blkN (AK.seqN ?_)))))
            refine AC.region (AL.go (AO.move rfl rfl (AL.go (AO.add rfl rfl rfl (by omega) (by omega) (AL.go (AO.assign rfl rfl (AL.nil ?_)))))))
            refine AK.next (k + 1) ⟨by omega, ?_⟩ (by omega) (by repeat (first | exact SubR.nil | refine SubR.cons rfl ?_)) (Sub.refl _ _)
            intro j hj hjk
            rcases Nat.lt_succ_iff_lt_or_eq.1 hjk with h | rfl
            · exact hok j hj h
            · exact letter_yes (by first | exact Or.inl c15 | (right; omega))
      · refine AL.yes rfl rfl (AO.move rfl rfl (AL.yes rfl rfl (AO.move rfl rfl ?_)))
        refine AL.yes rfl rfl (AO.gtr rfl rfl rfl (fun c22 => ?_) (fun c22 => ?_))
        · refine AL.yes rfl rfl (AO.pickF rfl rfl rfl (AL.go (AO.pickT rfl rfl rfl (AL.go (AO.move rfl rfl (AL.yes rfl rfl (AO.move rfl rfl ?_)))))))
          refine AL.yes rfl rfl (AO.lss rfl rfl rfl (fun c27 => ?_) (fun c27 => ?_))
          · refine AL.yes rfl rfl (AO.move rfl rfl (AL.no rfl rfl rfl rfl (AL.no rfl rfl rfl rfl (AL.yes rfl rfl (AO.pickT rfl rfl rfl (AL.go (AO.pickT rfl rfl rfl (AL.go (AO.move rfl rfl ?_)))))))))
            refine AL.yes rfl rfl (AO.move rfl rfl ?_)
            refine AL.yes rfl rfl (AO.neq rfl rfl rfl (fun c35 => ?_) (fun c35 => ?_))
            · refine AL.go (AO.pickT rfl rfl rfl (AL.nil (AK.seqN (AC.condT rfl (AC.seq (AC.region ?_))))))
              refine AL.go (AO.assign rfl rfl (AL.nil (AK.seqN (AC.ret (AK.blkR (AK.seqR ?_))))))
              refine AK.seqR (AK.blkR (AK.seqR ?_))
              first | refine AK.ret Tryz.results18 rfl (Sub.refl _ _) (hT ?_) | refine AK.ret Tryz.results18 rfl (Sub.refl _ _) (hF ?_)
              first
              | (rw [wordS, all_yes (fun j hj => hok j hj (by omega))]; cases s <;> simp_all; done)
              | (rw [wordS, all_no hkl (letter_no c15 (by omega) (by omega) (by omega))]; rfl)
              | (rw [empty_of c39]; rfl)
            · refine AL.go (AO.pickT rfl rfl rfl (AL.nil (AK.seqN (AC.condF rfl (AC.skip (AK.blkN ?_))))))
              refine AK.seqN (AC.region (AL.go (AO.move rfl rfl (AL.go (AO.add rfl rfl rfl (by omega) (by omega) (AL.go (AO.assign rfl rfl (AL.nil ?_))))))))
              refine AK.next (k + 1) ⟨by omega, ?_⟩ (by omega) (by repeat (first | exact SubR.nil | refine SubR.cons rfl ?_)) (Sub.refl _ _)
              intro j hj hjk
              rcases Nat.lt_succ_iff_lt_or_eq.1 hjk with h | rfl
              · exact hok j hj h
              · exact letter_yes (by first | exact Or.inl c15 | (right; omega))
          · refine AL.yes rfl rfl (AO.move rfl rfl (AL.yes rfl rfl (AO.move rfl rfl ?_)))
            refine AL.yes rfl rfl (AO.gtr rfl rfl rfl (fun c30 => ?_) (fun c30 => ?_))
            · refine AL.yes rfl rfl (AO.pickF rfl rfl rfl (AL.go (AO.pickT rfl rfl rfl (AL.go (AO.move rfl rfl (AL.yes rfl rfl (AO.move rfl rfl ?_)))))))
              refine AL.yes rfl rfl (AO.neq rfl rfl rfl (fun c35 => ?_) (fun c35 => ?_))
              · refine AL.go (AO.pickT rfl rfl rfl (AL.nil (AK.seqN (AC.condT rfl (AC.seq (AC.region ?_))))))
                refine AL.go (AO.assign rfl rfl (AL.nil (AK.seqN (AC.ret (AK.blkR (AK.seqR ?_))))))
                refine AK.seqR (AK.blkR (AK.seqR ?_))
                first | refine AK.ret Tryz.results18 rfl (Sub.refl _ _) (hT ?_) | refine AK.ret Tryz.results18 rfl (Sub.refl _ _) (hF ?_)
                first
                | (rw [wordS, all_yes (fun j hj => hok j hj (by omega))]; cases s <;> simp_all; done)
                | (rw [wordS, all_no hkl (letter_no c15 (by omega) (by omega) (by omega))]; rfl)
                | (rw [empty_of c39]; rfl)
              · refine AL.go (AO.pickT rfl rfl rfl (AL.nil (AK.seqN (AC.condF rfl (AC.skip (AK.blkN ?_))))))
                refine AK.seqN (AC.region (AL.go (AO.move rfl rfl (AL.go (AO.add rfl rfl rfl (by omega) (by omega) (AL.go (AO.assign rfl rfl (AL.nil ?_))))))))
                refine AK.next (k + 1) ⟨by omega, ?_⟩ (by omega) (by repeat (first | exact SubR.nil | refine SubR.cons rfl ?_)) (Sub.refl _ _)
                intro j hj hjk
                rcases Nat.lt_succ_iff_lt_or_eq.1 hjk with h | rfl
                · exact hok j hj h
                · exact letter_yes (by first | exact Or.inl c15 | (right; omega))
            · refine AL.yes rfl rfl (AO.pickF rfl rfl rfl (AL.go (AO.pickT rfl rfl rfl (AL.go (AO.move rfl rfl (AL.no rfl rfl rfl rfl (AL.no rfl rfl rfl rfl (AL.go (AO.pickF rfl rfl rfl ?_)))))))))
              refine AL.nil (AK.seqN (AC.condF rfl (AC.skip (AK.blkN (AK.seqN ?_)))))
              refine AC.region (AL.go (AO.move rfl rfl (AL.go (AO.add rfl rfl rfl (by omega) (by omega) (AL.go (AO.assign rfl rfl (AL.nil ?_)))))))
              refine AK.next (k + 1) ⟨by omega, ?_⟩ (by omega) (by repeat (first | exact SubR.nil | refine SubR.cons rfl ?_)) (Sub.refl _ _)
              intro j hj hjk
              rcases Nat.lt_succ_iff_lt_or_eq.1 hjk with h | rfl
              · exact hok j hj h
              · exact letter_yes (by first | exact Or.inl c15 | (right; omega))
        · refine AL.yes rfl rfl (AO.pickF rfl rfl rfl (AL.go (AO.pickT rfl rfl rfl (AL.go (AO.move rfl rfl (AL.no rfl rfl rfl rfl (AL.no rfl rfl rfl rfl (AL.no rfl rfl rfl rfl ?_))))))))
          refine AL.no rfl rfl rfl rfl (AL.no rfl rfl rfl rfl (AL.no rfl rfl rfl rfl (AL.go (AO.pickF rfl rfl rfl (AL.go (AO.move rfl rfl (AL.no rfl rfl rfl rfl ?_)))))))
          refine AL.no rfl rfl rfl rfl (AL.go (AO.pickF rfl rfl rfl (AL.nil (AK.seqN (AC.condF rfl (AC.skip ?_))))))
          refine AK.blkN (AK.seqN (AC.region (AL.go (AO.move rfl rfl (AL.go (AO.add rfl rfl rfl (by omega) (by omega) (AL.go (AO.assign rfl rfl ?_))))))))
          refine AL.nil ?_
          refine AK.next (k + 1) ⟨by omega, ?_⟩ (by omega) (by repeat (first | exact SubR.nil | refine SubR.cons rfl ?_)) (Sub.refl _ _)
          intro j hj hjk
          rcases Nat.lt_succ_iff_lt_or_eq.1 hjk with h | rfl
          · exact hok j hj h
          · exact letter_yes (by first | exact Or.inl c15 | (right; omega))
  · refine AL.nil (AK.seqN (AC.condF rfl (AC.exit (AK.seqX (AK.seqX ?_)))))
    refine AK.blkX (AK.seqN (AC.seq (AC.region (AL.go (AO.move rfl rfl (AL.go (AO.lenS rfl rfl ?_)))))))
    refine AL.go (AO.gtr rfl rfl rfl (fun c39 => ?_) (fun c39 => ?_))
    · refine AL.go (AO.assign rfl rfl (AL.nil (AK.seqN (AC.ret ?_))))
      first | refine AK.ret Tryz.results18 rfl (Sub.refl _ _) (hT ?_) | refine AK.ret Tryz.results18 rfl (Sub.refl _ _) (hF ?_)
      first
      | (rw [wordS, all_yes (fun j hj => hok j hj (by omega))]; cases s <;> simp_all; done)
      | (rw [wordS, all_no hkl (letter_no c15 (by omega) (by omega) (by omega))]; rfl)
      | (rw [empty_of c39]; rfl)
    · refine AL.go (AO.assign rfl rfl (AL.nil (AK.seqN (AC.ret ?_))))
      first | refine AK.ret Tryz.results18 rfl (Sub.refl _ _) (hT ?_) | refine AK.ret Tryz.results18 rfl (Sub.refl _ _) (hF ?_)
      first
      | (rw [wordS, all_yes (fun j hj => hok j hj (by omega))]; cases s <;> simp_all; done)
      | (rw [wordS, all_no hkl (letter_no c15 (by omega) (by omega) (by omega))]; rfl)
      | (rw [empty_of c39]; rfl)
theorem rnumeric_c (s : List UInt8) (hs : s.length < 4294967281) (hT : numericS s = true → R (.bool true) L F) (hF : numericS s = false → R (.bool false) L F) : ACalls Tryz.prog W0 19 #[S s] L F R := by
  refine ACalls.body Tryz.func19 rfl Tryz.ntmps19 rfl ?_
  refine AC.seq (AC.region (AL.go (AO.assign rfl rfl (AL.nil (AK.seqN (AC.seq ?_))))))
  refine AC.seq (AC.region (AL.go (AO.assign rfl rfl (AL.nil (AK.seqN (AC.block ?_))))))
  refine AC.loop (fun k => k ≤ s.length ∧ ∀ j (hj : j < s.length), j < k → digitC s[j] = true) (fun k => [(0, S s), (3, .int .i64 (k : Int))]) (fun _ => L) (fun _ => F) (fun k => s.length - k) 0 ⟨by omega, by omega⟩ (by repeat (first | exact SubR.nil | refine SubR.cons rfl ?_)) (Sub.refl _ _) ?_
  rintro k ⟨hk, hok⟩
  refine AC.seq (AC.seq (AC.region (AL.go (AO.move rfl rfl (AL.go (AO.move rfl rfl (AL.go (AO.lenS rfl rfl ?_))))))))
  refine AL.go (AO.lss rfl rfl rfl (fun c7 => ?_) (fun c7 => ?_))
  · refine AL.nil (AK.seqN (AC.condT rfl (AC.skip (AK.seqN (AC.seq ?_)))))
    refine AC.block (AC.seq (AC.region (AL.go (AO.move rfl rfl (AL.go (AO.move rfl rfl ?_))))))
    have hkl : k < s.length := by omega
    refine AL.go (AO.indexS rfl rfl rfl rfl hkl ?_)
    refine AL.go (AO.call rfl rfl (rdigit_c s[k] (fun c13 => ?_) (fun c13 => ?_)))
    · refine AL.go (AO.not rfl rfl (AL.nil (AK.seqN (AC.condF rfl (AC.skip (AK.blkN ?_))))))
      refine AK.seqN (AC.region (AL.go (AO.move rfl rfl (AL.go (AO.add rfl rfl rfl (by omega) (by omega) (AL.go (AO.assign rfl rfl (AL.nil ?_))))))))
      refine AK.next (k + 1) ⟨by omega, ?_⟩ (by omega) (by repeat (first | exact SubR.nil | refine SubR.cons rfl ?_)) (Sub.refl _ _)
      intro j hj hjk
      rcases Nat.lt_succ_iff_lt_or_eq.1 hjk with h | rfl
      · exact hok j hj h
      · exact c13
    · refine AL.go (AO.not rfl rfl (AL.nil (AK.seqN (AC.condT rfl (AC.seq (AC.region ?_))))))
      refine AL.go (AO.assign rfl rfl (AL.nil (AK.seqN (AC.ret (AK.blkR (AK.seqR ?_))))))
      refine AK.seqR (AK.blkR (AK.seqR ?_))
      first | refine AK.ret Tryz.results19 rfl (Sub.refl _ _) (hT ?_) | refine AK.ret Tryz.results19 rfl (Sub.refl _ _) (hF ?_)
      first
      | (rw [numericS, all_yes (fun j hj => hok j hj (by omega))]; cases s <;> simp_all; done)
      | (rw [numericS, all_no hkl c13]; rfl)
      | (rw [empty_of c17]; rfl)
  · refine AL.nil (AK.seqN (AC.condF rfl (AC.exit (AK.seqX (AK.seqX ?_)))))
    refine AK.blkX (AK.seqN (AC.seq (AC.region (AL.go (AO.move rfl rfl (AL.go (AO.lenS rfl rfl ?_)))))))
    refine AL.go (AO.gtr rfl rfl rfl (fun c17 => ?_) (fun c17 => ?_))
    · refine AL.go (AO.assign rfl rfl (AL.nil (AK.seqN (AC.ret ?_))))
      first | refine AK.ret Tryz.results19 rfl (Sub.refl _ _) (hT ?_) | refine AK.ret Tryz.results19 rfl (Sub.refl _ _) (hF ?_)
      first
      | (rw [numericS, all_yes (fun j hj => hok j hj (by omega))]; cases s <;> simp_all; done)
      | (rw [numericS, all_no hkl c13]; rfl)
      | (rw [empty_of c17]; rfl)
    · refine AL.go (AO.assign rfl rfl (AL.nil (AK.seqN (AC.ret ?_))))
      first | refine AK.ret Tryz.results19 rfl (Sub.refl _ _) (hT ?_) | refine AK.ret Tryz.results19 rfl (Sub.refl _ _) (hF ?_)
      first
      | (rw [numericS, all_yes (fun j hj => hok j hj (by omega))]; cases s <;> simp_all; done)
      | (rw [numericS, all_no hkl c13]; rfl)
      | (rw [empty_of c17]; rfl)
theorem num_len1 {s : List UInt8} (c4 : numericS s = true) (c : (s.length : Int) = 1) : numberS s = true := by
  match s, c4, c with
  | [x], c4, _ =>
    by_cases h : x = 48
    · subst h; rfl
    · rw [numberS, c4]; simp [h]
theorem num_len2 {s : List UInt8} (h0 : 0 < s.length) (c8 : (s.length : Int) ≠ 1) (c11 : ((s[0].toNat : Nat) : Int) = 48) : numberS s = false :=
  num_no h0 (fun e => c8 (by rw [e]; rfl)) c11
theorem rnumber_c (s : List UInt8) (hs : s.length < 4294967281) (hT : numberS s = true → R (.bool true) L F) (hF : numberS s = false → R (.bool false) L F) : ACalls Tryz.prog W0 20 #[S s] L F R := by
  refine ACalls.body Tryz.func20 rfl Tryz.ntmps20 rfl ?_
  refine AC.seq (AC.region (AL.go (AO.assign rfl rfl (AL.nil (AK.seqN (AC.seq ?_))))))
  refine AC.region (AL.go (AO.move rfl rfl ?_))
  refine AL.go (AO.call rfl rfl (rnumeric_c s hs (fun c4 => ?_) (fun c4 => ?_)))
  · refine AL.go (AO.move rfl rfl (AL.yes rfl rfl (AO.move rfl rfl (AL.yes rfl rfl (AO.lenS rfl rfl ?_)))))
    refine AL.yes rfl rfl (AO.eql rfl rfl rfl (fun c8 => ?_) (fun c8 => ?_))
    · refine AL.yes rfl rfl (AO.move rfl rfl (AL.no rfl rfl rfl rfl (AL.no rfl rfl rfl rfl (AL.no rfl rfl rfl rfl (AL.yes rfl rfl (AO.pickT rfl rfl rfl (AL.go (AO.pickT rfl rfl rfl ?_))))))))
      refine AL.go (AO.assign rfl rfl (AL.nil (AK.seqN (AC.ret ?_))))
      first | refine AK.ret Tryz.results20 rfl (Sub.refl _ _) (hT ?_) | refine AK.ret Tryz.results20 rfl (Sub.refl _ _) (hF ?_)
      first | exact num_len1 c4 c8 | exact num_none c4 | exact num_yes h0 c4 c12 | exact num_len2 h0 c8 c12
    · refine AL.yes rfl rfl (AO.move rfl rfl (AL.yes rfl rfl (AO.move rfl rfl ?_)))
      have h0 : 0 < s.length := by
       rcases Nat.eq_zero_or_pos s.length with h | h
       · have : s = [] := List.eq_nil_of_length_eq_zero h
         subst this; simp [numericS] at c4
       · exact h
      refine AL.yes rfl rfl (AO.indexS rfl rfl rfl rfl h0 ?_)
      refine AL.yes rfl rfl (AO.neq rfl rfl rfl (fun c12 => ?_) (fun c12 => ?_))
      · refine AL.yes rfl rfl (AO.pickF rfl rfl rfl (AL.go (AO.pickT rfl rfl rfl (AL.go (AO.assign rfl rfl (AL.nil (AK.seqN (AC.ret ?_))))))))
        first | refine AK.ret Tryz.results20 rfl (Sub.refl _ _) (hT ?_) | refine AK.ret Tryz.results20 rfl (Sub.refl _ _) (hF ?_)
        first | exact num_len1 c4 c8 | exact num_none c4 | exact num_yes h0 c4 c12 | exact num_len2 h0 c8 c12
      · refine AL.yes rfl rfl (AO.pickF rfl rfl rfl (AL.go (AO.pickT rfl rfl rfl (AL.go (AO.assign rfl rfl (AL.nil (AK.seqN (AC.ret ?_))))))))
        first | refine AK.ret Tryz.results20 rfl (Sub.refl _ _) (hT ?_) | refine AK.ret Tryz.results20 rfl (Sub.refl _ _) (hF ?_)
        first | exact num_len1 c4 c8 | exact num_none c4 | exact num_yes h0 c4 c12 | exact num_len2 h0 c8 c12
  · refine AL.go (AO.move rfl rfl (AL.no rfl rfl rfl rfl (AL.no rfl rfl rfl rfl (AL.no rfl rfl rfl rfl (AL.no rfl rfl rfl rfl (AL.no rfl rfl rfl rfl ?_))))))
    refine AL.no rfl rfl rfl rfl (AL.no rfl rfl rfl rfl (AL.no rfl rfl rfl rfl (AL.go (AO.pickF rfl rfl rfl (AL.go (AO.assign rfl rfl (AL.nil ?_)))))))
    refine AK.seqN (AC.ret ?_)
    first | refine AK.ret Tryz.results20 rfl (Sub.refl _ _) (hT ?_) | refine AK.ret Tryz.results20 rfl (Sub.refl _ _) (hF ?_)
    first | exact num_len1 c4 c8 | exact num_none c4 | exact num_yes h0 c4 c12 | exact num_len2 h0 c8 c12
theorem lower_ne {a b : List UInt8} (h : (a.length : Int) ≠ b.length) : lowerS a b = Lib.compareInt a.length b.length := by
  have : Lib.compareInt (a.length : Int) b.length ≠ 0 := by unfold Lib.compareInt; repeat' split
                                                            all_goals omega
  unfold lowerS firstI; simp [this]
theorem lower_eq {a b : List UInt8} (h : (a.length : Int) = b.length) : lowerS a b = cmpS a b := by
  have : Lib.compareInt (a.length : Int) b.length = 0 := by unfold Lib.compareInt; repeat' split
                                                            all_goals omega
  unfold lowerS firstI; simp only [this, List.find?]; by_cases h2 : cmpS a b = 0 <;> simp [h2]
theorem rcmp_c (a b : List UInt8) (h : R (.int .i64 (lowerS a b)) L F) : ACalls Tryz.prog W0 35 #[S a, S b] L F R := by
  refine ACalls.body Tryz.func35 rfl Tryz.ntmps35 rfl ?_
  refine AC.seq (AC.region (AL.go (AO.assign rfl rfl (AL.nil (AK.seqN (AC.seq ?_))))))
  refine AC.seq (AC.region (AL.go (AO.move rfl rfl (AL.go (AO.lenS rfl rfl (AL.go (AO.move rfl rfl (AL.go (AO.lenS rfl rfl ?_)))))))))
  refine AL.go (AO.neq rfl rfl rfl (fun c9 => ?_) (fun c9 => ?_))
  · refine AL.nil (AK.seqN (AC.condT rfl (AC.seq (AC.seq (AC.region ?_)))))
    refine AL.go (AO.move rfl rfl (AL.go (AO.lenS rfl rfl (AL.go (AO.move rfl rfl (AL.go (AO.lenS rfl rfl ?_)))))))
    refine AL.go (AO.lss rfl rfl rfl (fun c14 => ?_) (fun c14 => ?_))
    · refine AL.nil (AK.seqN (AC.condT rfl (AC.seq (AC.region (AL.go (AO.assign rfl rfl ?_))))))
      refine AL.nil (AK.seqN (AC.ret (AK.seqR (AK.seqR ?_))))
      refine AK.ret Tryz.results35 rfl (Sub.refl _ _) ?_
      first
      | (rw [lower_ne c9, show Lib.compareInt (a.length : Int) b.length = -1 by (unfold Lib.compareInt; rw [if_pos c14])] at h; exact h)
      | (rw [lower_ne c9, show Lib.compareInt (a.length : Int) b.length = 1 by (unfold Lib.compareInt; repeat' split; all_goals omega)] at h; exact h)
      | (rw [lower_eq c9] at h; first | exact cmpS_lt c17 ▸ h | exact cmpS_gt c20 ▸ h | exact cmpS_eq c17 c20 ▸ h)
    · refine AL.nil (AK.seqN (AC.condF rfl (AC.skip (AK.seqN (AC.seq ?_)))))
      refine AC.region (AL.go (AO.assign rfl rfl (AL.nil (AK.seqN (AC.ret (AK.seqR ?_))))))
      refine AK.ret Tryz.results35 rfl (Sub.refl _ _) ?_
      first
      | (rw [lower_ne c9, show Lib.compareInt (a.length : Int) b.length = -1 by (unfold Lib.compareInt; rw [if_pos c14])] at h; exact h)
      | (rw [lower_ne c9, show Lib.compareInt (a.length : Int) b.length = 1 by (unfold Lib.compareInt; repeat' split; all_goals omega)] at h; exact h)
      | (rw [lower_eq c9] at h; first | exact cmpS_lt c17 ▸ h | exact cmpS_gt c20 ▸ h | exact cmpS_eq c17 c20 ▸ h)
  · refine AL.nil (AK.seqN (AC.condF rfl (AC.skip (AK.seqN (AC.seq ?_)))))
    refine AC.seq (AC.region (AL.go (AO.move rfl rfl (AL.go (AO.move rfl rfl ?_)))))
    refine AL.go (AO.lssS rfl rfl rfl (fun c17 => ?_) (fun c17 => ?_))
    · refine AL.nil (AK.seqN (AC.condT rfl (AC.seq (AC.region (AL.go (AO.assign rfl rfl ?_))))))
      refine AL.nil (AK.seqN (AC.ret (AK.seqR ?_)))
      refine AK.ret Tryz.results35 rfl (Sub.refl _ _) ?_
      first
      | (rw [lower_ne c9, show Lib.compareInt (a.length : Int) b.length = -1 by (unfold Lib.compareInt; rw [if_pos c14])] at h; exact h)
      | (rw [lower_ne c9, show Lib.compareInt (a.length : Int) b.length = 1 by (unfold Lib.compareInt; repeat' split; all_goals omega)] at h; exact h)
      | (rw [lower_eq c9] at h; first | exact cmpS_lt c17 ▸ h | exact cmpS_gt c20 ▸ h | exact cmpS_eq c17 c20 ▸ h)
    · refine AL.nil (AK.seqN (AC.condF rfl (AC.skip (AK.seqN (AC.seq ?_)))))
      refine AC.seq (AC.region (AL.go (AO.move rfl rfl (AL.go (AO.move rfl rfl ?_)))))
      refine AL.go (AO.gtrS rfl rfl rfl (fun c20 => ?_) (fun c20 => ?_))
      · refine AL.nil (AK.seqN (AC.condT rfl (AC.seq (AC.region (AL.go (AO.assign rfl rfl ?_))))))
        refine AL.nil (AK.seqN (AC.ret (AK.seqR ?_)))
        refine AK.ret Tryz.results35 rfl (Sub.refl _ _) ?_
        first
        | (rw [lower_ne c9, show Lib.compareInt (a.length : Int) b.length = -1 by (unfold Lib.compareInt; rw [if_pos c14])] at h; exact h)
        | (rw [lower_ne c9, show Lib.compareInt (a.length : Int) b.length = 1 by (unfold Lib.compareInt; repeat' split; all_goals omega)] at h; exact h)
        | (rw [lower_eq c9] at h; first | exact cmpS_lt c17 ▸ h | exact cmpS_gt c20 ▸ h | exact cmpS_eq c17 c20 ▸ h)
      · refine AL.nil (AK.seqN (AC.condF rfl (AC.skip (AK.seqN (AC.seq ?_)))))
        refine AC.region (AL.go (AO.assign rfl rfl (AL.nil (AK.seqN (AC.ret ?_)))))
        refine AK.ret Tryz.results35 rfl (Sub.refl _ _) ?_
        first
        | (rw [lower_ne c9, show Lib.compareInt (a.length : Int) b.length = -1 by (unfold Lib.compareInt; rw [if_pos c14])] at h; exact h)
        | (rw [lower_ne c9, show Lib.compareInt (a.length : Int) b.length = 1 by (unfold Lib.compareInt; repeat' split; all_goals omega)] at h; exact h)
        | (rw [lower_eq c9] at h; first | exact cmpS_lt c17 ▸ h | exact cmpS_gt c20 ▸ h | exact cmpS_eq c17 c20 ▸ h)
theorem rgreat_c (s : List UInt8) (hs : s.length < 4294967281) (hT : greatS s = true → R (.bool true) L F) (hF : greatS s = false → R (.bool false) L F) : ACalls Tryz.prog W0 21 #[S s] L F R := by
  refine ACalls.body Tryz.func21 rfl Tryz.ntmps21 rfl ?_
  refine AC.seq (AC.region (AL.go (AO.assign rfl rfl (AL.nil (AK.seqN (AC.seq ?_))))))
  refine AC.region (AL.go (AO.move rfl rfl ?_))
  refine AL.go (AO.call rfl rfl (rnumeric_c s hs (fun c4 => ?_) (fun c4 => ?_)))
  · refine AL.go (AO.move rfl rfl (AL.yes rfl rfl (AO.move rfl rfl ?_)))
    refine AL.yes rfl rfl (AO.call rfl rfl (rcmp_c s greatest ?_))
    refine AL.yes rfl rfl (AO.gtr rfl rfl rfl (fun c8 => ?_) (fun c8 => ?_))
    · refine AL.go (AO.pickT rfl rfl rfl (AL.go (AO.assign rfl rfl (AL.nil (AK.seqN (AC.ret ?_))))))
      first | refine AK.ret Tryz.results21 rfl (Sub.refl _ _) (hT ?_) | refine AK.ret Tryz.results21 rfl (Sub.refl _ _) (hF ?_)
      first | (rw [greatS, c4, fitsS, decide_eq_false (by omega)]; rfl) | (rw [greatS, c4, fitsS, decide_eq_true (by omega)]; rfl) | (rw [greatS, c4]; rfl)
    · refine AL.go (AO.pickT rfl rfl rfl (AL.go (AO.assign rfl rfl (AL.nil (AK.seqN (AC.ret ?_))))))
      first | refine AK.ret Tryz.results21 rfl (Sub.refl _ _) (hT ?_) | refine AK.ret Tryz.results21 rfl (Sub.refl _ _) (hF ?_)
      first | (rw [greatS, c4, fitsS, decide_eq_false (by omega)]; rfl) | (rw [greatS, c4, fitsS, decide_eq_true (by omega)]; rfl) | (rw [greatS, c4]; rfl)
  · refine AL.go (AO.move rfl rfl (AL.no rfl rfl rfl rfl (AL.no rfl rfl rfl rfl (AL.no rfl rfl rfl rfl (AL.go (AO.pickF rfl rfl rfl (AL.go (AO.assign rfl rfl ?_))))))))
    refine AL.nil (AK.seqN (AC.ret ?_))
    first | refine AK.ret Tryz.results21 rfl (Sub.refl _ _) (hT ?_) | refine AK.ret Tryz.results21 rfl (Sub.refl _ _) (hF ?_)
    first | (rw [greatS, c4, fitsS, decide_eq_false (by omega)]; rfl) | (rw [greatS, c4, fitsS, decide_eq_true (by omega)]; rfl) | (rw [greatS, c4]; rfl)
end
end Go.Sy
