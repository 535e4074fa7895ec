/- The document's next release: the walks; and the statement on the next release. -/
import Derived.Test.YtnbpkaffomklpaaGreatDoorRefN
import Derived.Test.YtnbpkaffomklpaaGreatDoorFwN
namespace Go.Sy
open Go Go.Proofs Go.RowKit

/-- A version with an error, as the document's function returns it. -/
abbrev vT (v : Ver) (a1 : Option Addr) (k1 c1 : Nat) (a2 : Option Addr) (k2 c2 : Nat) (e : Int) : Value := .agg #[.int .i64 v.major, .int .i64 v.minor, .int .i64 v.patch, .slice a1 k1 c1, .slice a2 k2 c2, .int .i64 e]
abbrev eV (r : T3) : List D := [.val (.int .i64 r.1), .val (.int .i64 r.2.1), .val (.int .i64 r.2.2), .val (.slice none 0 0), .val (.slice none 0 0)]
section
variable {v : Ver} {k : Int}
theorem candA (h1 : k = 0) (h2 : v.patch < 9223372036854775807) : [(v.major, v.minor, v.patch)] ++ [(v.major, v.minor, v.patch + 1)] = candS v k := by
  unfold candS cand0 cand1 cand2; rw [if_pos (by omega), if_neg (by omega), if_neg (by omega)]; rfl
theorem candB (h1 : k = 0) (h2 : 9223372036854775807 ≤ v.patch) : [(v.major, v.minor, v.patch)] = candS v k := by
  unfold candS cand0 cand1 cand2; rw [if_neg (by omega), if_neg (by omega), if_neg (by omega)]; rfl
theorem candC1 (h1 : k = 1) (h2 : v.minor < 9223372036854775807) : [(v.major, v.minor, v.patch)] ++ [(v.major, v.minor + 1, 0)] = candS v k := by
  unfold candS cand0 cand1 cand2; rw [if_neg (by omega), if_pos (by omega), if_neg (by omega)]; rfl
theorem candC2 (h0 : k > 0) (h : v.major = 0) (h2 : v.minor < 9223372036854775807) : [(v.major, v.minor, v.patch)] ++ [(v.major, v.minor + 1, 0)] = candS v k := by
  unfold candS cand0 cand1 cand2; rw [if_neg (by omega), if_pos (by omega), if_neg (by omega)]; rfl
theorem candD1 (h1 : k = 1) (h2 : 9223372036854775807 ≤ v.minor) : [(v.major, v.minor, v.patch)] = candS v k := by
  unfold candS cand0 cand1 cand2; rw [if_neg (by omega), if_neg (by omega), if_neg (by omega)]; rfl
theorem candD2 (h0 : k > 0) (h : v.major = 0) (h2 : 9223372036854775807 ≤ v.minor) : [(v.major, v.minor, v.patch)] = candS v k := by
  unfold candS cand0 cand1 cand2; rw [if_neg (by omega), if_neg (by omega), if_neg (by omega)]; rfl
theorem candE1 (h0 : k > 0) (h1 : k ≠ 1) (h : v.major ≠ 0) (hg : 0 ≤ v.major) (h2 : v.major < 9223372036854775807) : [(v.major, v.minor, v.patch)] ++ [(v.major + 1, 0, 0)] = candS v k := by
  unfold candS cand0 cand1 cand2; rw [if_neg (by omega), if_neg (by omega), if_pos (by omega)]; rfl
theorem candE2 (h0 : k > 0) (h1 : k ≠ 1) (h : v.major ≠ 0) (_ : 0 ≤ v.major) (h2 : 9223372036854775807 ≤ v.major) : [(v.major, v.minor, v.patch)] = candS v k := by
  unfold candS cand0 cand1 cand2; rw [if_neg (by omega), if_neg (by omega), if_neg (by omega)]; rfl
theorem cand_ok (hv : VerOk v) {q : Nat} (hq : q < (candS v k).length) : VerOk (relV (candS v k)[q].1 (candS v k)[q].2.1 (candS v k)[q].2.2) := by
  have hr1 := hv.r1
  have hr2 := hv.r2
  have hr3 := hv.r3
  have h2 := cand_two v k
  generalize candS v k = l at hq h2 ⊢
  rcases h2 with ⟨rfl, _⟩ | ⟨a, b, c, rfl, hsec⟩
  · match q, hq with
    | 0, _ => exact rel_ok hr1 hr2 hr3
  · unfold sec3 at hsec
    match q, hq with
    | 0, _ => exact rel_ok hr1 hr2 hr3
    | 1, _ => exact rel_ok (show _ ≤ a ∧ a ≤ _ by omega) (show _ ≤ b ∧ b ≤ _ by omega) (show _ ≤ c ∧ c ≤ _ by omega)
theorem next_bad1 (h : rightV v = false) : nextS v k = (relV 0 0 0, 1) := by unfold nextS; rw [if_pos h]
theorem next_bad2 (h : k < 0) : nextS v k = (relV 0 0 0, 1) := by unfold nextS; rw [if_pos h]; split <;> rfl
theorem next_bad3 (h : k > 3) : nextS v k = (relV 0 0 0, 1) := by unfold nextS; rw [if_pos h]; repeat' split
                                                                  all_goals rfl
theorem next_form (v : Ver) (k : Int) : ∃ a b c e, nextS v k = (relV a b c, e) := by
  unfold nextS; repeat' split
  all_goals exact ⟨_, _, _, _, rfl⟩
end

attribute [local irreducible] AC AT AO AK AH ACalls Sub Res.cells Res.obj Res.nix Res.own Exit.then Exit.inBlock bodyPost Code.wp Next Post Kont
section
variable {W0 : World} {L : List Res} {F : List Fact} {R : Value → List Res → List Fact → Prop}
set_option maxRecDepth 100000
set_option maxHeartbeats 4000000
theorem rsuits_c (a b c : Int) (v : Ver) (k : Int) (hr : VerOk (relV a b c)) (hv : VerOk v) {a1 a2 : Option Addr} {k1 c1 k2 c2 : Nat} (m0 : fS [] none 0 0 ∈ F) (m1 : fS v.pre a1 k1 c1 ∈ F) (hT : suits3 a b c v k → R (.bool true) L F) (hF : ¬ suits3 a b c v k → R (.bool false) L F) :
    ACalls Tryz.prog W0 24 #[.agg #[.int .i64 a, .int .i64 b, .int .i64 c, .slice none 0 0, .slice none 0 0], vVer v a1 k1 c1 a2 k2 c2, .int .i64 k] L F R := by
  refine ACalls.body Tryz.func24 rfl Tryz.ntmps24 rfl ?_
  refine AC.seq (AC.region (AL.go (AO.box rfl rfl (fun b3 => ?_))))
  refine AL.go (AO.box rfl rfl (fun b4 => ?_))
  refine AL.go (AO.assign rfl rfl (AL.nil (AK.seqN (AC.seq (AC.seq (AC.region ?_))))))
  refine AL.go (AO.loadBA rfl rfl ?_)
  refine AL.go (AO.loadBA rfl rfl ?_)
  refine AL.go (AO.call rfl rfl (rcmpv_c (relV a b c) v hr hv (by repeat (first | exact mem0 | assumption | refine memS ?_)) (by repeat (first | exact mem0 | assumption | refine memS ?_)) ?_))
  refine AL.go (AO.leq rfl rfl rfl (fun c10 => ?_) (fun c10 => ?_))
  · refine AL.go (AO.move rfl rfl (AL.no rfl rfl rfl rfl (AL.no rfl rfl rfl rfl (AL.no rfl rfl rfl rfl (AL.no rfl rfl rfl rfl (AL.no rfl rfl rfl rfl ?_))))))
    refine AL.no rfl rfl rfl rfl (AL.no rfl rfl rfl rfl (AL.go (AO.pickT rfl rfl rfl (AL.nil (AK.seqN (AC.condT rfl ?_))))))
    refine AC.seq (AC.region (AL.go (AO.assign rfl rfl (AL.nil (AK.seqN (AC.ret ?_))))))
    refine AK.seqR ?_
    first | refine AK.ret (L' := L) (F' := F) Tryz.results24 rfl (by repeat (first | exact Sub.refl _ _ | refine Sub.trans Sub.drop ?_ | refine Sub.trans Sub.dropF ?_)) (hT ?_) | refine AK.ret (L' := L) (F' := F) Tryz.results24 rfl (by repeat (first | exact Sub.refl _ _ | refine Sub.trans Sub.drop ?_ | refine Sub.trans Sub.dropF ?_)) (hF ?_)
    unfold suits3
    rw [← @cmpV_gt a b c v]
    omega
  · refine AL.go (AO.move rfl rfl (AL.yes rfl rfl (AO.move rfl rfl ?_)))
    refine AL.yes rfl rfl (AO.gtr rfl rfl rfl (fun c13 => ?_) (fun c13 => ?_))
    · refine AL.yes rfl rfl (AO.move rfl rfl (AL.yes rfl rfl (AO.field rfl rfl ?_)))
      refine AL.yes rfl rfl (AO.loadB rfl rfl ?_)
      refine AL.yes rfl rfl (AO.neq rfl rfl rfl (fun c17 => ?_) (fun c17 => ?_))
      · refine AL.yes rfl rfl (AO.pickT rfl rfl rfl (AL.go (AO.pickF rfl rfl rfl (AL.nil (AK.seqN (AC.condT rfl (AC.seq ?_)))))))
        refine AC.region (AL.go (AO.assign rfl rfl (AL.nil (AK.seqN (AC.ret (AK.seqR ?_))))))
        first | refine AK.ret (L' := L) (F' := F) Tryz.results24 rfl (by repeat (first | exact Sub.refl _ _ | refine Sub.trans Sub.drop ?_ | refine Sub.trans Sub.dropF ?_)) (hT ?_) | refine AK.ret (L' := L) (F' := F) Tryz.results24 rfl (by repeat (first | exact Sub.refl _ _ | refine Sub.trans Sub.drop ?_ | refine Sub.trans Sub.dropF ?_)) (hF ?_)
        unfold suits3
        rw [← @cmpV_gt a b c v]
        omega
      · refine AL.yes rfl rfl (AO.pickT rfl rfl rfl (AL.go (AO.pickF rfl rfl rfl (AL.nil (AK.seqN (AC.condF rfl (AC.skip ?_)))))))
        refine AK.seqN (AC.seq (AC.region (AL.go (AO.move rfl rfl ?_))))
        refine AL.go (AO.lss rfl rfl rfl (fun c21 => ?_) (fun c21 => ?_))
        · refine AL.go (AO.move rfl rfl (AL.no rfl rfl rfl rfl (AL.no rfl rfl rfl rfl (AL.no rfl rfl rfl rfl (AL.go (AO.pickT rfl rfl rfl (AL.go (AO.move rfl rfl ?_))))))))
          refine AL.no rfl rfl rfl rfl (AL.no rfl rfl rfl rfl (AL.no rfl rfl rfl rfl (AL.go (AO.pickT rfl rfl rfl (AL.go (AO.assign rfl rfl (AL.nil ?_)))))))
          refine AK.seqN (AC.ret ?_)
          first | refine AK.ret (L' := L) (F' := F) Tryz.results24 rfl (by repeat (first | exact Sub.refl _ _ | refine Sub.trans Sub.drop ?_ | refine Sub.trans Sub.dropF ?_)) (hT ?_) | refine AK.ret (L' := L) (F' := F) Tryz.results24 rfl (by repeat (first | exact Sub.refl _ _ | refine Sub.trans Sub.drop ?_ | refine Sub.trans Sub.dropF ?_)) (hF ?_)
          unfold suits3
          rw [← @cmpV_gt a b c v]
          omega
        · refine AL.go (AO.move rfl rfl (AL.yes rfl rfl (AO.field rfl rfl ?_)))
          refine AL.yes rfl rfl (AO.loadB rfl rfl ?_)
          refine AL.yes rfl rfl (AO.eql rfl rfl rfl (fun c25 => ?_) (fun c25 => ?_))
          · refine AL.go (AO.pickF rfl rfl rfl (AL.go (AO.move rfl rfl (AL.no rfl rfl rfl rfl (AL.no rfl rfl rfl rfl (AL.no rfl rfl rfl rfl (AL.go (AO.pickT rfl rfl rfl ?_))))))))
            refine AL.go (AO.assign rfl rfl (AL.nil (AK.seqN (AC.ret ?_))))
            first | refine AK.ret (L' := L) (F' := F) Tryz.results24 rfl (by repeat (first | exact Sub.refl _ _ | refine Sub.trans Sub.drop ?_ | refine Sub.trans Sub.dropF ?_)) (hT ?_) | refine AK.ret (L' := L) (F' := F) Tryz.results24 rfl (by repeat (first | exact Sub.refl _ _ | refine Sub.trans Sub.drop ?_ | refine Sub.trans Sub.dropF ?_)) (hF ?_)
            unfold suits3
            rw [← @cmpV_gt a b c v]
            omega
          · refine AL.go (AO.pickF rfl rfl rfl (AL.go (AO.move rfl rfl (AL.yes rfl rfl (AO.field rfl rfl ?_)))))
            refine AL.yes rfl rfl (AO.loadB rfl rfl ?_)
            refine AL.yes rfl rfl (AO.eql rfl rfl rfl (fun c30 => ?_) (fun c30 => ?_))
            · refine AL.go (AO.pickF rfl rfl rfl (AL.go (AO.assign rfl rfl (AL.nil (AK.seqN (AC.ret ?_))))))
              first | refine AK.ret (L' := L) (F' := F) Tryz.results24 rfl (by repeat (first | exact Sub.refl _ _ | refine Sub.trans Sub.drop ?_ | refine Sub.trans Sub.dropF ?_)) (hT ?_) | refine AK.ret (L' := L) (F' := F) Tryz.results24 rfl (by repeat (first | exact Sub.refl _ _ | refine Sub.trans Sub.drop ?_ | refine Sub.trans Sub.dropF ?_)) (hF ?_)
              unfold suits3
              rw [← @cmpV_gt a b c v]
              omega
            · refine AL.go (AO.pickF rfl rfl rfl (AL.go (AO.assign rfl rfl (AL.nil (AK.seqN (AC.ret ?_))))))
              first | refine AK.ret (L' := L) (F' := F) Tryz.results24 rfl (by repeat (first | exact Sub.refl _ _ | refine Sub.trans Sub.drop ?_ | refine Sub.trans Sub.dropF ?_)) (hT ?_) | refine AK.ret (L' := L) (F' := F) Tryz.results24 rfl (by repeat (first | exact Sub.refl _ _ | refine Sub.trans Sub.drop ?_ | refine Sub.trans Sub.dropF ?_)) (hF ?_)
              unfold suits3
              rw [← @cmpV_gt a b c v]
              omega
    · refine AL.yes rfl rfl (AO.move rfl rfl (AL.no rfl rfl rfl rfl (AL.no rfl rfl rfl rfl (AL.no rfl rfl rfl rfl (AL.yes rfl rfl (AO.pickF rfl rfl rfl (AL.go (AO.pickF rfl rfl rfl ?_))))))))
      refine AL.nil (AK.seqN (AC.condF rfl (AC.skip (AK.seqN (AC.seq ?_)))))
      refine AC.region (AL.go (AO.move rfl rfl ?_))
      refine AL.go (AO.lss rfl rfl rfl (fun c21 => ?_) (fun c21 => ?_))
      · refine AL.go (AO.move rfl rfl (AL.no rfl rfl rfl rfl (AL.no rfl rfl rfl rfl (AL.no rfl rfl rfl rfl (AL.go (AO.pickT rfl rfl rfl (AL.go (AO.move rfl rfl ?_))))))))
        refine AL.no rfl rfl rfl rfl (AL.no rfl rfl rfl rfl (AL.no rfl rfl rfl rfl (AL.go (AO.pickT rfl rfl rfl (AL.go (AO.assign rfl rfl (AL.nil ?_)))))))
        refine AK.seqN (AC.ret ?_)
        first | refine AK.ret (L' := L) (F' := F) Tryz.results24 rfl (by repeat (first | exact Sub.refl _ _ | refine Sub.trans Sub.drop ?_ | refine Sub.trans Sub.dropF ?_)) (hT ?_) | refine AK.ret (L' := L) (F' := F) Tryz.results24 rfl (by repeat (first | exact Sub.refl _ _ | refine Sub.trans Sub.drop ?_ | refine Sub.trans Sub.dropF ?_)) (hF ?_)
        unfold suits3
        rw [← @cmpV_gt a b c v]
        omega
      · refine AL.go (AO.move rfl rfl (AL.yes rfl rfl (AO.field rfl rfl ?_)))
        refine AL.yes rfl rfl (AO.loadB rfl rfl ?_)
        refine AL.yes rfl rfl (AO.eql rfl rfl rfl (fun c25 => ?_) (fun c25 => ?_))
        · refine AL.go (AO.pickF rfl rfl rfl (AL.go (AO.move rfl rfl (AL.no rfl rfl rfl rfl (AL.no rfl rfl rfl rfl (AL.no rfl rfl rfl rfl (AL.go (AO.pickT rfl rfl rfl ?_))))))))
          refine AL.go (AO.assign rfl rfl (AL.nil (AK.seqN (AC.ret ?_))))
          first | refine AK.ret (L' := L) (F' := F) Tryz.results24 rfl (by repeat (first | exact Sub.refl _ _ | refine Sub.trans Sub.drop ?_ | refine Sub.trans Sub.dropF ?_)) (hT ?_) | refine AK.ret (L' := L) (F' := F) Tryz.results24 rfl (by repeat (first | exact Sub.refl _ _ | refine Sub.trans Sub.drop ?_ | refine Sub.trans Sub.dropF ?_)) (hF ?_)
          unfold suits3
          rw [← @cmpV_gt a b c v]
          omega
        · refine AL.go (AO.pickF rfl rfl rfl (AL.go (AO.move rfl rfl (AL.yes rfl rfl (AO.field rfl rfl ?_)))))
          refine AL.yes rfl rfl (AO.loadB rfl rfl ?_)
          refine AL.yes rfl rfl (AO.eql rfl rfl rfl (fun c30 => ?_) (fun c30 => ?_))
          · refine AL.go (AO.pickF rfl rfl rfl (AL.go (AO.assign rfl rfl (AL.nil (AK.seqN (AC.ret ?_))))))
            first | refine AK.ret (L' := L) (F' := F) Tryz.results24 rfl (by repeat (first | exact Sub.refl _ _ | refine Sub.trans Sub.drop ?_ | refine Sub.trans Sub.dropF ?_)) (hT ?_) | refine AK.ret (L' := L) (F' := F) Tryz.results24 rfl (by repeat (first | exact Sub.refl _ _ | refine Sub.trans Sub.drop ?_ | refine Sub.trans Sub.dropF ?_)) (hF ?_)
            unfold suits3
            rw [← @cmpV_gt a b c v]
            omega
          · refine AL.go (AO.pickF rfl rfl rfl (AL.go (AO.assign rfl rfl (AL.nil (AK.seqN (AC.ret ?_))))))
            first | refine AK.ret (L' := L) (F' := F) Tryz.results24 rfl (by repeat (first | exact Sub.refl _ _ | refine Sub.trans Sub.drop ?_ | refine Sub.trans Sub.dropF ?_)) (hT ?_) | refine AK.ret (L' := L) (F' := F) Tryz.results24 rfl (by repeat (first | exact Sub.refl _ _ | refine Sub.trans Sub.drop ?_ | refine Sub.trans Sub.dropF ?_)) (hF ?_)
            unfold suits3
            rw [← @cmpV_gt a b c v]
            omega
theorem rnext_c (v : Ver) (k : Int) (hv : VerOk v) (h0 : 0 ≤ k) (h3 : k ≤ 3) (hr : rightV v = true) {a1 a2 : Option Addr} {k1 c1 k2 c2 : Nat} (m0 : fS [] none 0 0 ∈ F) (m1 : fS v.pre a1 k1 c1 ∈ F) (h : R (vT (nextS v k).1 none 0 0 none 0 0 (nextS v k).2) L F) :
    ACalls Tryz.prog W0 10 #[vVer v a1 k1 c1 a2 k2 c2, .int .i64 k] L F R := by
  have hr1 := hv.r1
  have hr2 := hv.r2
  have hr3 := hv.r3
  have hg := right_ge hr
  refine ACalls.body Tryz.func10 rfl Tryz.ntmps10 rfl ?_
  refine AC.seq (AC.region (AL.go (AO.box rfl rfl (fun b2 => ?_))))
  refine AL.go (AO.alloc rfl (fun b4 => ?_))
  refine AL.nil (AK.seqN (AC.seq (AC.region (AL.go (AO.field rfl rfl ?_)))))
  refine AL.go (AO.loadB rfl rfl ?_)
  refine AL.go (AO.field rfl rfl ?_)
  refine AL.go (AO.loadB rfl rfl ?_)
  refine AL.go (AO.field rfl rfl ?_)
  refine AL.go (AO.loadB rfl rfl ?_)
  refine AL.go (AO.build rfl rfl rfl ?_)
  refine AL.go (AO.buildSlice rfl rfl rfl rfl rfl (fun b15 => ?_))
  refine AT.sub (Sub.toOwn (i := 0) (k := 1) (sz := 5) (enc := eV) [(v.major, v.minor, v.patch)] rfl (.val (.val (.val (.val (.val .nil))))) (fun _ => rfl) rfl (by decide)) ?_
  refine AL.go (AO.assign rfl rfl (AL.nil (AK.seqN (AC.seq (AC.seq (AC.region ?_))))))
  refine AL.go (AO.move rfl rfl ?_)
  refine AL.go (AO.eql rfl rfl rfl (fun c17 => ?_) (fun c17 => ?_))
  · refine AL.go (AO.move rfl rfl (AL.yes rfl rfl (AO.field rfl rfl ?_)))
    refine AL.yes rfl rfl (AO.loadB rfl rfl ?_)
    refine AL.yes rfl rfl (AO.lss rfl rfl rfl (fun c21 => ?_) (fun c21 => ?_))
    · refine AL.go (AO.pickT rfl rfl rfl (AL.nil (AK.seqN (AC.condT rfl (AC.region (AL.go (AO.move rfl rfl ?_)))))))
      refine AL.go (AO.field rfl rfl ?_)
      refine AL.go (AO.loadB rfl rfl ?_)
      refine AL.go (AO.field rfl rfl ?_)
      refine AL.go (AO.loadB rfl rfl ?_)
      refine AL.go (AO.field rfl rfl ?_)
      refine AL.go (AO.loadB rfl rfl ?_)
      refine AL.go (AO.add rfl rfl rfl (by omega) (by omega) (AL.go (AO.build rfl rfl rfl ?_)))
      refine AL.go (AO.buildSlice rfl rfl rfl rfl rfl (fun b32 => ?_))
      refine AL.go (AO.append (i := 0) (enc := eV) (lst := [(v.major, v.minor, v.patch)]) [(v.major, v.minor, v.patch + 1)] rfl rfl rfl rfl (.val (.val (.val (.val (.val .nil))))) rfl rfl (fun _ => rfl) (show 1 + 1 ≤ maxLen by decide) (show (1 + 1) * 72 ≤ 140737488355328 by decide) (fun a33 k33 z33 => ?_))
      refine AL.go (AO.assign rfl rfl (AL.nil (AK.seqN (AC.seq (AC.seq (AC.region ?_))))))
      refine AL.go (AO.move rfl rfl ?_)
      refine AL.go (AO.gtr rfl rfl rfl (fun c35 => absurd c35 (by omega)) (fun c35 => ?_))
      refine AL.go (AO.move rfl rfl (AL.no rfl rfl rfl rfl (AL.no rfl rfl rfl rfl (AL.no rfl rfl rfl rfl (AL.no rfl rfl rfl rfl (AL.no rfl rfl rfl rfl ?_))))))
      refine AL.no rfl rfl rfl rfl (AL.no rfl rfl rfl rfl (AL.go (AO.pickF rfl rfl rfl (AL.go (AO.move rfl rfl (AL.no rfl rfl rfl rfl (AL.no rfl rfl rfl rfl ?_)))))))
      refine AL.no rfl rfl rfl rfl (AL.go (AO.pickF rfl rfl rfl (AL.nil (AK.seqN (AC.condF rfl (AC.skip ?_))))))
      refine AK.seqN (AC.seq (AC.seq (AC.region (AL.go (AO.move rfl rfl ?_)))))
      refine AL.go (AO.gtr rfl rfl rfl (fun c60 => absurd c60 (by omega)) (fun c60 => ?_))
      refine AL.go (AO.move rfl rfl (AL.no rfl rfl rfl rfl (AL.no rfl rfl rfl rfl (AL.no rfl rfl rfl rfl (AL.go (AO.pickF rfl rfl rfl (AL.go (AO.move rfl rfl ?_))))))))
      refine AL.no rfl rfl rfl rfl (AL.no rfl rfl rfl rfl (AL.no rfl rfl rfl rfl (AL.go (AO.pickF rfl rfl rfl (AL.nil (AK.seqN ?_))))))
      refine AC.condF rfl (AC.skip (AK.seqN (AC.seq (AC.seq (AC.region ?_)))))
      first | rw [candA c17 c21] | rw [candC1 c38 c48] | rw [candC2 c35 c42 c48] | rw [candE1 c35 c38 c42 hg.1 c69] | rw [candB c17 c21] | rw [candD1 c38 c48] | rw [candD2 c35 c42 c48] | rw [candE2 c35 c38 c42 hg.1 c69]
      refine AL.go (AO.move rfl rfl ?_)
      refine AT.sub (Sub.commit (i := 0) rfl) ?_
      refine AL.go (AO.len rfl rfl (fun hl79 => ?_) (hm := by repeat (first | exact mem0 | assumption | refine memS ?_)))
      refine AL.go (AO.move rfl rfl (AL.nil (AK.seqN (AC.block ?_))))
      first
      | refine AC.loopC (fun (q : Nat) => q ≤ (candS v k).length ∧ ∀ j (hj : j < (candS v k).length), j < q → ¬ suitsP (candS v k)[j] v k) (fun q => [(1, .int .i64 k), (2, .pointer (some ⟨b2, 0, none⟩)), (4, .pointer (some ⟨b4, 0, none⟩)), (78, .slice a33 k33 z33), (79, .int .i64 (candS v k).length), (80, .int .i64 (q : Int))]) (fun q => (candS v k).length - q) 0 ⟨by omega, by omega⟩ (by repeat (first | exact SubR.nil | refine SubR.cons rfl ?_)) ?_
      | refine AC.loopC (fun (q : Nat) => q ≤ (candS v k).length ∧ ∀ j (hj : j < (candS v k).length), j < q → ¬ suitsP (candS v k)[j] v k) (fun q => [(1, .int .i64 k), (2, .pointer (some ⟨b2, 0, none⟩)), (4, .pointer (some ⟨b4, 0, none⟩)), (78, .slice a58 k58 z58), (79, .int .i64 (candS v k).length), (80, .int .i64 (q : Int))]) (fun q => (candS v k).length - q) 0 ⟨by omega, by omega⟩ (by repeat (first | exact SubR.nil | refine SubR.cons rfl ?_)) ?_
      | refine AC.loopC (fun (q : Nat) => q ≤ (candS v k).length ∧ ∀ j (hj : j < (candS v k).length), j < q → ¬ suitsP (candS v k)[j] v k) (fun q => [(1, .int .i64 k), (2, .pointer (some ⟨b2, 0, none⟩)), (4, .pointer (some ⟨b4, 0, none⟩)), (78, .slice a77 k77 z77), (79, .int .i64 (candS v k).length), (80, .int .i64 (q : Int))]) (fun q => (candS v k).length - q) 0 ⟨by omega, by omega⟩ (by repeat (first | exact SubR.nil | refine SubR.cons rfl ?_)) ?_
      | refine AC.loopC (fun (q : Nat) => q ≤ (candS v k).length ∧ ∀ j (hj : j < (candS v k).length), j < q → ¬ suitsP (candS v k)[j] v k) (fun q => [(1, .int .i64 k), (2, .pointer (some ⟨b2, 0, none⟩)), (4, .pointer (some ⟨b4, 0, none⟩)), (78, .slice (some ⟨b15, 0, none⟩) 1 1), (79, .int .i64 (candS v k).length), (80, .int .i64 (q : Int))]) (fun q => (candS v k).length - q) 0 ⟨by omega, by omega⟩ (by repeat (first | exact SubR.nil | refine SubR.cons rfl ?_)) ?_
      rintro q ⟨hq, hoq⟩
      refine AC.seq (AC.region ?_)
      refine AL.go (AO.lss rfl rfl rfl (fun c81 => ?_) (fun c81 => ?_))
      · refine AL.nil (AK.seqN (AC.seq (AC.condT rfl (AC.skip (AK.seqN ?_)))))
        refine AC.seq (AC.block (AC.seq (AC.region ?_)))
        have hql : q < (candS v k).length := by omega
        refine AL.go (AO.indexAddr rfl rfl rfl rfl (by repeat (first | exact mem0 | assumption | refine memS ?_)) hql (fun _ _ => ?_))
        refine AL.go (AO.loadFA rfl rfl ?_)
        intros
        refine AL.go (AO.alloc rfl (fun b7 => ?_))
        refine AL.go (AO.storeBA rfl rfl rfl rfl ?_)
        refine AL.nil (AK.seqN (AC.seq (AC.region ?_)))
        refine AL.go (AO.loadBA rfl rfl ?_)
        refine AL.go (AO.loadBA rfl rfl ?_)
        refine AL.go (AO.move rfl rfl ?_)
        refine AL.go (AO.call rfl rfl (rsuits_c (candS v k)[q].1 (candS v k)[q].2.1 (candS v k)[q].2.2 v k (cand_ok hv hql) hv (by repeat (first | exact mem0 | assumption | refine memS ?_)) (by repeat (first | exact mem0 | assumption | refine memS ?_)) (fun c87 => ?_) (fun c87 => ?_)))
        · refine AL.nil (AK.seqN (AC.condT rfl (AC.seq (AC.region ?_))))
          refine AL.go (AO.loadBA rfl rfl ?_)
          refine AL.go (AO.build rfl rfl rfl ?_)
          refine AL.go (AO.storeBA rfl rfl rfl rfl ?_)
          refine AL.nil (AK.seqN (AC.ret (AK.blkR (AK.seqR (AK.seqR ?_)))))
          refine AK.blkR (AK.seqR ?_)
          first | have hN := found_next hv h0 h3 hr hql hoq c87 | have hN := none_next hv h0 h3 hr (fun j hj => hoq j hj (by omega))
          rw [hN] at h
          first | exact AK.retV (rs := [.cell 4 _]) (L' := L) (F' := F) Tryz.results10 (.agg (j := 2) rfl rfl rfl .nil) (by repeat (first | exact Sub.refl _ _ | refine Sub.trans Sub.drop ?_ | refine Sub.trans Sub.dropF ?_)) h | exact AK.retV (rs := [.cell 4 _]) (L' := L) (F' := F) Tryz.results10 (.agg (j := 1) rfl rfl rfl .nil) (by repeat (first | exact Sub.refl _ _ | refine Sub.trans Sub.drop ?_ | refine Sub.trans Sub.dropF ?_)) h
        · refine AL.nil (AK.seqN (AC.condF rfl (AC.skip (AK.blkN (AK.seqN ?_)))))
          refine AC.region (AL.go (AO.add rfl rfl rfl (by omega) (by omega) (AL.go (AO.move rfl rfl (AL.nil ?_)))))
          refine AK.next (q + 1) ⟨by omega, step_ok (p := fun x => ¬ suitsP x v k) hoq hql c87⟩ (by omega) (by repeat (first | exact SubR.nil | refine SubR.cons rfl ?_)) (Sub.drop.trans (by repeat (first | exact Sub.refl _ _ | refine Sub.trans Sub.dropF ?_)))
      · refine AL.nil (AK.seqN (AC.seq (AC.condF rfl (AC.exit (AK.seqX ?_)))))
        refine AK.seqX (AK.blkX (AK.seqN (AC.seq (AC.region (AL.go (AO.build rfl rfl rfl ?_))))))
        refine AL.go (AO.storeBA rfl rfl rfl rfl ?_)
        refine AL.nil (AK.seqN (AC.ret ?_))
        first | have hN := found_next hv h0 h3 hr hql hoq c87 | have hN := none_next hv h0 h3 hr (fun j hj => hoq j hj (by omega))
        rw [hN] at h
        first | exact AK.retV (rs := [.cell 4 _]) (L' := L) (F' := F) Tryz.results10 (.agg (j := 2) rfl rfl rfl .nil) (by repeat (first | exact Sub.refl _ _ | refine Sub.trans Sub.drop ?_ | refine Sub.trans Sub.dropF ?_)) h | exact AK.retV (rs := [.cell 4 _]) (L' := L) (F' := F) Tryz.results10 (.agg (j := 1) rfl rfl rfl .nil) (by repeat (first | exact Sub.refl _ _ | refine Sub.trans Sub.drop ?_ | refine Sub.trans Sub.dropF ?_)) h
    · refine AL.go (AO.pickT rfl rfl rfl (AL.nil (AK.seqN (AC.condF rfl (AC.skip (AK.seqN ?_))))))
      refine AC.seq (AC.seq (AC.region (AL.go (AO.move rfl rfl ?_))))
      refine AL.go (AO.gtr rfl rfl rfl (fun c35 => absurd c35 (by omega)) (fun c35 => ?_))
      refine AL.go (AO.move rfl rfl (AL.no rfl rfl rfl rfl (AL.no rfl rfl rfl rfl (AL.no rfl rfl rfl rfl (AL.no rfl rfl rfl rfl (AL.no rfl rfl rfl rfl ?_))))))
      refine AL.no rfl rfl rfl rfl (AL.no rfl rfl rfl rfl (AL.go (AO.pickF rfl rfl rfl (AL.go (AO.move rfl rfl (AL.no rfl rfl rfl rfl (AL.no rfl rfl rfl rfl ?_)))))))
      refine AL.no rfl rfl rfl rfl (AL.go (AO.pickF rfl rfl rfl (AL.nil (AK.seqN (AC.condF rfl (AC.skip ?_))))))
      refine AK.seqN (AC.seq (AC.seq (AC.region (AL.go (AO.move rfl rfl ?_)))))
      refine AL.go (AO.gtr rfl rfl rfl (fun c60 => absurd c60 (by omega)) (fun c60 => ?_))
      refine AL.go (AO.move rfl rfl (AL.no rfl rfl rfl rfl (AL.no rfl rfl rfl rfl (AL.no rfl rfl rfl rfl (AL.go (AO.pickF rfl rfl rfl (AL.go (AO.move rfl rfl ?_))))))))
      refine AL.no rfl rfl rfl rfl (AL.no rfl rfl rfl rfl (AL.no rfl rfl rfl rfl (AL.go (AO.pickF rfl rfl rfl (AL.nil (AK.seqN ?_))))))
      refine AC.condF rfl (AC.skip (AK.seqN (AC.seq (AC.seq (AC.region ?_)))))
      first | rw [candA c17 c21] | rw [candC1 c38 c48] | rw [candC2 c35 c42 c48] | rw [candE1 c35 c38 c42 hg.1 c69] | rw [candB c17 c21] | rw [candD1 c38 c48] | rw [candD2 c35 c42 c48] | rw [candE2 c35 c38 c42 hg.1 c69]
      refine AL.go (AO.move rfl rfl ?_)
      refine AT.sub (Sub.commit (i := 0) rfl) ?_
      refine AL.go (AO.len rfl rfl (fun hl79 => ?_) (hm := by repeat (first | exact mem0 | assumption | refine memS ?_)))
      refine AL.go (AO.move rfl rfl (AL.nil (AK.seqN (AC.block ?_))))
      first
      | refine AC.loopC (fun (q : Nat) => q ≤ (candS v k).length ∧ ∀ j (hj : j < (candS v k).length), j < q → ¬ suitsP (candS v k)[j] v k) (fun q => [(1, .int .i64 k), (2, .pointer (some ⟨b2, 0, none⟩)), (4, .pointer (some ⟨b4, 0, none⟩)), (78, .slice a33 k33 z33), (79, .int .i64 (candS v k).length), (80, .int .i64 (q : Int))]) (fun q => (candS v k).length - q) 0 ⟨by omega, by omega⟩ (by repeat (first | exact SubR.nil | refine SubR.cons rfl ?_)) ?_
      | refine AC.loopC (fun (q : Nat) => q ≤ (candS v k).length ∧ ∀ j (hj : j < (candS v k).length), j < q → ¬ suitsP (candS v k)[j] v k) (fun q => [(1, .int .i64 k), (2, .pointer (some ⟨b2, 0, none⟩)), (4, .pointer (some ⟨b4, 0, none⟩)), (78, .slice a58 k58 z58), (79, .int .i64 (candS v k).length), (80, .int .i64 (q : Int))]) (fun q => (candS v k).length - q) 0 ⟨by omega, by omega⟩ (by repeat (first | exact SubR.nil | refine SubR.cons rfl ?_)) ?_
      | refine AC.loopC (fun (q : Nat) => q ≤ (candS v k).length ∧ ∀ j (hj : j < (candS v k).length), j < q → ¬ suitsP (candS v k)[j] v k) (fun q => [(1, .int .i64 k), (2, .pointer (some ⟨b2, 0, none⟩)), (4, .pointer (some ⟨b4, 0, none⟩)), (78, .slice a77 k77 z77), (79, .int .i64 (candS v k).length), (80, .int .i64 (q : Int))]) (fun q => (candS v k).length - q) 0 ⟨by omega, by omega⟩ (by repeat (first | exact SubR.nil | refine SubR.cons rfl ?_)) ?_
      | refine AC.loopC (fun (q : Nat) => q ≤ (candS v k).length ∧ ∀ j (hj : j < (candS v k).length), j < q → ¬ suitsP (candS v k)[j] v k) (fun q => [(1, .int .i64 k), (2, .pointer (some ⟨b2, 0, none⟩)), (4, .pointer (some ⟨b4, 0, none⟩)), (78, .slice (some ⟨b15, 0, none⟩) 1 1), (79, .int .i64 (candS v k).length), (80, .int .i64 (q : Int))]) (fun q => (candS v k).length - q) 0 ⟨by omega, by omega⟩ (by repeat (first | exact SubR.nil | refine SubR.cons rfl ?_)) ?_
      rintro q ⟨hq, hoq⟩
      refine AC.seq (AC.region ?_)
      refine AL.go (AO.lss rfl rfl rfl (fun c81 => ?_) (fun c81 => ?_))
      · refine AL.nil (AK.seqN (AC.seq (AC.condT rfl (AC.skip (AK.seqN ?_)))))
        refine AC.seq (AC.block (AC.seq (AC.region ?_)))
        have hql : q < (candS v k).length := by omega
        refine AL.go (AO.indexAddr rfl rfl rfl rfl (by repeat (first | exact mem0 | assumption | refine memS ?_)) hql (fun _ _ => ?_))
        refine AL.go (AO.loadFA rfl rfl ?_)
        intros
        refine AL.go (AO.alloc rfl (fun b7 => ?_))
        refine AL.go (AO.storeBA rfl rfl rfl rfl ?_)
        refine AL.nil (AK.seqN (AC.seq (AC.region ?_)))
        refine AL.go (AO.loadBA rfl rfl ?_)
        refine AL.go (AO.loadBA rfl rfl ?_)
        refine AL.go (AO.move rfl rfl ?_)
        refine AL.go (AO.call rfl rfl (rsuits_c (candS v k)[q].1 (candS v k)[q].2.1 (candS v k)[q].2.2 v k (cand_ok hv hql) hv (by repeat (first | exact mem0 | assumption | refine memS ?_)) (by repeat (first | exact mem0 | assumption | refine memS ?_)) (fun c87 => ?_) (fun c87 => ?_)))
        · refine AL.nil (AK.seqN (AC.condT rfl (AC.seq (AC.region ?_))))
          refine AL.go (AO.loadBA rfl rfl ?_)
          refine AL.go (AO.build rfl rfl rfl ?_)
          refine AL.go (AO.storeBA rfl rfl rfl rfl ?_)
          refine AL.nil (AK.seqN (AC.ret (AK.blkR (AK.seqR (AK.seqR ?_)))))
          refine AK.blkR (AK.seqR ?_)
          first | have hN := found_next hv h0 h3 hr hql hoq c87 | have hN := none_next hv h0 h3 hr (fun j hj => hoq j hj (by omega))
          rw [hN] at h
          first | exact AK.retV (rs := [.cell 4 _]) (L' := L) (F' := F) Tryz.results10 (.agg (j := 2) rfl rfl rfl .nil) (by repeat (first | exact Sub.refl _ _ | refine Sub.trans Sub.drop ?_ | refine Sub.trans Sub.dropF ?_)) h | exact AK.retV (rs := [.cell 4 _]) (L' := L) (F' := F) Tryz.results10 (.agg (j := 1) rfl rfl rfl .nil) (by repeat (first | exact Sub.refl _ _ | refine Sub.trans Sub.drop ?_ | refine Sub.trans Sub.dropF ?_)) h
        · refine AL.nil (AK.seqN (AC.condF rfl (AC.skip (AK.blkN (AK.seqN ?_)))))
          refine AC.region (AL.go (AO.add rfl rfl rfl (by omega) (by omega) (AL.go (AO.move rfl rfl (AL.nil ?_)))))
          refine AK.next (q + 1) ⟨by omega, step_ok (p := fun x => ¬ suitsP x v k) hoq hql c87⟩ (by omega) (by repeat (first | exact SubR.nil | refine SubR.cons rfl ?_)) (Sub.drop.trans (by repeat (first | exact Sub.refl _ _ | refine Sub.trans Sub.dropF ?_)))
      · refine AL.nil (AK.seqN (AC.seq (AC.condF rfl (AC.exit (AK.seqX ?_)))))
        refine AK.seqX (AK.blkX (AK.seqN (AC.seq (AC.region (AL.go (AO.build rfl rfl rfl ?_))))))
        refine AL.go (AO.storeBA rfl rfl rfl rfl ?_)
        refine AL.nil (AK.seqN (AC.ret ?_))
        first | have hN := found_next hv h0 h3 hr hql hoq c87 | have hN := none_next hv h0 h3 hr (fun j hj => hoq j hj (by omega))
        rw [hN] at h
        first | exact AK.retV (rs := [.cell 4 _]) (L' := L) (F' := F) Tryz.results10 (.agg (j := 2) rfl rfl rfl .nil) (by repeat (first | exact Sub.refl _ _ | refine Sub.trans Sub.drop ?_ | refine Sub.trans Sub.dropF ?_)) h | exact AK.retV (rs := [.cell 4 _]) (L' := L) (F' := F) Tryz.results10 (.agg (j := 1) rfl rfl rfl .nil) (by repeat (first | exact Sub.refl _ _ | refine Sub.trans Sub.drop ?_ | refine Sub.trans Sub.dropF ?_)) h
  · refine AL.go (AO.move rfl rfl (AL.no rfl rfl rfl rfl (AL.no rfl rfl rfl rfl (AL.no rfl rfl rfl rfl (AL.go (AO.pickF rfl rfl rfl (AL.nil ?_)))))))
    refine AK.seqN (AC.condF rfl (AC.skip (AK.seqN (AC.seq (AC.seq ?_)))))
    refine AC.region (AL.go (AO.move rfl rfl ?_))
    refine AL.go (AO.gtr rfl rfl rfl (fun c35 => ?_) (fun c35 => absurd c35 (by omega)))
    refine AL.go (AO.move rfl rfl (AL.yes rfl rfl (AO.move rfl rfl ?_)))
    refine AL.yes rfl rfl (AO.eql rfl rfl rfl (fun c38 => ?_) (fun c38 => ?_))
    · refine AL.yes rfl rfl (AO.move rfl rfl (AL.no rfl rfl rfl rfl (AL.no rfl rfl rfl rfl (AL.no rfl rfl rfl rfl (AL.yes rfl rfl (AO.pickT rfl rfl rfl (AL.go (AO.pickT rfl rfl rfl ?_))))))))
      refine AL.go (AO.move rfl rfl (AL.yes rfl rfl (AO.field rfl rfl ?_)))
      refine AL.yes rfl rfl (AO.loadB rfl rfl ?_)
      refine AL.yes rfl rfl (AO.lss rfl rfl rfl (fun c48 => ?_) (fun c48 => ?_))
      · refine AL.go (AO.pickT rfl rfl rfl (AL.nil (AK.seqN (AC.condT rfl (AC.region (AL.go (AO.move rfl rfl ?_)))))))
        refine AL.go (AO.field rfl rfl ?_)
        refine AL.go (AO.loadB rfl rfl ?_)
        refine AL.go (AO.field rfl rfl ?_)
        refine AL.go (AO.loadB rfl rfl ?_)
        refine AL.go (AO.add rfl rfl rfl (by omega) (by omega) (AL.go (AO.build rfl rfl rfl ?_)))
        refine AL.go (AO.buildSlice rfl rfl rfl rfl rfl (fun b57 => ?_))
        refine AL.go (AO.append (i := 0) (enc := eV) (lst := [(v.major, v.minor, v.patch)]) [(v.major, v.minor + 1, 0)] rfl rfl rfl rfl (.val (.val (.val (.val (.val .nil))))) rfl rfl (fun _ => rfl) (show 1 + 1 ≤ maxLen by decide) (show (1 + 1) * 72 ≤ 140737488355328 by decide) (fun a58 k58 z58 => ?_))
        refine AL.go (AO.assign rfl rfl (AL.nil (AK.seqN (AC.seq (AC.seq (AC.region ?_))))))
        refine AL.go (AO.move rfl rfl ?_)
        refine AL.go (AO.gtr rfl rfl rfl (fun c60 => absurd c60 (by omega)) (fun c60 => ?_))
        refine AL.go (AO.move rfl rfl (AL.no rfl rfl rfl rfl (AL.no rfl rfl rfl rfl (AL.no rfl rfl rfl rfl (AL.go (AO.pickF rfl rfl rfl (AL.go (AO.move rfl rfl ?_))))))))
        refine AL.no rfl rfl rfl rfl (AL.no rfl rfl rfl rfl (AL.no rfl rfl rfl rfl (AL.go (AO.pickF rfl rfl rfl (AL.nil (AK.seqN ?_))))))
        refine AC.condF rfl (AC.skip (AK.seqN (AC.seq (AC.seq (AC.region ?_)))))
        first | rw [candA c17 c21] | rw [candC1 c38 c48] | rw [candC2 c35 c42 c48] | rw [candE1 c35 c38 c42 hg.1 c69] | rw [candB c17 c21] | rw [candD1 c38 c48] | rw [candD2 c35 c42 c48] | rw [candE2 c35 c38 c42 hg.1 c69]
        refine AL.go (AO.move rfl rfl ?_)
        refine AT.sub (Sub.commit (i := 0) rfl) ?_
        refine AL.go (AO.len rfl rfl (fun hl79 => ?_) (hm := by repeat (first | exact mem0 | assumption | refine memS ?_)))
        refine AL.go (AO.move rfl rfl (AL.nil (AK.seqN (AC.block ?_))))
        first
        | refine AC.loopC (fun (q : Nat) => q ≤ (candS v k).length ∧ ∀ j (hj : j < (candS v k).length), j < q → ¬ suitsP (candS v k)[j] v k) (fun q => [(1, .int .i64 k), (2, .pointer (some ⟨b2, 0, none⟩)), (4, .pointer (some ⟨b4, 0, none⟩)), (78, .slice a33 k33 z33), (79, .int .i64 (candS v k).length), (80, .int .i64 (q : Int))]) (fun q => (candS v k).length - q) 0 ⟨by omega, by omega⟩ (by repeat (first | exact SubR.nil | refine SubR.cons rfl ?_)) ?_
        | refine AC.loopC (fun (q : Nat) => q ≤ (candS v k).length ∧ ∀ j (hj : j < (candS v k).length), j < q → ¬ suitsP (candS v k)[j] v k) (fun q => [(1, .int .i64 k), (2, .pointer (some ⟨b2, 0, none⟩)), (4, .pointer (some ⟨b4, 0, none⟩)), (78, .slice a58 k58 z58), (79, .int .i64 (candS v k).length), (80, .int .i64 (q : Int))]) (fun q => (candS v k).length - q) 0 ⟨by omega, by omega⟩ (by repeat (first | exact SubR.nil | refine SubR.cons rfl ?_)) ?_
        | refine AC.loopC (fun (q : Nat) => q ≤ (candS v k).length ∧ ∀ j (hj : j < (candS v k).length), j < q → ¬ suitsP (candS v k)[j] v k) (fun q => [(1, .int .i64 k), (2, .pointer (some ⟨b2, 0, none⟩)), (4, .pointer (some ⟨b4, 0, none⟩)), (78, .slice a77 k77 z77), (79, .int .i64 (candS v k).length), (80, .int .i64 (q : Int))]) (fun q => (candS v k).length - q) 0 ⟨by omega, by omega⟩ (by repeat (first | exact SubR.nil | refine SubR.cons rfl ?_)) ?_
        | refine AC.loopC (fun (q : Nat) => q ≤ (candS v k).length ∧ ∀ j (hj : j < (candS v k).length), j < q → ¬ suitsP (candS v k)[j] v k) (fun q => [(1, .int .i64 k), (2, .pointer (some ⟨b2, 0, none⟩)), (4, .pointer (some ⟨b4, 0, none⟩)), (78, .slice (some ⟨b15, 0, none⟩) 1 1), (79, .int .i64 (candS v k).length), (80, .int .i64 (q : Int))]) (fun q => (candS v k).length - q) 0 ⟨by omega, by omega⟩ (by repeat (first | exact SubR.nil | refine SubR.cons rfl ?_)) ?_
        rintro q ⟨hq, hoq⟩
        refine AC.seq (AC.region ?_)
        refine AL.go (AO.lss rfl rfl rfl (fun c81 => ?_) (fun c81 => ?_))
        · refine AL.nil (AK.seqN (AC.seq (AC.condT rfl (AC.skip (AK.seqN ?_)))))
          refine AC.seq (AC.block (AC.seq (AC.region ?_)))
          have hql : q < (candS v k).length := by omega
          refine AL.go (AO.indexAddr rfl rfl rfl rfl (by repeat (first | exact mem0 | assumption | refine memS ?_)) hql (fun _ _ => ?_))
          refine AL.go (AO.loadFA rfl rfl ?_)
          intros
          refine AL.go (AO.alloc rfl (fun b7 => ?_))
          refine AL.go (AO.storeBA rfl rfl rfl rfl ?_)
          refine AL.nil (AK.seqN (AC.seq (AC.region ?_)))
          refine AL.go (AO.loadBA rfl rfl ?_)
          refine AL.go (AO.loadBA rfl rfl ?_)
          refine AL.go (AO.move rfl rfl ?_)
          refine AL.go (AO.call rfl rfl (rsuits_c (candS v k)[q].1 (candS v k)[q].2.1 (candS v k)[q].2.2 v k (cand_ok hv hql) hv (by repeat (first | exact mem0 | assumption | refine memS ?_)) (by repeat (first | exact mem0 | assumption | refine memS ?_)) (fun c87 => ?_) (fun c87 => ?_)))
          · refine AL.nil (AK.seqN (AC.condT rfl (AC.seq (AC.region ?_))))
            refine AL.go (AO.loadBA rfl rfl ?_)
            refine AL.go (AO.build rfl rfl rfl ?_)
            refine AL.go (AO.storeBA rfl rfl rfl rfl ?_)
            refine AL.nil (AK.seqN (AC.ret (AK.blkR (AK.seqR (AK.seqR ?_)))))
            refine AK.blkR (AK.seqR ?_)
            first | have hN := found_next hv h0 h3 hr hql hoq c87 | have hN := none_next hv h0 h3 hr (fun j hj => hoq j hj (by omega))
            rw [hN] at h
            first | exact AK.retV (rs := [.cell 4 _]) (L' := L) (F' := F) Tryz.results10 (.agg (j := 2) rfl rfl rfl .nil) (by repeat (first | exact Sub.refl _ _ | refine Sub.trans Sub.drop ?_ | refine Sub.trans Sub.dropF ?_)) h | exact AK.retV (rs := [.cell 4 _]) (L' := L) (F' := F) Tryz.results10 (.agg (j := 1) rfl rfl rfl .nil) (by repeat (first | exact Sub.refl _ _ | refine Sub.trans Sub.drop ?_ | refine Sub.trans Sub.dropF ?_)) h
          · refine AL.nil (AK.seqN (AC.condF rfl (AC.skip (AK.blkN (AK.seqN ?_)))))
            refine AC.region (AL.go (AO.add rfl rfl rfl (by omega) (by omega) (AL.go (AO.move rfl rfl (AL.nil ?_)))))
            refine AK.next (q + 1) ⟨by omega, step_ok (p := fun x => ¬ suitsP x v k) hoq hql c87⟩ (by omega) (by repeat (first | exact SubR.nil | refine SubR.cons rfl ?_)) (Sub.drop.trans (by repeat (first | exact Sub.refl _ _ | refine Sub.trans Sub.dropF ?_)))
        · refine AL.nil (AK.seqN (AC.seq (AC.condF rfl (AC.exit (AK.seqX ?_)))))
          refine AK.seqX (AK.blkX (AK.seqN (AC.seq (AC.region (AL.go (AO.build rfl rfl rfl ?_))))))
          refine AL.go (AO.storeBA rfl rfl rfl rfl ?_)
          refine AL.nil (AK.seqN (AC.ret ?_))
          first | have hN := found_next hv h0 h3 hr hql hoq c87 | have hN := none_next hv h0 h3 hr (fun j hj => hoq j hj (by omega))
          rw [hN] at h
          first | exact AK.retV (rs := [.cell 4 _]) (L' := L) (F' := F) Tryz.results10 (.agg (j := 2) rfl rfl rfl .nil) (by repeat (first | exact Sub.refl _ _ | refine Sub.trans Sub.drop ?_ | refine Sub.trans Sub.dropF ?_)) h | exact AK.retV (rs := [.cell 4 _]) (L' := L) (F' := F) Tryz.results10 (.agg (j := 1) rfl rfl rfl .nil) (by repeat (first | exact Sub.refl _ _ | refine Sub.trans Sub.drop ?_ | refine Sub.trans Sub.dropF ?_)) h
      · refine AL.go (AO.pickT rfl rfl rfl (AL.nil (AK.seqN (AC.condF rfl (AC.skip (AK.seqN ?_))))))
        refine AC.seq (AC.seq (AC.region (AL.go (AO.move rfl rfl ?_))))
        refine AL.go (AO.gtr rfl rfl rfl (fun c60 => absurd c60 (by omega)) (fun c60 => ?_))
        refine AL.go (AO.move rfl rfl (AL.no rfl rfl rfl rfl (AL.no rfl rfl rfl rfl (AL.no rfl rfl rfl rfl (AL.go (AO.pickF rfl rfl rfl (AL.go (AO.move rfl rfl ?_))))))))
        refine AL.no rfl rfl rfl rfl (AL.no rfl rfl rfl rfl (AL.no rfl rfl rfl rfl (AL.go (AO.pickF rfl rfl rfl (AL.nil (AK.seqN ?_))))))
        refine AC.condF rfl (AC.skip (AK.seqN (AC.seq (AC.seq (AC.region ?_)))))
        first | rw [candA c17 c21] | rw [candC1 c38 c48] | rw [candC2 c35 c42 c48] | rw [candE1 c35 c38 c42 hg.1 c69] | rw [candB c17 c21] | rw [candD1 c38 c48] | rw [candD2 c35 c42 c48] | rw [candE2 c35 c38 c42 hg.1 c69]
        refine AL.go (AO.move rfl rfl ?_)
        refine AT.sub (Sub.commit (i := 0) rfl) ?_
        refine AL.go (AO.len rfl rfl (fun hl79 => ?_) (hm := by repeat (first | exact mem0 | assumption | refine memS ?_)))
        refine AL.go (AO.move rfl rfl (AL.nil (AK.seqN (AC.block ?_))))
        first
        | refine AC.loopC (fun (q : Nat) => q ≤ (candS v k).length ∧ ∀ j (hj : j < (candS v k).length), j < q → ¬ suitsP (candS v k)[j] v k) (fun q => [(1, .int .i64 k), (2, .pointer (some ⟨b2, 0, none⟩)), (4, .pointer (some ⟨b4, 0, none⟩)), (78, .slice a33 k33 z33), (79, .int .i64 (candS v k).length), (80, .int .i64 (q : Int))]) (fun q => (candS v k).length - q) 0 ⟨by omega, by omega⟩ (by repeat (first | exact SubR.nil | refine SubR.cons rfl ?_)) ?_
        | refine AC.loopC (fun (q : Nat) => q ≤ (candS v k).length ∧ ∀ j (hj : j < (candS v k).length), j < q → ¬ suitsP (candS v k)[j] v k) (fun q => [(1, .int .i64 k), (2, .pointer (some ⟨b2, 0, none⟩)), (4, .pointer (some ⟨b4, 0, none⟩)), (78, .slice a58 k58 z58), (79, .int .i64 (candS v k).length), (80, .int .i64 (q : Int))]) (fun q => (candS v k).length - q) 0 ⟨by omega, by omega⟩ (by repeat (first | exact SubR.nil | refine SubR.cons rfl ?_)) ?_
        | refine AC.loopC (fun (q : Nat) => q ≤ (candS v k).length ∧ ∀ j (hj : j < (candS v k).length), j < q → ¬ suitsP (candS v k)[j] v k) (fun q => [(1, .int .i64 k), (2, .pointer (some ⟨b2, 0, none⟩)), (4, .pointer (some ⟨b4, 0, none⟩)), (78, .slice a77 k77 z77), (79, .int .i64 (candS v k).length), (80, .int .i64 (q : Int))]) (fun q => (candS v k).length - q) 0 ⟨by omega, by omega⟩ (by repeat (first | exact SubR.nil | refine SubR.cons rfl ?_)) ?_
        | refine AC.loopC (fun (q : Nat) => q ≤ (candS v k).length ∧ ∀ j (hj : j < (candS v k).length), j < q → ¬ suitsP (candS v k)[j] v k) (fun q => [(1, .int .i64 k), (2, .pointer (some ⟨b2, 0, none⟩)), (4, .pointer (some ⟨b4, 0, none⟩)), (78, .slice (some ⟨b15, 0, none⟩) 1 1), (79, .int .i64 (candS v k).length), (80, .int .i64 (q : Int))]) (fun q => (candS v k).length - q) 0 ⟨by omega, by omega⟩ (by repeat (first | exact SubR.nil | refine SubR.cons rfl ?_)) ?_
        rintro q ⟨hq, hoq⟩
        refine AC.seq (AC.region ?_)
        refine AL.go (AO.lss rfl rfl rfl (fun c81 => ?_) (fun c81 => ?_))
        · refine AL.nil (AK.seqN (AC.seq (AC.condT rfl (AC.skip (AK.seqN ?_)))))
          refine AC.seq (AC.block (AC.seq (AC.region ?_)))
          have hql : q < (candS v k).length := by omega
          refine AL.go (AO.indexAddr rfl rfl rfl rfl (by repeat (first | exact mem0 | assumption | refine memS ?_)) hql (fun _ _ => ?_))
          refine AL.go (AO.loadFA rfl rfl ?_)
          intros
          refine AL.go (AO.alloc rfl (fun b7 => ?_))
          refine AL.go (AO.storeBA rfl rfl rfl rfl ?_)
          refine AL.nil (AK.seqN (AC.seq (AC.region ?_)))
          refine AL.go (AO.loadBA rfl rfl ?_)
          refine AL.go (AO.loadBA rfl rfl ?_)
          refine AL.go (AO.move rfl rfl ?_)
          refine AL.go (AO.call rfl rfl (rsuits_c (candS v k)[q].1 (candS v k)[q].2.1 (candS v k)[q].2.2 v k (cand_ok hv hql) hv (by repeat (first | exact mem0 | assumption | refine memS ?_)) (by repeat (first | exact mem0 | assumption | refine memS ?_)) (fun c87 => ?_) (fun c87 => ?_)))
          · refine AL.nil (AK.seqN (AC.condT rfl (AC.seq (AC.region ?_))))
            refine AL.go (AO.loadBA rfl rfl ?_)
            refine AL.go (AO.build rfl rfl rfl ?_)
            refine AL.go (AO.storeBA rfl rfl rfl rfl ?_)
            refine AL.nil (AK.seqN (AC.ret (AK.blkR (AK.seqR (AK.seqR ?_)))))
            refine AK.blkR (AK.seqR ?_)
            first | have hN := found_next hv h0 h3 hr hql hoq c87 | have hN := none_next hv h0 h3 hr (fun j hj => hoq j hj (by omega))
            rw [hN] at h
            first | exact AK.retV (rs := [.cell 4 _]) (L' := L) (F' := F) Tryz.results10 (.agg (j := 2) rfl rfl rfl .nil) (by repeat (first | exact Sub.refl _ _ | refine Sub.trans Sub.drop ?_ | refine Sub.trans Sub.dropF ?_)) h | exact AK.retV (rs := [.cell 4 _]) (L' := L) (F' := F) Tryz.results10 (.agg (j := 1) rfl rfl rfl .nil) (by repeat (first | exact Sub.refl _ _ | refine Sub.trans Sub.drop ?_ | refine Sub.trans Sub.dropF ?_)) h
          · refine AL.nil (AK.seqN (AC.condF rfl (AC.skip (AK.blkN (AK.seqN ?_)))))
            refine AC.region (AL.go (AO.add rfl rfl rfl (by omega) (by omega) (AL.go (AO.move rfl rfl (AL.nil ?_)))))
            refine AK.next (q + 1) ⟨by omega, step_ok (p := fun x => ¬ suitsP x v k) hoq hql c87⟩ (by omega) (by repeat (first | exact SubR.nil | refine SubR.cons rfl ?_)) (Sub.drop.trans (by repeat (first | exact Sub.refl _ _ | refine Sub.trans Sub.dropF ?_)))
        · refine AL.nil (AK.seqN (AC.seq (AC.condF rfl (AC.exit (AK.seqX ?_)))))
          refine AK.seqX (AK.blkX (AK.seqN (AC.seq (AC.region (AL.go (AO.build rfl rfl rfl ?_))))))
          refine AL.go (AO.storeBA rfl rfl rfl rfl ?_)
          refine AL.nil (AK.seqN (AC.ret ?_))
          first | have hN := found_next hv h0 h3 hr hql hoq c87 | have hN := none_next hv h0 h3 hr (fun j hj => hoq j hj (by omega))
          rw [hN] at h
          first | exact AK.retV (rs := [.cell 4 _]) (L' := L) (F' := F) Tryz.results10 (.agg (j := 2) rfl rfl rfl .nil) (by repeat (first | exact Sub.refl _ _ | refine Sub.trans Sub.drop ?_ | refine Sub.trans Sub.dropF ?_)) h | exact AK.retV (rs := [.cell 4 _]) (L' := L) (F' := F) Tryz.results10 (.agg (j := 1) rfl rfl rfl .nil) (by repeat (first | exact Sub.refl _ _ | refine Sub.trans Sub.drop ?_ | refine Sub.trans Sub.dropF ?_)) h
    · refine AL.yes rfl rfl (AO.move rfl rfl (AL.yes rfl rfl (AO.field rfl rfl ?_)))
      refine AL.yes rfl rfl (AO.loadB rfl rfl ?_)
      refine AL.yes rfl rfl (AO.eql rfl rfl rfl (fun c42 => ?_) (fun c42 => ?_))
      · refine AL.yes rfl rfl (AO.pickF rfl rfl rfl (AL.go (AO.pickT rfl rfl rfl (AL.go (AO.move rfl rfl (AL.yes rfl rfl (AO.field rfl rfl ?_)))))))
        refine AL.yes rfl rfl (AO.loadB rfl rfl ?_)
        refine AL.yes rfl rfl (AO.lss rfl rfl rfl (fun c48 => ?_) (fun c48 => ?_))
        · refine AL.go (AO.pickT rfl rfl rfl (AL.nil (AK.seqN (AC.condT rfl (AC.region (AL.go (AO.move rfl rfl ?_)))))))
          refine AL.go (AO.field rfl rfl ?_)
          refine AL.go (AO.loadB rfl rfl ?_)
          refine AL.go (AO.field rfl rfl ?_)
          refine AL.go (AO.loadB rfl rfl ?_)
          refine AL.go (AO.add rfl rfl rfl (by omega) (by omega) (AL.go (AO.build rfl rfl rfl ?_)))
          refine AL.go (AO.buildSlice rfl rfl rfl rfl rfl (fun b57 => ?_))
          refine AL.go (AO.append (i := 0) (enc := eV) (lst := [(v.major, v.minor, v.patch)]) [(v.major, v.minor + 1, 0)] rfl rfl rfl rfl (.val (.val (.val (.val (.val .nil))))) rfl rfl (fun _ => rfl) (show 1 + 1 ≤ maxLen by decide) (show (1 + 1) * 72 ≤ 140737488355328 by decide) (fun a58 k58 z58 => ?_))
          refine AL.go (AO.assign rfl rfl (AL.nil (AK.seqN (AC.seq (AC.seq (AC.region ?_))))))
          refine AL.go (AO.move rfl rfl ?_)
          refine AL.go (AO.gtr rfl rfl rfl (fun c60 => ?_) (fun c60 => absurd c60 (by omega)))
          refine AL.go (AO.move rfl rfl (AL.yes rfl rfl (AO.field rfl rfl ?_)))
          refine AL.yes rfl rfl (AO.loadB rfl rfl ?_)
          refine AL.yes rfl rfl (AO.gtr rfl rfl rfl (fun c64 => absurd c64 (by omega)) (fun c64 => ?_))
          refine AL.go (AO.pickT rfl rfl rfl (AL.go (AO.move rfl rfl (AL.no rfl rfl rfl rfl (AL.no rfl rfl rfl rfl (AL.no rfl rfl rfl rfl (AL.go (AO.pickF rfl rfl rfl ?_))))))))
          refine AL.nil (AK.seqN (AC.condF rfl (AC.skip (AK.seqN (AC.seq ?_)))))
          refine AC.seq (AC.region ?_)
          first | rw [candA c17 c21] | rw [candC1 c38 c48] | rw [candC2 c35 c42 c48] | rw [candE1 c35 c38 c42 hg.1 c69] | rw [candB c17 c21] | rw [candD1 c38 c48] | rw [candD2 c35 c42 c48] | rw [candE2 c35 c38 c42 hg.1 c69]
          refine AL.go (AO.move rfl rfl ?_)
          refine AT.sub (Sub.commit (i := 0) rfl) ?_
          refine AL.go (AO.len rfl rfl (fun hl79 => ?_) (hm := by repeat (first | exact mem0 | assumption | refine memS ?_)))
          refine AL.go (AO.move rfl rfl (AL.nil (AK.seqN (AC.block ?_))))
          first
          | refine AC.loopC (fun (q : Nat) => q ≤ (candS v k).length ∧ ∀ j (hj : j < (candS v k).length), j < q → ¬ suitsP (candS v k)[j] v k) (fun q => [(1, .int .i64 k), (2, .pointer (some ⟨b2, 0, none⟩)), (4, .pointer (some ⟨b4, 0, none⟩)), (78, .slice a33 k33 z33), (79, .int .i64 (candS v k).length), (80, .int .i64 (q : Int))]) (fun q => (candS v k).length - q) 0 ⟨by omega, by omega⟩ (by repeat (first | exact SubR.nil | refine SubR.cons rfl ?_)) ?_
          | refine AC.loopC (fun (q : Nat) => q ≤ (candS v k).length ∧ ∀ j (hj : j < (candS v k).length), j < q → ¬ suitsP (candS v k)[j] v k) (fun q => [(1, .int .i64 k), (2, .pointer (some ⟨b2, 0, none⟩)), (4, .pointer (some ⟨b4, 0, none⟩)), (78, .slice a58 k58 z58), (79, .int .i64 (candS v k).length), (80, .int .i64 (q : Int))]) (fun q => (candS v k).length - q) 0 ⟨by omega, by omega⟩ (by repeat (first | exact SubR.nil | refine SubR.cons rfl ?_)) ?_
          | refine AC.loopC (fun (q : Nat) => q ≤ (candS v k).length ∧ ∀ j (hj : j < (candS v k).length), j < q → ¬ suitsP (candS v k)[j] v k) (fun q => [(1, .int .i64 k), (2, .pointer (some ⟨b2, 0, none⟩)), (4, .pointer (some ⟨b4, 0, none⟩)), (78, .slice a77 k77 z77), (79, .int .i64 (candS v k).length), (80, .int .i64 (q : Int))]) (fun q => (candS v k).length - q) 0 ⟨by omega, by omega⟩ (by repeat (first | exact SubR.nil | refine SubR.cons rfl ?_)) ?_
          | refine AC.loopC (fun (q : Nat) => q ≤ (candS v k).length ∧ ∀ j (hj : j < (candS v k).length), j < q → ¬ suitsP (candS v k)[j] v k) (fun q => [(1, .int .i64 k), (2, .pointer (some ⟨b2, 0, none⟩)), (4, .pointer (some ⟨b4, 0, none⟩)), (78, .slice (some ⟨b15, 0, none⟩) 1 1), (79, .int .i64 (candS v k).length), (80, .int .i64 (q : Int))]) (fun q => (candS v k).length - q) 0 ⟨by omega, by omega⟩ (by repeat (first | exact SubR.nil | refine SubR.cons rfl ?_)) ?_
          rintro q ⟨hq, hoq⟩
          refine AC.seq (AC.region ?_)
          refine AL.go (AO.lss rfl rfl rfl (fun c81 => ?_) (fun c81 => ?_))
          · refine AL.nil (AK.seqN (AC.seq (AC.condT rfl (AC.skip (AK.seqN ?_)))))
            refine AC.seq (AC.block (AC.seq (AC.region ?_)))
            have hql : q < (candS v k).length := by omega
            refine AL.go (AO.indexAddr rfl rfl rfl rfl (by repeat (first | exact mem0 | assumption | refine memS ?_)) hql (fun _ _ => ?_))
            refine AL.go (AO.loadFA rfl rfl ?_)
            intros
            refine AL.go (AO.alloc rfl (fun b7 => ?_))
            refine AL.go (AO.storeBA rfl rfl rfl rfl ?_)
            refine AL.nil (AK.seqN (AC.seq (AC.region ?_)))
            refine AL.go (AO.loadBA rfl rfl ?_)
            refine AL.go (AO.loadBA rfl rfl ?_)
            refine AL.go (AO.move rfl rfl ?_)
            refine AL.go (AO.call rfl rfl (rsuits_c (candS v k)[q].1 (candS v k)[q].2.1 (candS v k)[q].2.2 v k (cand_ok hv hql) hv (by repeat (first | exact mem0 | assumption | refine memS ?_)) (by repeat (first | exact mem0 | assumption | refine memS ?_)) (fun c87 => ?_) (fun c87 => ?_)))
            · refine AL.nil (AK.seqN (AC.condT rfl (AC.seq (AC.region ?_))))
              refine AL.go (AO.loadBA rfl rfl ?_)
              refine AL.go (AO.build rfl rfl rfl ?_)
              refine AL.go (AO.storeBA rfl rfl rfl rfl ?_)
              refine AL.nil (AK.seqN (AC.ret (AK.blkR (AK.seqR (AK.seqR ?_)))))
              refine AK.blkR (AK.seqR ?_)
              first | have hN := found_next hv h0 h3 hr hql hoq c87 | have hN := none_next hv h0 h3 hr (fun j hj => hoq j hj (by omega))
              rw [hN] at h
              first | exact AK.retV (rs := [.cell 4 _]) (L' := L) (F' := F) Tryz.results10 (.agg (j := 2) rfl rfl rfl .nil) (by repeat (first | exact Sub.refl _ _ | refine Sub.trans Sub.drop ?_ | refine Sub.trans Sub.dropF ?_)) h | exact AK.retV (rs := [.cell 4 _]) (L' := L) (F' := F) Tryz.results10 (.agg (j := 1) rfl rfl rfl .nil) (by repeat (first | exact Sub.refl _ _ | refine Sub.trans Sub.drop ?_ | refine Sub.trans Sub.dropF ?_)) h
            · refine AL.nil (AK.seqN (AC.condF rfl (AC.skip (AK.blkN (AK.seqN ?_)))))
              refine AC.region (AL.go (AO.add rfl rfl rfl (by omega) (by omega) (AL.go (AO.move rfl rfl (AL.nil ?_)))))
              refine AK.next (q + 1) ⟨by omega, step_ok (p := fun x => ¬ suitsP x v k) hoq hql c87⟩ (by omega) (by repeat (first | exact SubR.nil | refine SubR.cons rfl ?_)) (Sub.drop.trans (by repeat (first | exact Sub.refl _ _ | refine Sub.trans Sub.dropF ?_)))
          · refine AL.nil (AK.seqN (AC.seq (AC.condF rfl (AC.exit (AK.seqX ?_)))))
            refine AK.seqX (AK.blkX (AK.seqN (AC.seq (AC.region (AL.go (AO.build rfl rfl rfl ?_))))))
            refine AL.go (AO.storeBA rfl rfl rfl rfl ?_)
            refine AL.nil (AK.seqN (AC.ret ?_))
            first | have hN := found_next hv h0 h3 hr hql hoq c87 | have hN := none_next hv h0 h3 hr (fun j hj => hoq j hj (by omega))
            rw [hN] at h
            first | exact AK.retV (rs := [.cell 4 _]) (L' := L) (F' := F) Tryz.results10 (.agg (j := 2) rfl rfl rfl .nil) (by repeat (first | exact Sub.refl _ _ | refine Sub.trans Sub.drop ?_ | refine Sub.trans Sub.dropF ?_)) h | exact AK.retV (rs := [.cell 4 _]) (L' := L) (F' := F) Tryz.results10 (.agg (j := 1) rfl rfl rfl .nil) (by repeat (first | exact Sub.refl _ _ | refine Sub.trans Sub.drop ?_ | refine Sub.trans Sub.dropF ?_)) h
        · refine AL.go (AO.pickT rfl rfl rfl (AL.nil (AK.seqN (AC.condF rfl (AC.skip (AK.seqN ?_))))))
          refine AC.seq (AC.seq (AC.region (AL.go (AO.move rfl rfl ?_))))
          refine AL.go (AO.gtr rfl rfl rfl (fun c60 => ?_) (fun c60 => absurd c60 (by omega)))
          refine AL.go (AO.move rfl rfl (AL.yes rfl rfl (AO.field rfl rfl ?_)))
          refine AL.yes rfl rfl (AO.loadB rfl rfl ?_)
          refine AL.yes rfl rfl (AO.gtr rfl rfl rfl (fun c64 => absurd c64 (by omega)) (fun c64 => ?_))
          refine AL.go (AO.pickT rfl rfl rfl (AL.go (AO.move rfl rfl (AL.no rfl rfl rfl rfl (AL.no rfl rfl rfl rfl (AL.no rfl rfl rfl rfl (AL.go (AO.pickF rfl rfl rfl ?_))))))))
          refine AL.nil (AK.seqN (AC.condF rfl (AC.skip (AK.seqN (AC.seq ?_)))))
          refine AC.seq (AC.region ?_)
          first | rw [candA c17 c21] | rw [candC1 c38 c48] | rw [candC2 c35 c42 c48] | rw [candE1 c35 c38 c42 hg.1 c69] | rw [candB c17 c21] | rw [candD1 c38 c48] | rw [candD2 c35 c42 c48] | rw [candE2 c35 c38 c42 hg.1 c69]
          refine AL.go (AO.move rfl rfl ?_)
          refine AT.sub (Sub.commit (i := 0) rfl) ?_
          refine AL.go (AO.len rfl rfl (fun hl79 => ?_) (hm := by repeat (first | exact mem0 | assumption | refine memS ?_)))
          refine AL.go (AO.move rfl rfl (AL.nil (AK.seqN (AC.block ?_))))
          first
          | refine AC.loopC (fun (q : Nat) => q ≤ (candS v k).length ∧ ∀ j (hj : j < (candS v k).length), j < q → ¬ suitsP (candS v k)[j] v k) (fun q => [(1, .int .i64 k), (2, .pointer (some ⟨b2, 0, none⟩)), (4, .pointer (some ⟨b4, 0, none⟩)), (78, .slice a33 k33 z33), (79, .int .i64 (candS v k).length), (80, .int .i64 (q : Int))]) (fun q => (candS v k).length - q) 0 ⟨by omega, by omega⟩ (by repeat (first | exact SubR.nil | refine SubR.cons rfl ?_)) ?_
          | refine AC.loopC (fun (q : Nat) => q ≤ (candS v k).length ∧ ∀ j (hj : j < (candS v k).length), j < q → ¬ suitsP (candS v k)[j] v k) (fun q => [(1, .int .i64 k), (2, .pointer (some ⟨b2, 0, none⟩)), (4, .pointer (some ⟨b4, 0, none⟩)), (78, .slice a58 k58 z58), (79, .int .i64 (candS v k).length), (80, .int .i64 (q : Int))]) (fun q => (candS v k).length - q) 0 ⟨by omega, by omega⟩ (by repeat (first | exact SubR.nil | refine SubR.cons rfl ?_)) ?_
          | refine AC.loopC (fun (q : Nat) => q ≤ (candS v k).length ∧ ∀ j (hj : j < (candS v k).length), j < q → ¬ suitsP (candS v k)[j] v k) (fun q => [(1, .int .i64 k), (2, .pointer (some ⟨b2, 0, none⟩)), (4, .pointer (some ⟨b4, 0, none⟩)), (78, .slice a77 k77 z77), (79, .int .i64 (candS v k).length), (80, .int .i64 (q : Int))]) (fun q => (candS v k).length - q) 0 ⟨by omega, by omega⟩ (by repeat (first | exact SubR.nil | refine SubR.cons rfl ?_)) ?_
          | refine AC.loopC (fun (q : Nat) => q ≤ (candS v k).length ∧ ∀ j (hj : j < (candS v k).length), j < q → ¬ suitsP (candS v k)[j] v k) (fun q => [(1, .int .i64 k), (2, .pointer (some ⟨b2, 0, none⟩)), (4, .pointer (some ⟨b4, 0, none⟩)), (78, .slice (some ⟨b15, 0, none⟩) 1 1), (79, .int .i64 (candS v k).length), (80, .int .i64 (q : Int))]) (fun q => (candS v k).length - q) 0 ⟨by omega, by omega⟩ (by repeat (first | exact SubR.nil | refine SubR.cons rfl ?_)) ?_
          rintro q ⟨hq, hoq⟩
          refine AC.seq (AC.region ?_)
          refine AL.go (AO.lss rfl rfl rfl (fun c81 => ?_) (fun c81 => ?_))
          · refine AL.nil (AK.seqN (AC.seq (AC.condT rfl (AC.skip (AK.seqN ?_)))))
            refine AC.seq (AC.block (AC.seq (AC.region ?_)))
            have hql : q < (candS v k).length := by omega
            refine AL.go (AO.indexAddr rfl rfl rfl rfl (by repeat (first | exact mem0 | assumption | refine memS ?_)) hql (fun _ _ => ?_))
            refine AL.go (AO.loadFA rfl rfl ?_)
            intros
            refine AL.go (AO.alloc rfl (fun b7 => ?_))
            refine AL.go (AO.storeBA rfl rfl rfl rfl ?_)
            refine AL.nil (AK.seqN (AC.seq (AC.region ?_)))
            refine AL.go (AO.loadBA rfl rfl ?_)
            refine AL.go (AO.loadBA rfl rfl ?_)
            refine AL.go (AO.move rfl rfl ?_)
            refine AL.go (AO.call rfl rfl (rsuits_c (candS v k)[q].1 (candS v k)[q].2.1 (candS v k)[q].2.2 v k (cand_ok hv hql) hv (by repeat (first | exact mem0 | assumption | refine memS ?_)) (by repeat (first | exact mem0 | assumption | refine memS ?_)) (fun c87 => ?_) (fun c87 => ?_)))
            · refine AL.nil (AK.seqN (AC.condT rfl (AC.seq (AC.region ?_))))
              refine AL.go (AO.loadBA rfl rfl ?_)
              refine AL.go (AO.build rfl rfl rfl ?_)
              refine AL.go (AO.storeBA rfl rfl rfl rfl ?_)
              refine AL.nil (AK.seqN (AC.ret (AK.blkR (AK.seqR (AK.seqR ?_)))))
              refine AK.blkR (AK.seqR ?_)
              first | have hN := found_next hv h0 h3 hr hql hoq c87 | have hN := none_next hv h0 h3 hr (fun j hj => hoq j hj (by omega))
              rw [hN] at h
              first | exact AK.retV (rs := [.cell 4 _]) (L' := L) (F' := F) Tryz.results10 (.agg (j := 2) rfl rfl rfl .nil) (by repeat (first | exact Sub.refl _ _ | refine Sub.trans Sub.drop ?_ | refine Sub.trans Sub.dropF ?_)) h | exact AK.retV (rs := [.cell 4 _]) (L' := L) (F' := F) Tryz.results10 (.agg (j := 1) rfl rfl rfl .nil) (by repeat (first | exact Sub.refl _ _ | refine Sub.trans Sub.drop ?_ | refine Sub.trans Sub.dropF ?_)) h
            · refine AL.nil (AK.seqN (AC.condF rfl (AC.skip (AK.blkN (AK.seqN ?_)))))
              refine AC.region (AL.go (AO.add rfl rfl rfl (by omega) (by omega) (AL.go (AO.move rfl rfl (AL.nil ?_)))))
              refine AK.next (q + 1) ⟨by omega, step_ok (p := fun x => ¬ suitsP x v k) hoq hql c87⟩ (by omega) (by repeat (first | exact SubR.nil | refine SubR.cons rfl ?_)) (Sub.drop.trans (by repeat (first | exact Sub.refl _ _ | refine Sub.trans Sub.dropF ?_)))
          · refine AL.nil (AK.seqN (AC.seq (AC.condF rfl (AC.exit (AK.seqX ?_)))))
            refine AK.seqX (AK.blkX (AK.seqN (AC.seq (AC.region (AL.go (AO.build rfl rfl rfl ?_))))))
            refine AL.go (AO.storeBA rfl rfl rfl rfl ?_)
            refine AL.nil (AK.seqN (AC.ret ?_))
            first | have hN := found_next hv h0 h3 hr hql hoq c87 | have hN := none_next hv h0 h3 hr (fun j hj => hoq j hj (by omega))
            rw [hN] at h
            first | exact AK.retV (rs := [.cell 4 _]) (L' := L) (F' := F) Tryz.results10 (.agg (j := 2) rfl rfl rfl .nil) (by repeat (first | exact Sub.refl _ _ | refine Sub.trans Sub.drop ?_ | refine Sub.trans Sub.dropF ?_)) h | exact AK.retV (rs := [.cell 4 _]) (L' := L) (F' := F) Tryz.results10 (.agg (j := 1) rfl rfl rfl .nil) (by repeat (first | exact Sub.refl _ _ | refine Sub.trans Sub.drop ?_ | refine Sub.trans Sub.dropF ?_)) h
      · refine AL.yes rfl rfl (AO.pickF rfl rfl rfl (AL.go (AO.pickT rfl rfl rfl (AL.go (AO.move rfl rfl (AL.no rfl rfl rfl rfl (AL.no rfl rfl rfl rfl (AL.no rfl rfl rfl rfl ?_))))))))
        refine AL.go (AO.pickF rfl rfl rfl (AL.nil (AK.seqN (AC.condF rfl (AC.skip (AK.seqN ?_))))))
        refine AC.seq (AC.seq (AC.region (AL.go (AO.move rfl rfl ?_))))
        refine AL.go (AO.gtr rfl rfl rfl (fun c60 => ?_) (fun c60 => absurd c60 (by omega)))
        refine AL.go (AO.move rfl rfl (AL.yes rfl rfl (AO.field rfl rfl ?_)))
        refine AL.yes rfl rfl (AO.loadB rfl rfl ?_)
        refine AL.yes rfl rfl (AO.gtr rfl rfl rfl (fun c64 => ?_) (fun c64 => absurd c64 (by omega)))
        refine AL.go (AO.pickT rfl rfl rfl (AL.go (AO.move rfl rfl (AL.yes rfl rfl (AO.field rfl rfl ?_)))))
        refine AL.yes rfl rfl (AO.loadB rfl rfl ?_)
        refine AL.yes rfl rfl (AO.lss rfl rfl rfl (fun c69 => ?_) (fun c69 => ?_))
        · refine AL.go (AO.pickT rfl rfl rfl (AL.nil (AK.seqN (AC.condT rfl (AC.region (AL.go (AO.move rfl rfl ?_)))))))
          refine AL.go (AO.field rfl rfl ?_)
          refine AL.go (AO.loadB rfl rfl ?_)
          refine AL.go (AO.add rfl rfl rfl (by omega) (by omega) (AL.go (AO.build rfl rfl rfl ?_)))
          refine AL.go (AO.buildSlice rfl rfl rfl rfl rfl (fun b76 => ?_))
          refine AL.go (AO.append (i := 0) (enc := eV) (lst := [(v.major, v.minor, v.patch)]) [(v.major + 1, 0, 0)] rfl rfl rfl rfl (.val (.val (.val (.val (.val .nil))))) rfl rfl (fun _ => rfl) (show 1 + 1 ≤ maxLen by decide) (show (1 + 1) * 72 ≤ 140737488355328 by decide) (fun a77 k77 z77 => ?_))
          refine AL.go (AO.assign rfl rfl (AL.nil (AK.seqN (AC.seq (AC.seq (AC.region ?_))))))
          first | rw [candA c17 c21] | rw [candC1 c38 c48] | rw [candC2 c35 c42 c48] | rw [candE1 c35 c38 c42 hg.1 c69] | rw [candB c17 c21] | rw [candD1 c38 c48] | rw [candD2 c35 c42 c48] | rw [candE2 c35 c38 c42 hg.1 c69]
          refine AL.go (AO.move rfl rfl ?_)
          refine AT.sub (Sub.commit (i := 0) rfl) ?_
          refine AL.go (AO.len rfl rfl (fun hl79 => ?_) (hm := by repeat (first | exact mem0 | assumption | refine memS ?_)))
          refine AL.go (AO.move rfl rfl (AL.nil (AK.seqN (AC.block ?_))))
          first
          | refine AC.loopC (fun (q : Nat) => q ≤ (candS v k).length ∧ ∀ j (hj : j < (candS v k).length), j < q → ¬ suitsP (candS v k)[j] v k) (fun q => [(1, .int .i64 k), (2, .pointer (some ⟨b2, 0, none⟩)), (4, .pointer (some ⟨b4, 0, none⟩)), (78, .slice a33 k33 z33), (79, .int .i64 (candS v k).length), (80, .int .i64 (q : Int))]) (fun q => (candS v k).length - q) 0 ⟨by omega, by omega⟩ (by repeat (first | exact SubR.nil | refine SubR.cons rfl ?_)) ?_
          | refine AC.loopC (fun (q : Nat) => q ≤ (candS v k).length ∧ ∀ j (hj : j < (candS v k).length), j < q → ¬ suitsP (candS v k)[j] v k) (fun q => [(1, .int .i64 k), (2, .pointer (some ⟨b2, 0, none⟩)), (4, .pointer (some ⟨b4, 0, none⟩)), (78, .slice a58 k58 z58), (79, .int .i64 (candS v k).length), (80, .int .i64 (q : Int))]) (fun q => (candS v k).length - q) 0 ⟨by omega, by omega⟩ (by repeat (first | exact SubR.nil | refine SubR.cons rfl ?_)) ?_
          | refine AC.loopC (fun (q : Nat) => q ≤ (candS v k).length ∧ ∀ j (hj : j < (candS v k).length), j < q → ¬ suitsP (candS v k)[j] v k) (fun q => [(1, .int .i64 k), (2, .pointer (some ⟨b2, 0, none⟩)), (4, .pointer (some ⟨b4, 0, none⟩)), (78, .slice a77 k77 z77), (79, .int .i64 (candS v k).length), (80, .int .i64 (q : Int))]) (fun q => (candS v k).length - q) 0 ⟨by omega, by omega⟩ (by repeat (first | exact SubR.nil | refine SubR.cons rfl ?_)) ?_
          | refine AC.loopC (fun (q : Nat) => q ≤ (candS v k).length ∧ ∀ j (hj : j < (candS v k).length), j < q → ¬ suitsP (candS v k)[j] v k) (fun q => [(1, .int .i64 k), (2, .pointer (some ⟨b2, 0, none⟩)), (4, .pointer (some ⟨b4, 0, none⟩)), (78, .slice (some ⟨b15, 0, none⟩) 1 1), (79, .int .i64 (candS v k).length), (80, .int .i64 (q : Int))]) (fun q => (candS v k).length - q) 0 ⟨by omega, by omega⟩ (by repeat (first | exact SubR.nil | refine SubR.cons rfl ?_)) ?_
          rintro q ⟨hq, hoq⟩
          refine AC.seq (AC.region ?_)
          refine AL.go (AO.lss rfl rfl rfl (fun c81 => ?_) (fun c81 => ?_))
          · refine AL.nil (AK.seqN (AC.seq (AC.condT rfl (AC.skip (AK.seqN ?_)))))
            refine AC.seq (AC.block (AC.seq (AC.region ?_)))
            have hql : q < (candS v k).length := by omega
            refine AL.go (AO.indexAddr rfl rfl rfl rfl (by repeat (first | exact mem0 | assumption | refine memS ?_)) hql (fun _ _ => ?_))
            refine AL.go (AO.loadFA rfl rfl ?_)
            intros
            refine AL.go (AO.alloc rfl (fun b7 => ?_))
            refine AL.go (AO.storeBA rfl rfl rfl rfl ?_)
            refine AL.nil (AK.seqN (AC.seq (AC.region ?_)))
            refine AL.go (AO.loadBA rfl rfl ?_)
            refine AL.go (AO.loadBA rfl rfl ?_)
            refine AL.go (AO.move rfl rfl ?_)
            refine AL.go (AO.call rfl rfl (rsuits_c (candS v k)[q].1 (candS v k)[q].2.1 (candS v k)[q].2.2 v k (cand_ok hv hql) hv (by repeat (first | exact mem0 | assumption | refine memS ?_)) (by repeat (first | exact mem0 | assumption | refine memS ?_)) (fun c87 => ?_) (fun c87 => ?_)))
            · refine AL.nil (AK.seqN (AC.condT rfl (AC.seq (AC.region ?_))))
              refine AL.go (AO.loadBA rfl rfl ?_)
              refine AL.go (AO.build rfl rfl rfl ?_)
              refine AL.go (AO.storeBA rfl rfl rfl rfl ?_)
              refine AL.nil (AK.seqN (AC.ret (AK.blkR (AK.seqR (AK.seqR ?_)))))
              refine AK.blkR (AK.seqR ?_)
              first | have hN := found_next hv h0 h3 hr hql hoq c87 | have hN := none_next hv h0 h3 hr (fun j hj => hoq j hj (by omega))
              rw [hN] at h
              first | exact AK.retV (rs := [.cell 4 _]) (L' := L) (F' := F) Tryz.results10 (.agg (j := 2) rfl rfl rfl .nil) (by repeat (first | exact Sub.refl _ _ | refine Sub.trans Sub.drop ?_ | refine Sub.trans Sub.dropF ?_)) h | exact AK.retV (rs := [.cell 4 _]) (L' := L) (F' := F) Tryz.results10 (.agg (j := 1) rfl rfl rfl .nil) (by repeat (first | exact Sub.refl _ _ | refine Sub.trans Sub.drop ?_ | refine Sub.trans Sub.dropF ?_)) h
            · refine AL.nil (AK.seqN (AC.condF rfl (AC.skip (AK.blkN (AK.seqN ?_)))))
              refine AC.region (AL.go (AO.add rfl rfl rfl (by omega) (by omega) (AL.go (AO.move rfl rfl (AL.nil ?_)))))
              refine AK.next (q + 1) ⟨by omega, step_ok (p := fun x => ¬ suitsP x v k) hoq hql c87⟩ (by omega) (by repeat (first | exact SubR.nil | refine SubR.cons rfl ?_)) (Sub.drop.trans (by repeat (first | exact Sub.refl _ _ | refine Sub.trans Sub.dropF ?_)))
          · refine AL.nil (AK.seqN (AC.seq (AC.condF rfl (AC.exit (AK.seqX ?_)))))
            refine AK.seqX (AK.blkX (AK.seqN (AC.seq (AC.region (AL.go (AO.build rfl rfl rfl ?_))))))
            refine AL.go (AO.storeBA rfl rfl rfl rfl ?_)
            refine AL.nil (AK.seqN (AC.ret ?_))
            first | have hN := found_next hv h0 h3 hr hql hoq c87 | have hN := none_next hv h0 h3 hr (fun j hj => hoq j hj (by omega))
            rw [hN] at h
            first | exact AK.retV (rs := [.cell 4 _]) (L' := L) (F' := F) Tryz.results10 (.agg (j := 2) rfl rfl rfl .nil) (by repeat (first | exact Sub.refl _ _ | refine Sub.trans Sub.drop ?_ | refine Sub.trans Sub.dropF ?_)) h | exact AK.retV (rs := [.cell 4 _]) (L' := L) (F' := F) Tryz.results10 (.agg (j := 1) rfl rfl rfl .nil) (by repeat (first | exact Sub.refl _ _ | refine Sub.trans Sub.drop ?_ | refine Sub.trans Sub.dropF ?_)) h
        · refine AL.go (AO.pickT rfl rfl rfl (AL.nil (AK.seqN (AC.condF rfl (AC.skip (AK.seqN ?_))))))
          refine AC.seq (AC.seq (AC.region ?_))
          first | rw [candA c17 c21] | rw [candC1 c38 c48] | rw [candC2 c35 c42 c48] | rw [candE1 c35 c38 c42 hg.1 c69] | rw [candB c17 c21] | rw [candD1 c38 c48] | rw [candD2 c35 c42 c48] | rw [candE2 c35 c38 c42 hg.1 c69]
          refine AL.go (AO.move rfl rfl ?_)
          refine AT.sub (Sub.commit (i := 0) rfl) ?_
          refine AL.go (AO.len rfl rfl (fun hl79 => ?_) (hm := by repeat (first | exact mem0 | assumption | refine memS ?_)))
          refine AL.go (AO.move rfl rfl (AL.nil (AK.seqN (AC.block ?_))))
          first
          | refine AC.loopC (fun (q : Nat) => q ≤ (candS v k).length ∧ ∀ j (hj : j < (candS v k).length), j < q → ¬ suitsP (candS v k)[j] v k) (fun q => [(1, .int .i64 k), (2, .pointer (some ⟨b2, 0, none⟩)), (4, .pointer (some ⟨b4, 0, none⟩)), (78, .slice a33 k33 z33), (79, .int .i64 (candS v k).length), (80, .int .i64 (q : Int))]) (fun q => (candS v k).length - q) 0 ⟨by omega, by omega⟩ (by repeat (first | exact SubR.nil | refine SubR.cons rfl ?_)) ?_
          | refine AC.loopC (fun (q : Nat) => q ≤ (candS v k).length ∧ ∀ j (hj : j < (candS v k).length), j < q → ¬ suitsP (candS v k)[j] v k) (fun q => [(1, .int .i64 k), (2, .pointer (some ⟨b2, 0, none⟩)), (4, .pointer (some ⟨b4, 0, none⟩)), (78, .slice a58 k58 z58), (79, .int .i64 (candS v k).length), (80, .int .i64 (q : Int))]) (fun q => (candS v k).length - q) 0 ⟨by omega, by omega⟩ (by repeat (first | exact SubR.nil | refine SubR.cons rfl ?_)) ?_
          | refine AC.loopC (fun (q : Nat) => q ≤ (candS v k).length ∧ ∀ j (hj : j < (candS v k).length), j < q → ¬ suitsP (candS v k)[j] v k) (fun q => [(1, .int .i64 k), (2, .pointer (some ⟨b2, 0, none⟩)), (4, .pointer (some ⟨b4, 0, none⟩)), (78, .slice a77 k77 z77), (79, .int .i64 (candS v k).length), (80, .int .i64 (q : Int))]) (fun q => (candS v k).length - q) 0 ⟨by omega, by omega⟩ (by repeat (first | exact SubR.nil | refine SubR.cons rfl ?_)) ?_
          | refine AC.loopC (fun (q : Nat) => q ≤ (candS v k).length ∧ ∀ j (hj : j < (candS v k).length), j < q → ¬ suitsP (candS v k)[j] v k) (fun q => [(1, .int .i64 k), (2, .pointer (some ⟨b2, 0, none⟩)), (4, .pointer (some ⟨b4, 0, none⟩)), (78, .slice (some ⟨b15, 0, none⟩) 1 1), (79, .int .i64 (candS v k).length), (80, .int .i64 (q : Int))]) (fun q => (candS v k).length - q) 0 ⟨by omega, by omega⟩ (by repeat (first | exact SubR.nil | refine SubR.cons rfl ?_)) ?_
          rintro q ⟨hq, hoq⟩
          refine AC.seq (AC.region ?_)
          refine AL.go (AO.lss rfl rfl rfl (fun c81 => ?_) (fun c81 => ?_))
          · refine AL.nil (AK.seqN (AC.seq (AC.condT rfl (AC.skip (AK.seqN ?_)))))
            refine AC.seq (AC.block (AC.seq (AC.region ?_)))
            have hql : q < (candS v k).length := by omega
            refine AL.go (AO.indexAddr rfl rfl rfl rfl (by repeat (first | exact mem0 | assumption | refine memS ?_)) hql (fun _ _ => ?_))
            refine AL.go (AO.loadFA rfl rfl ?_)
            intros
            refine AL.go (AO.alloc rfl (fun b7 => ?_))
            refine AL.go (AO.storeBA rfl rfl rfl rfl ?_)
            refine AL.nil (AK.seqN (AC.seq (AC.region ?_)))
            refine AL.go (AO.loadBA rfl rfl ?_)
            refine AL.go (AO.loadBA rfl rfl ?_)
            refine AL.go (AO.move rfl rfl ?_)
            refine AL.go (AO.call rfl rfl (rsuits_c (candS v k)[q].1 (candS v k)[q].2.1 (candS v k)[q].2.2 v k (cand_ok hv hql) hv (by repeat (first | exact mem0 | assumption | refine memS ?_)) (by repeat (first | exact mem0 | assumption | refine memS ?_)) (fun c87 => ?_) (fun c87 => ?_)))
            · refine AL.nil (AK.seqN (AC.condT rfl (AC.seq (AC.region ?_))))
              refine AL.go (AO.loadBA rfl rfl ?_)
              refine AL.go (AO.build rfl rfl rfl ?_)
              refine AL.go (AO.storeBA rfl rfl rfl rfl ?_)
              refine AL.nil (AK.seqN (AC.ret (AK.blkR (AK.seqR (AK.seqR ?_)))))
              refine AK.blkR (AK.seqR ?_)
              first | have hN := found_next hv h0 h3 hr hql hoq c87 | have hN := none_next hv h0 h3 hr (fun j hj => hoq j hj (by omega))
              rw [hN] at h
              first | exact AK.retV (rs := [.cell 4 _]) (L' := L) (F' := F) Tryz.results10 (.agg (j := 2) rfl rfl rfl .nil) (by repeat (first | exact Sub.refl _ _ | refine Sub.trans Sub.drop ?_ | refine Sub.trans Sub.dropF ?_)) h | exact AK.retV (rs := [.cell 4 _]) (L' := L) (F' := F) Tryz.results10 (.agg (j := 1) rfl rfl rfl .nil) (by repeat (first | exact Sub.refl _ _ | refine Sub.trans Sub.drop ?_ | refine Sub.trans Sub.dropF ?_)) h
            · refine AL.nil (AK.seqN (AC.condF rfl (AC.skip (AK.blkN (AK.seqN ?_)))))
              refine AC.region (AL.go (AO.add rfl rfl rfl (by omega) (by omega) (AL.go (AO.move rfl rfl (AL.nil ?_)))))
              refine AK.next (q + 1) ⟨by omega, step_ok (p := fun x => ¬ suitsP x v k) hoq hql c87⟩ (by omega) (by repeat (first | exact SubR.nil | refine SubR.cons rfl ?_)) (Sub.drop.trans (by repeat (first | exact Sub.refl _ _ | refine Sub.trans Sub.dropF ?_)))
          · refine AL.nil (AK.seqN (AC.seq (AC.condF rfl (AC.exit (AK.seqX ?_)))))
            refine AK.seqX (AK.blkX (AK.seqN (AC.seq (AC.region (AL.go (AO.build rfl rfl rfl ?_))))))
            refine AL.go (AO.storeBA rfl rfl rfl rfl ?_)
            refine AL.nil (AK.seqN (AC.ret ?_))
            first | have hN := found_next hv h0 h3 hr hql hoq c87 | have hN := none_next hv h0 h3 hr (fun j hj => hoq j hj (by omega))
            rw [hN] at h
            first | exact AK.retV (rs := [.cell 4 _]) (L' := L) (F' := F) Tryz.results10 (.agg (j := 2) rfl rfl rfl .nil) (by repeat (first | exact Sub.refl _ _ | refine Sub.trans Sub.drop ?_ | refine Sub.trans Sub.dropF ?_)) h | exact AK.retV (rs := [.cell 4 _]) (L' := L) (F' := F) Tryz.results10 (.agg (j := 1) rfl rfl rfl .nil) (by repeat (first | exact Sub.refl _ _ | refine Sub.trans Sub.drop ?_ | refine Sub.trans Sub.dropF ?_)) h
end
end Go.Sy
