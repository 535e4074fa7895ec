/- The statement on chains: the walk. -/
import Derived.Test.YtnbpkaffomklpaaDoorSemQ
import Derived.Test.YtnbpkaffomklpaaDoorFwI
namespace Go.Sy
open Go Go.Proofs Go.RowKit

/-- What Cmp tells: which is ahead, and the error. -/
def cmpR (v u : Ver) : Int × Int := if (rightV v && rightV u) = true then (Lib.compareInt (cmpV v u) 0, 0) else (0, 1)
theorem cmpR_no {v u : Ver} (h : (rightV v && rightV u) = false) : cmpR v u = (0, 1) := by rw [cmpR, if_neg (by simp only [h]; decide)]
theorem cmpR_yes {v u : Ver} (h1 : rightV v = true) (h2 : rightV u = true) : cmpR v u = (Lib.compareInt (cmpV v u) 0, 0) := by rw [cmpR, if_pos (by rw [h1, h2]; rfl)]
theorem cmpR_err (v u : Ver) : (cmpR v u).2 = (cmpR u v).2 := by
  unfold cmpR; rw [Bool.and_comm]; split <;> rfl
theorem sign_anti (n : Int) : Lib.compareInt (-n) 0 = -Lib.compareInt n 0 := by
  unfold Lib.compareInt; repeat' split
  all_goals omega
theorem sign_le (n : Int) : Lib.compareInt n 0 ≤ 0 ↔ n ≤ 0 := by
  unfold Lib.compareInt; repeat' split
  all_goals omega
theorem sign_zero (n : Int) : Lib.compareInt n 0 = 0 ↔ n = 0 := by
  unfold Lib.compareInt; repeat' split
  all_goals omega
theorem sign_range (n : Int) : -1 ≤ Lib.compareInt n 0 ∧ Lib.compareInt n 0 ≤ 1 := by
  unfold Lib.compareInt; repeat' split
  all_goals omega
theorem cmpR_anti (v u : Ver) : (cmpR v u).1 = -(cmpR u v).1 := by
  unfold cmpR; rw [Bool.and_comm]
  split
  · show Lib.compareInt (cmpV v u) 0 = -Lib.compareInt (cmpV u v) 0
    rw [cmV.anti u v, sign_anti]
  · rfl
theorem cmpR_range (v u : Ver) : -1 ≤ (cmpR v u).1 ∧ (cmpR v u).1 ≤ 1 := by
  unfold cmpR; split
  · exact sign_range _
  · decide
theorem cmpR_ok {v u : Ver} (h : (cmpR v u).2 = 0) : (cmpR v u).1 = Lib.compareInt (cmpV v u) 0 := by
  unfold cmpR at h ⊢; split
  · rfl
  · rename_i k; rw [if_neg k] at h; simp at h
theorem cmpR_chain {a b c : Ver} (e1 : (cmpR a b).2 = 0) (e2 : (cmpR b c).2 = 0) (e3 : (cmpR a c).2 = 0) (h1 : (cmpR a b).1 ≤ 0) (h2 : (cmpR b c).1 ≤ 0) : (cmpR a c).1 ≤ 0 ∧ (((cmpR a b).1 = 0 ∧ (cmpR b c).1 = 0) ↔ (cmpR a c).1 = 0) := by
  rw [cmpR_ok e1] at h1 ⊢
  rw [cmpR_ok e2] at h2 ⊢
  rw [cmpR_ok e3]
  rw [sign_le] at h1 h2 ⊢
  rw [sign_zero, sign_zero, sign_zero]
  exact ⟨cmV.tr a b c h1 h2, cmV.zero h1 h2⟩

theorem few_sml (l : List (List UInt8)) : Sml (fewL l) := by
  intro s hs
  simp only [fewL, List.mem_map] at hs
  obtain ⟨t, _, rfl⟩ := hs
  simp [few1]; omega
theorem few_ok {v : Ver} (h : VerIn v) : VerOk (fewV v) := ⟨few_sml _, few_sml _, h.r1, h.r2, h.r3⟩

attribute [local irreducible] AC AT AO AK AH ACalls Sub Res.cells Res.obj Res.nix Res.own Exit.then Exit.inBlock bodyPost Code.wp Next Post Kont
section
variable {W0 : World} {L : List Res} {F : List Fact} {R : Value → List Res → List Fact → Prop}
set_option maxRecDepth 100000
set_option maxHeartbeats 4000000
theorem cmp2_c (v u : Ver) (hv : VerOk v) (hu : VerOk u) {a1 a2 a3 a4 : Option Addr} {k1 c1 k2 c2 k3 c3 k4 c4 : Nat} (m1 : fS v.pre a1 k1 c1 ∈ F) (m2 : fS v.build a2 k2 c2 ∈ F) (m3 : fS u.pre a3 k3 c3 ∈ F) (m4 : fS u.build a4 k4 c4 ∈ F)
    (h : R (.tuple #[.int .i64 (cmpR v u).1, .int .i64 (cmpR v u).2]) L F) :
    ACalls Tryd.prog W0 15 #[vVer v a1 k1 c1 a2 k2 c2, vVer u a3 k3 c3 a4 k4 c4] L F R :=
  cmp_c v u hv hu m1 m2 m3 m4 (fun e => by rw [cmpR_no e] at h; exact h) (fun e1 e2 => by rw [cmpR_yes e1 e2] at h; exact h)
theorem chain_c (g : Glob W0) (a b c : Ver) (ha : VerIn a) (hb : VerIn b) (hc : VerIn c) {a1 a2 a3 a4 a5 a6 : Option Addr} {k1 c1 k2 c2 k3 c3 k4 c4 k5 c5 k6 c6 : Nat} (m1 : fS a.pre a1 k1 c1 ∈ F) (m2 : fS a.build a2 k2 c2 ∈ F) (m3 : fS b.pre a3 k3 c3 ∈ F) (m4 : fS b.build a4 k4 c4 ∈ F) (m5 : fS c.pre a5 k5 c5 ∈ F) (m6 : fS c.build a6 k6 c6 ∈ F)
    (h : R (.bool true) L F) : ACalls Tryd.prog W0 6 #[vVer a a1 k1 c1 a2 k2 c2, vVer b a3 k3 c3 a4 k4 c4, vVer c a5 k5 c5 a6 k6 c6] L F R := by
  have oa := few_ok ha
  have ob := few_ok hb
  have oc := few_ok hc
  refine ACalls.body Tryd.func6 rfl Tryd.ntmps6 rfl ?_
  refine AC.seq (AC.region (AL.go (AO.box rfl rfl (fun b3 => ?_))))
  refine AL.go (AO.box rfl rfl (fun b4 => ?_))
  refine AL.go (AO.box rfl rfl (fun b5 => ?_))
  refine AL.go (AO.assign rfl rfl (AL.nil (AK.seqN (AC.seq ?_))))
  refine AC.drawM [([(b3, _, _)], fun j => Nat.beq j 6 || (Nat.beq j 7 || Nat.beq j 8)), ([(b4, _, _)], fun j => Nat.beq j 7 || Nat.beq j 8), ([(b5, _, _)], fun j => Nat.beq j 8)] (.cons (by repeat (first | exact BxIn.nil | refine BxIn.cons (by repeat (first | exact has0 | apply hasS)) ?_)) (.cons (by repeat (first | exact BxIn.nil | refine BxIn.cons (by repeat (first | exact has0 | apply hasS)) ?_)) (.cons (by repeat (first | exact BxIn.nil | refine BxIn.cons (by repeat (first | exact has0 | apply hasS)) ?_)) .nil))) rfl (fun hx hX => ?_)
  refine AJ.takeS (i := 0) (.head _) rfl (Y.loadBA rfl (.head _) (by rfl)) (by kernel_rfl) (by kernel_rfl) rfl rfl rfl ?_
  refine AJ.takeS (i := 2) (.tail _ (.head _)) rfl (Y.loadBA rfl (.head _) (by rfl)) (by kernel_rfl) (by kernel_rfl) rfl rfl rfl ?_
  refine AJ.takeS (i := 4) (.tail _ (.tail _ (.head _))) rfl (Y.loadBA rfl (.head _) (by rfl)) (by kernel_rfl) (by kernel_rfl) rfl rfl rfl ?_
  refine AJ.ups (is := [1]) (by kernel_rfl) (by simp) (Ups.cons rfl rfl (fun _ => ?_) Ups.nil)
  refine AO.call rfl rfl (few_c a (by repeat (first | exact mem0 | assumption | refine memS ?_)) (by repeat (first | exact mem0 | assumption | refine memS ?_)) (fun p1 q1 r1 p2 q2 r2 => ?_))
  refine AT.go (.held (by repeat (first | exact BxIn.nil | refine BxIn.cons (by repeat (first | exact has0 | apply hasS)) ?_)) (.held (by repeat (first | exact BxIn.nil | refine BxIn.cons (by repeat (first | exact has0 | apply hasS)) ?_)) (.held (by repeat (first | exact BxIn.nil | refine BxIn.cons (by repeat (first | exact has0 | apply hasS)) ?_)) .nil))) (by repeat (first | exact mem0 | assumption | refine memS ?_)) ?_
  refine AJ.ups (is := [3]) (by kernel_rfl) (by simp) (Ups.cons rfl rfl (fun _ => ?_) Ups.nil)
  refine AO.call rfl rfl (few_c b (by repeat (first | exact mem0 | assumption | refine memS ?_)) (by repeat (first | exact mem0 | assumption | refine memS ?_)) (fun p3 q3 r3 p4 q4 r4 => ?_))
  refine AT.go (.held (by repeat (first | exact BxIn.nil | refine BxIn.cons (by repeat (first | exact has0 | apply hasS)) ?_)) (.held (by repeat (first | exact BxIn.nil | refine BxIn.cons (by repeat (first | exact has0 | apply hasS)) ?_)) (.held (by repeat (first | exact BxIn.nil | refine BxIn.cons (by repeat (first | exact has0 | apply hasS)) ?_)) .nil))) (by repeat (first | exact mem0 | assumption | refine memS ?_)) ?_
  refine AJ.ups (is := [5]) (by kernel_rfl) (by simp) (Ups.cons rfl rfl (fun _ => ?_) Ups.nil)
  refine AO.call rfl rfl (few_c c (by repeat (first | exact mem0 | assumption | refine memS ?_)) (by repeat (first | exact mem0 | assumption | refine memS ?_)) (fun p5 q5 r5 p6 q6 r6 => ?_))
  refine AT.go (.held (by repeat (first | exact BxIn.nil | refine BxIn.cons (by repeat (first | exact has0 | apply hasS)) ?_)) (.held (by repeat (first | exact BxIn.nil | refine BxIn.cons (by repeat (first | exact has0 | apply hasS)) ?_)) (.held (by repeat (first | exact BxIn.nil | refine BxIn.cons (by repeat (first | exact has0 | apply hasS)) ?_)) .nil))) (by repeat (first | exact mem0 | assumption | refine memS ?_)) ?_
  refine AJ.ups (is := [6]) (by kernel_rfl) (by simp) (Ups.cons rfl rfl (fun _ => ?_) Ups.nil)
  refine AO.storeBA rfl rfl rfl rfl ?_
  refine AT.go (.spoil rfl (.held (by repeat (first | exact BxIn.nil | refine BxIn.cons (by repeat (first | exact has0 | apply hasS)) ?_)) (.held (by repeat (first | exact BxIn.nil | refine BxIn.cons (by repeat (first | exact has0 | apply hasS)) ?_)) .nil))) (by repeat (first | exact mem0 | assumption | refine memS ?_)) ?_
  refine AJ.ups (is := [7]) (by kernel_rfl) (by simp) (Ups.cons rfl rfl (fun _ => ?_) Ups.nil)
  refine AO.storeBA rfl rfl rfl rfl ?_
  refine AT.go (.spoil rfl (.spoil rfl (.held (by repeat (first | exact BxIn.nil | refine BxIn.cons (by repeat (first | exact has0 | apply hasS)) ?_)) .nil))) (by repeat (first | exact mem0 | assumption | refine memS ?_)) ?_
  refine AJ.ups (is := [8]) (by kernel_rfl) (by simp) (Ups.cons rfl rfl (fun _ => ?_) Ups.nil)
  refine AO.storeBA rfl rfl rfl rfl ?_
  refine AT.go (.spoil rfl (.spoil rfl (.spoil rfl .nil))) (by repeat (first | exact mem0 | assumption | refine memS ?_)) ?_
  refine AJ.done (by kernel_rfl) ?_
  refine AK.seqN (AC.seq (AC.region ?_))
  refine AL.go (AO.loadBA rfl rfl ?_)
  refine AL.go (AO.loadBA rfl rfl ?_)
  refine AL.go (AO.call rfl rfl (cmp2_c (fewV a) (fewV b) oa ob (by repeat (first | exact mem0 | assumption | refine memS ?_)) (by repeat (first | exact mem0 | assumption | refine memS ?_)) (by repeat (first | exact mem0 | assumption | refine memS ?_)) (by repeat (first | exact mem0 | assumption | refine memS ?_)) ?_))
  refine AL.go (AO.move rfl rfl (AL.go (AO.extract rfl rfl rfl (AL.go (AO.extract rfl rfl rfl (AL.go (AO.assign rfl rfl (AL.go (AO.assign rfl rfl (AL.nil ?_))))))))))
  refine AK.seqN (AC.seq (AC.region ?_))
  refine AL.go (AO.loadBA rfl rfl ?_)
  refine AL.go (AO.loadBA rfl rfl ?_)
  refine AL.go (AO.call rfl rfl (cmp2_c (fewV b) (fewV a) ob oa (by repeat (first | exact mem0 | assumption | refine memS ?_)) (by repeat (first | exact mem0 | assumption | refine memS ?_)) (by repeat (first | exact mem0 | assumption | refine memS ?_)) (by repeat (first | exact mem0 | assumption | refine memS ?_)) ?_))
  refine AL.go (AO.move rfl rfl (AL.go (AO.extract rfl rfl rfl (AL.go (AO.extract rfl rfl rfl (AL.go (AO.assign rfl rfl (AL.go (AO.assign rfl rfl (AL.nil ?_))))))))))
  refine AK.seqN (AC.seq (AC.region ?_))
  refine AL.go (AO.loadBA rfl rfl ?_)
  refine AL.go (AO.loadBA rfl rfl ?_)
  refine AL.go (AO.call rfl rfl (cmp2_c (fewV b) (fewV c) ob oc (by repeat (first | exact mem0 | assumption | refine memS ?_)) (by repeat (first | exact mem0 | assumption | refine memS ?_)) (by repeat (first | exact mem0 | assumption | refine memS ?_)) (by repeat (first | exact mem0 | assumption | refine memS ?_)) ?_))
  refine AL.go (AO.move rfl rfl (AL.go (AO.extract rfl rfl rfl (AL.go (AO.extract rfl rfl rfl (AL.go (AO.assign rfl rfl (AL.go (AO.assign rfl rfl (AL.nil ?_))))))))))
  refine AK.seqN (AC.seq (AC.region ?_))
  refine AL.go (AO.loadBA rfl rfl ?_)
  refine AL.go (AO.loadBA rfl rfl ?_)
  refine AL.go (AO.call rfl rfl (cmp2_c (fewV a) (fewV c) oa oc (by repeat (first | exact mem0 | assumption | refine memS ?_)) (by repeat (first | exact mem0 | assumption | refine memS ?_)) (by repeat (first | exact mem0 | assumption | refine memS ?_)) (by repeat (first | exact mem0 | assumption | refine memS ?_)) ?_))
  refine AL.go (AO.move rfl rfl (AL.go (AO.extract rfl rfl rfl (AL.go (AO.extract rfl rfl rfl (AL.go (AO.assign rfl rfl (AL.go (AO.assign rfl rfl (AL.nil ?_))))))))))
  refine AK.seqN (AC.seq (AC.seq (AC.region (AL.go (AO.move rfl rfl (AL.go (AO.move rfl rfl ?_)))))))
  have hE := cmpR_err (fewV a) (fewV b)
  refine AL.go (AO.neq rfl rfl rfl (fun c47 => absurd hE c47) (fun c47 => ?_))
  refine AL.go (AO.move rfl rfl (AL.yes rfl rfl (AO.move rfl rfl ?_)))
  refine AL.yes rfl rfl (AO.eql rfl rfl rfl (fun c50 => ?_) (fun c50 => ?_))
  · refine AL.yes rfl rfl (AO.move rfl rfl (AL.yes rfl rfl (AO.move rfl rfl (AL.yes rfl rfl (AO.move rfl rfl ?_)))))
    have hN := cmpR_anti (fewV a) (fewV b)
    have hN2 := cmpR_range (fewV b) (fewV a)
    refine AL.yes rfl rfl (AO.neg rfl rfl (by omega) (by omega) ?_)
    refine AL.yes rfl rfl (AO.neq rfl rfl rfl (fun c55 => absurd hN c55) (fun c55 => ?_))
    refine AL.yes rfl rfl (AO.pickT rfl rfl rfl (AL.go (AO.pickF rfl rfl rfl (AL.nil (AK.seqN (AC.condF rfl (AC.skip ?_)))))))
    refine AK.seqN (AC.seq (AC.seq (AC.region (AL.go (AO.move rfl rfl ?_)))))
    refine AL.go (AO.neq rfl rfl rfl (fun c59 => ?_) (fun c59 => ?_))
    · refine AL.go (AO.move rfl rfl (AL.no rfl rfl rfl rfl (AL.no rfl rfl rfl rfl (AL.go (AO.pickT rfl rfl rfl (AL.go (AO.move rfl rfl (AL.no rfl rfl rfl rfl ?_))))))))
      refine AL.no rfl rfl rfl rfl (AL.go (AO.pickT rfl rfl rfl (AL.nil (AK.seqN (AC.condT rfl (AC.seq ?_))))))
      refine AC.region ?_
      refine AL.go (AO.call rfl rfl (alive_c g ?_))
      refine AL.go (AO.assign rfl rfl (AL.nil (AK.seqN (AC.ret (AK.seqR ?_)))))
      first | exact AK.ret (L' := L) (F' := F) Tryd.results6 rfl (by repeat (first | exact Sub.refl _ _ | refine Sub.trans Sub.drop ?_ | refine Sub.trans Sub.dropF ?_)) h | (exfalso; have hC := cmpR_chain (a := fewV a) (b := fewV b) (c := fewV c) (by omega) (by omega) (by omega) (by omega) (by omega); omega)
    · refine AL.go (AO.move rfl rfl (AL.yes rfl rfl (AO.move rfl rfl ?_)))
      refine AL.yes rfl rfl (AO.neq rfl rfl rfl (fun c62 => ?_) (fun c62 => ?_))
      · refine AL.go (AO.pickF rfl rfl rfl (AL.go (AO.move rfl rfl (AL.no rfl rfl rfl rfl (AL.no rfl rfl rfl rfl (AL.go (AO.pickT rfl rfl rfl (AL.nil ?_))))))))
        refine AK.seqN (AC.condT rfl (AC.seq (AC.region ?_)))
        refine AL.go (AO.call rfl rfl (alive_c g ?_))
        refine AL.go (AO.assign rfl rfl (AL.nil (AK.seqN (AC.ret (AK.seqR ?_)))))
        first | exact AK.ret (L' := L) (F' := F) Tryd.results6 rfl (by repeat (first | exact Sub.refl _ _ | refine Sub.trans Sub.drop ?_ | refine Sub.trans Sub.dropF ?_)) h | (exfalso; have hC := cmpR_chain (a := fewV a) (b := fewV b) (c := fewV c) (by omega) (by omega) (by omega) (by omega) (by omega); omega)
      · refine AL.go (AO.pickF rfl rfl rfl (AL.go (AO.move rfl rfl (AL.yes rfl rfl (AO.move rfl rfl ?_)))))
        refine AL.yes rfl rfl (AO.neq rfl rfl rfl (fun c66 => ?_) (fun c66 => ?_))
        · refine AL.go (AO.pickF rfl rfl rfl (AL.nil (AK.seqN (AC.condT rfl (AC.seq (AC.region ?_))))))
          refine AL.go (AO.call rfl rfl (alive_c g ?_))
          refine AL.go (AO.assign rfl rfl (AL.nil (AK.seqN (AC.ret (AK.seqR ?_)))))
          first | exact AK.ret (L' := L) (F' := F) Tryd.results6 rfl (by repeat (first | exact Sub.refl _ _ | refine Sub.trans Sub.drop ?_ | refine Sub.trans Sub.dropF ?_)) h | (exfalso; have hC := cmpR_chain (a := fewV a) (b := fewV b) (c := fewV c) (by omega) (by omega) (by omega) (by omega) (by omega); omega)
        · refine AL.go (AO.pickF rfl rfl rfl (AL.nil (AK.seqN (AC.condF rfl (AC.skip (AK.seqN ?_))))))
          refine AC.seq (AC.region ?_)
          refine AL.go (AO.call rfl rfl (alive_c g ?_))
          refine AL.go (AO.move rfl rfl (AL.yes rfl rfl (AO.move rfl rfl ?_)))
          refine AL.yes rfl rfl (AO.gtr rfl rfl rfl (fun c72 => ?_) (fun c72 => ?_))
          · refine AL.yes rfl rfl (AO.move rfl rfl (AL.no rfl rfl rfl rfl (AL.no rfl rfl rfl rfl (AL.yes rfl rfl (AO.pickT rfl rfl rfl (AL.yes rfl rfl (AO.move rfl rfl (AL.no rfl rfl rfl rfl ?_))))))))
            refine AL.no rfl rfl rfl rfl (AL.no rfl rfl rfl rfl (AL.no rfl rfl rfl rfl (AL.no rfl rfl rfl rfl (AL.no rfl rfl rfl rfl (AL.no rfl rfl rfl rfl ?_)))))
            refine AL.no rfl rfl rfl rfl (AL.no rfl rfl rfl rfl (AL.no rfl rfl rfl rfl (AL.no rfl rfl rfl rfl (AL.no rfl rfl rfl rfl (AL.no rfl rfl rfl rfl ?_)))))
            refine AL.yes rfl rfl (AO.pickT rfl rfl rfl (AL.go (AO.pickT rfl rfl rfl (AL.go (AO.assign rfl rfl (AL.nil (AK.seqN (AC.ret ?_))))))))
            first | exact AK.ret (L' := L) (F' := F) Tryd.results6 rfl (by repeat (first | exact Sub.refl _ _ | refine Sub.trans Sub.drop ?_ | refine Sub.trans Sub.dropF ?_)) h | (exfalso; have hC := cmpR_chain (a := fewV a) (b := fewV b) (c := fewV c) (by omega) (by omega) (by omega) (by omega) (by omega); omega)
          · refine AL.yes rfl rfl (AO.move rfl rfl (AL.yes rfl rfl (AO.move rfl rfl ?_)))
            refine AL.yes rfl rfl (AO.gtr rfl rfl rfl (fun c75 => ?_) (fun c75 => ?_))
            · refine AL.yes rfl rfl (AO.pickF rfl rfl rfl (AL.yes rfl rfl (AO.move rfl rfl (AL.no rfl rfl rfl rfl (AL.no rfl rfl rfl rfl (AL.no rfl rfl rfl rfl (AL.no rfl rfl rfl rfl ?_)))))))
              refine AL.no rfl rfl rfl rfl (AL.no rfl rfl rfl rfl (AL.no rfl rfl rfl rfl (AL.no rfl rfl rfl rfl (AL.no rfl rfl rfl rfl (AL.no rfl rfl rfl rfl ?_)))))
              refine AL.no rfl rfl rfl rfl (AL.no rfl rfl rfl rfl (AL.no rfl rfl rfl rfl (AL.yes rfl rfl (AO.pickT rfl rfl rfl (AL.go (AO.pickT rfl rfl rfl (AL.go (AO.assign rfl rfl ?_))))))))
              refine AL.nil (AK.seqN (AC.ret ?_))
              first | exact AK.ret (L' := L) (F' := F) Tryd.results6 rfl (by repeat (first | exact Sub.refl _ _ | refine Sub.trans Sub.drop ?_ | refine Sub.trans Sub.dropF ?_)) h | (exfalso; have hC := cmpR_chain (a := fewV a) (b := fewV b) (c := fewV c) (by omega) (by omega) (by omega) (by omega) (by omega); omega)
            · refine AL.yes rfl rfl (AO.pickF rfl rfl rfl (AL.yes rfl rfl (AO.move rfl rfl (AL.yes rfl rfl (AO.move rfl rfl ?_)))))
              refine AL.yes rfl rfl (AO.leq rfl rfl rfl (fun c79 => ?_) (fun c79 => ?_))
              · refine AL.yes rfl rfl (AO.move rfl rfl (AL.yes rfl rfl (AO.move rfl rfl ?_)))
                refine AL.yes rfl rfl (AO.eql rfl rfl rfl (fun c82 => ?_) (fun c82 => ?_))
                · refine AL.yes rfl rfl (AO.move rfl rfl (AL.yes rfl rfl (AO.move rfl rfl ?_)))
                  refine AL.yes rfl rfl (AO.eql rfl rfl rfl (fun c85 => ?_) (fun c85 => ?_))
                  · refine AL.yes rfl rfl (AO.pickT rfl rfl rfl (AL.yes rfl rfl (AO.move rfl rfl ?_)))
                    refine AL.yes rfl rfl (AO.eql rfl rfl rfl (fun c88 => ?_) (fun c88 => ?_))
                    · refine AL.yes rfl rfl (AO.eqlB rfl rfl rfl (AL.yes rfl rfl (AO.pickT rfl rfl rfl (AL.yes rfl rfl (AO.pickF rfl rfl rfl (AL.go (AO.pickT rfl rfl rfl (AL.go (AO.assign rfl rfl (AL.nil ?_))))))))))
                      refine AK.seqN (AC.ret ?_)
                      first | exact AK.ret (L' := L) (F' := F) Tryd.results6 rfl (by repeat (first | exact Sub.refl _ _ | refine Sub.trans Sub.drop ?_ | refine Sub.trans Sub.dropF ?_)) h | (exfalso; have hC := cmpR_chain (a := fewV a) (b := fewV b) (c := fewV c) (by omega) (by omega) (by omega) (by omega) (by omega); omega)
                    · refine AL.yes rfl rfl (AO.eqlB rfl rfl rfl (AL.yes rfl rfl (AO.pickT rfl rfl rfl (AL.yes rfl rfl (AO.pickF rfl rfl rfl (AL.go (AO.pickT rfl rfl rfl (AL.go (AO.assign rfl rfl (AL.nil ?_))))))))))
                      refine AK.seqN (AC.ret ?_)
                      first | exact AK.ret (L' := L) (F' := F) Tryd.results6 rfl (by repeat (first | exact Sub.refl _ _ | refine Sub.trans Sub.drop ?_ | refine Sub.trans Sub.dropF ?_)) h | (exfalso; have hC := cmpR_chain (a := fewV a) (b := fewV b) (c := fewV c) (by omega) (by omega) (by omega) (by omega) (by omega); omega)
                  · refine AL.yes rfl rfl (AO.pickT rfl rfl rfl (AL.yes rfl rfl (AO.move rfl rfl ?_)))
                    refine AL.yes rfl rfl (AO.eql rfl rfl rfl (fun c88 => ?_) (fun c88 => ?_))
                    · refine AL.yes rfl rfl (AO.eqlB rfl rfl rfl (AL.yes rfl rfl (AO.pickT rfl rfl rfl (AL.yes rfl rfl (AO.pickF rfl rfl rfl (AL.go (AO.pickT rfl rfl rfl (AL.go (AO.assign rfl rfl (AL.nil ?_))))))))))
                      refine AK.seqN (AC.ret ?_)
                      first | exact AK.ret (L' := L) (F' := F) Tryd.results6 rfl (by repeat (first | exact Sub.refl _ _ | refine Sub.trans Sub.drop ?_ | refine Sub.trans Sub.dropF ?_)) h | (exfalso; have hC := cmpR_chain (a := fewV a) (b := fewV b) (c := fewV c) (by omega) (by omega) (by omega) (by omega) (by omega); omega)
                    · refine AL.yes rfl rfl (AO.eqlB rfl rfl rfl (AL.yes rfl rfl (AO.pickT rfl rfl rfl (AL.yes rfl rfl (AO.pickF rfl rfl rfl (AL.go (AO.pickT rfl rfl rfl (AL.go (AO.assign rfl rfl (AL.nil ?_))))))))))
                      refine AK.seqN (AC.ret ?_)
                      first | exact AK.ret (L' := L) (F' := F) Tryd.results6 rfl (by repeat (first | exact Sub.refl _ _ | refine Sub.trans Sub.drop ?_ | refine Sub.trans Sub.dropF ?_)) h | (exfalso; have hC := cmpR_chain (a := fewV a) (b := fewV b) (c := fewV c) (by omega) (by omega) (by omega) (by omega) (by omega); omega)
                · refine AL.yes rfl rfl (AO.move rfl rfl (AL.no rfl rfl rfl rfl (AL.no rfl rfl rfl rfl (AL.yes rfl rfl (AO.pickF rfl rfl rfl (AL.yes rfl rfl (AO.move rfl rfl ?_)))))))
                  refine AL.yes rfl rfl (AO.eql rfl rfl rfl (fun c88 => ?_) (fun c88 => ?_))
                  · refine AL.yes rfl rfl (AO.eqlB rfl rfl rfl (AL.yes rfl rfl (AO.pickT rfl rfl rfl (AL.yes rfl rfl (AO.pickF rfl rfl rfl (AL.go (AO.pickT rfl rfl rfl (AL.go (AO.assign rfl rfl (AL.nil ?_))))))))))
                    refine AK.seqN (AC.ret ?_)
                    first | exact AK.ret (L' := L) (F' := F) Tryd.results6 rfl (by repeat (first | exact Sub.refl _ _ | refine Sub.trans Sub.drop ?_ | refine Sub.trans Sub.dropF ?_)) h | (exfalso; have hC := cmpR_chain (a := fewV a) (b := fewV b) (c := fewV c) (by omega) (by omega) (by omega) (by omega) (by omega); omega)
                  · refine AL.yes rfl rfl (AO.eqlB rfl rfl rfl (AL.yes rfl rfl (AO.pickT rfl rfl rfl (AL.yes rfl rfl (AO.pickF rfl rfl rfl (AL.go (AO.pickT rfl rfl rfl (AL.go (AO.assign rfl rfl (AL.nil ?_))))))))))
                    refine AK.seqN (AC.ret ?_)
                    first | exact AK.ret (L' := L) (F' := F) Tryd.results6 rfl (by repeat (first | exact Sub.refl _ _ | refine Sub.trans Sub.drop ?_ | refine Sub.trans Sub.dropF ?_)) h | (exfalso; have hC := cmpR_chain (a := fewV a) (b := fewV b) (c := fewV c) (by omega) (by omega) (by omega) (by omega) (by omega); omega)
              · refine AL.yes rfl rfl (AO.move rfl rfl (AL.no rfl rfl rfl rfl (AL.no rfl rfl rfl rfl (AL.no rfl rfl rfl rfl (AL.no rfl rfl rfl rfl (AL.no rfl rfl rfl rfl ?_))))))
                refine AL.no rfl rfl rfl rfl (AL.no rfl rfl rfl rfl (AL.no rfl rfl rfl rfl (AL.no rfl rfl rfl rfl (AL.yes rfl rfl (AO.pickF rfl rfl rfl (AL.yes rfl rfl (AO.pickF rfl rfl rfl ?_)))))))
                refine AL.go (AO.pickT rfl rfl rfl (AL.go (AO.assign rfl rfl (AL.nil (AK.seqN (AC.ret ?_))))))
                first | exact AK.ret (L' := L) (F' := F) Tryd.results6 rfl (by repeat (first | exact Sub.refl _ _ | refine Sub.trans Sub.drop ?_ | refine Sub.trans Sub.dropF ?_)) h | (exfalso; have hC := cmpR_chain (a := fewV a) (b := fewV b) (c := fewV c) (by omega) (by omega) (by omega) (by omega) (by omega); omega)
  · refine AL.yes rfl rfl (AO.move rfl rfl (AL.no rfl rfl rfl rfl (AL.no rfl rfl rfl rfl (AL.no rfl rfl rfl rfl (AL.no rfl rfl rfl rfl (AL.yes rfl rfl (AO.pickF rfl rfl rfl ?_)))))))
    refine AL.go (AO.pickF rfl rfl rfl (AL.nil (AK.seqN (AC.condF rfl (AC.skip (AK.seqN ?_))))))
    refine AC.seq (AC.seq (AC.region (AL.go (AO.move rfl rfl ?_))))
    refine AL.go (AO.neq rfl rfl rfl (fun c59 => ?_) (fun c59 => ?_))
    · refine AL.go (AO.move rfl rfl (AL.no rfl rfl rfl rfl (AL.no rfl rfl rfl rfl (AL.go (AO.pickT rfl rfl rfl (AL.go (AO.move rfl rfl (AL.no rfl rfl rfl rfl ?_))))))))
      refine AL.no rfl rfl rfl rfl (AL.go (AO.pickT rfl rfl rfl (AL.nil (AK.seqN (AC.condT rfl (AC.seq ?_))))))
      refine AC.region ?_
      refine AL.go (AO.call rfl rfl (alive_c g ?_))
      refine AL.go (AO.assign rfl rfl (AL.nil (AK.seqN (AC.ret (AK.seqR ?_)))))
      first | exact AK.ret (L' := L) (F' := F) Tryd.results6 rfl (by repeat (first | exact Sub.refl _ _ | refine Sub.trans Sub.drop ?_ | refine Sub.trans Sub.dropF ?_)) h | (exfalso; have hC := cmpR_chain (a := fewV a) (b := fewV b) (c := fewV c) (by omega) (by omega) (by omega) (by omega) (by omega); omega)
    · refine AL.go (AO.move rfl rfl (AL.yes rfl rfl (AO.move rfl rfl ?_)))
      refine AL.yes rfl rfl (AO.neq rfl rfl rfl (fun c62 => ?_) (fun c62 => ?_))
      · refine AL.go (AO.pickF rfl rfl rfl (AL.go (AO.move rfl rfl (AL.no rfl rfl rfl rfl (AL.no rfl rfl rfl rfl (AL.go (AO.pickT rfl rfl rfl (AL.nil ?_))))))))
        refine AK.seqN (AC.condT rfl (AC.seq (AC.region ?_)))
        refine AL.go (AO.call rfl rfl (alive_c g ?_))
        refine AL.go (AO.assign rfl rfl (AL.nil (AK.seqN (AC.ret (AK.seqR ?_)))))
        first | exact AK.ret (L' := L) (F' := F) Tryd.results6 rfl (by repeat (first | exact Sub.refl _ _ | refine Sub.trans Sub.drop ?_ | refine Sub.trans Sub.dropF ?_)) h | (exfalso; have hC := cmpR_chain (a := fewV a) (b := fewV b) (c := fewV c) (by omega) (by omega) (by omega) (by omega) (by omega); omega)
      · refine AL.go (AO.pickF rfl rfl rfl (AL.go (AO.move rfl rfl (AL.yes rfl rfl (AO.move rfl rfl ?_)))))
        refine AL.yes rfl rfl (AO.neq rfl rfl rfl (fun c66 => ?_) (fun c66 => ?_))
        · refine AL.go (AO.pickF rfl rfl rfl (AL.nil (AK.seqN (AC.condT rfl (AC.seq (AC.region ?_))))))
          refine AL.go (AO.call rfl rfl (alive_c g ?_))
          refine AL.go (AO.assign rfl rfl (AL.nil (AK.seqN (AC.ret (AK.seqR ?_)))))
          first | exact AK.ret (L' := L) (F' := F) Tryd.results6 rfl (by repeat (first | exact Sub.refl _ _ | refine Sub.trans Sub.drop ?_ | refine Sub.trans Sub.dropF ?_)) h | (exfalso; have hC := cmpR_chain (a := fewV a) (b := fewV b) (c := fewV c) (by omega) (by omega) (by omega) (by omega) (by omega); omega)
        · refine AL.go (AO.pickF rfl rfl rfl (AL.nil (AK.seqN (AC.condF rfl (AC.skip (AK.seqN ?_))))))
          refine AC.seq (AC.region ?_)
          refine AL.go (AO.call rfl rfl (alive_c g ?_))
          refine AL.go (AO.move rfl rfl (AL.yes rfl rfl (AO.move rfl rfl ?_)))
          refine AL.yes rfl rfl (AO.gtr rfl rfl rfl (fun c72 => ?_) (fun c72 => ?_))
          · refine AL.yes rfl rfl (AO.move rfl rfl (AL.no rfl rfl rfl rfl (AL.no rfl rfl rfl rfl (AL.yes rfl rfl (AO.pickT rfl rfl rfl (AL.yes rfl rfl (AO.move rfl rfl (AL.no rfl rfl rfl rfl ?_))))))))
            refine AL.no rfl rfl rfl rfl (AL.no rfl rfl rfl rfl (AL.no rfl rfl rfl rfl (AL.no rfl rfl rfl rfl (AL.no rfl rfl rfl rfl (AL.no rfl rfl rfl rfl ?_)))))
            refine AL.no rfl rfl rfl rfl (AL.no rfl rfl rfl rfl (AL.no rfl rfl rfl rfl (AL.no rfl rfl rfl rfl (AL.no rfl rfl rfl rfl (AL.no rfl rfl rfl rfl ?_)))))
            refine AL.yes rfl rfl (AO.pickT rfl rfl rfl (AL.go (AO.pickT rfl rfl rfl (AL.go (AO.assign rfl rfl (AL.nil (AK.seqN (AC.ret ?_))))))))
            first | exact AK.ret (L' := L) (F' := F) Tryd.results6 rfl (by repeat (first | exact Sub.refl _ _ | refine Sub.trans Sub.drop ?_ | refine Sub.trans Sub.dropF ?_)) h | (exfalso; have hC := cmpR_chain (a := fewV a) (b := fewV b) (c := fewV c) (by omega) (by omega) (by omega) (by omega) (by omega); omega)
          · refine AL.yes rfl rfl (AO.move rfl rfl (AL.yes rfl rfl (AO.move rfl rfl ?_)))
            refine AL.yes rfl rfl (AO.gtr rfl rfl rfl (fun c75 => ?_) (fun c75 => ?_))
            · refine AL.yes rfl rfl (AO.pickF rfl rfl rfl (AL.yes rfl rfl (AO.move rfl rfl (AL.no rfl rfl rfl rfl (AL.no rfl rfl rfl rfl (AL.no rfl rfl rfl rfl (AL.no rfl rfl rfl rfl ?_)))))))
              refine AL.no rfl rfl rfl rfl (AL.no rfl rfl rfl rfl (AL.no rfl rfl rfl rfl (AL.no rfl rfl rfl rfl (AL.no rfl rfl rfl rfl (AL.no rfl rfl rfl rfl ?_)))))
              refine AL.no rfl rfl rfl rfl (AL.no rfl rfl rfl rfl (AL.no rfl rfl rfl rfl (AL.yes rfl rfl (AO.pickT rfl rfl rfl (AL.go (AO.pickT rfl rfl rfl (AL.go (AO.assign rfl rfl ?_))))))))
              refine AL.nil (AK.seqN (AC.ret ?_))
              first | exact AK.ret (L' := L) (F' := F) Tryd.results6 rfl (by repeat (first | exact Sub.refl _ _ | refine Sub.trans Sub.drop ?_ | refine Sub.trans Sub.dropF ?_)) h | (exfalso; have hC := cmpR_chain (a := fewV a) (b := fewV b) (c := fewV c) (by omega) (by omega) (by omega) (by omega) (by omega); omega)
            · refine AL.yes rfl rfl (AO.pickF rfl rfl rfl (AL.yes rfl rfl (AO.move rfl rfl (AL.yes rfl rfl (AO.move rfl rfl ?_)))))
              refine AL.yes rfl rfl (AO.leq rfl rfl rfl (fun c79 => ?_) (fun c79 => ?_))
              · refine AL.yes rfl rfl (AO.move rfl rfl (AL.yes rfl rfl (AO.move rfl rfl ?_)))
                refine AL.yes rfl rfl (AO.eql rfl rfl rfl (fun c82 => ?_) (fun c82 => ?_))
                · refine AL.yes rfl rfl (AO.move rfl rfl (AL.yes rfl rfl (AO.move rfl rfl ?_)))
                  refine AL.yes rfl rfl (AO.eql rfl rfl rfl (fun c85 => ?_) (fun c85 => ?_))
                  · refine AL.yes rfl rfl (AO.pickT rfl rfl rfl (AL.yes rfl rfl (AO.move rfl rfl ?_)))
                    refine AL.yes rfl rfl (AO.eql rfl rfl rfl (fun c88 => ?_) (fun c88 => ?_))
                    · refine AL.yes rfl rfl (AO.eqlB rfl rfl rfl (AL.yes rfl rfl (AO.pickT rfl rfl rfl (AL.yes rfl rfl (AO.pickF rfl rfl rfl (AL.go (AO.pickT rfl rfl rfl (AL.go (AO.assign rfl rfl (AL.nil ?_))))))))))
                      refine AK.seqN (AC.ret ?_)
                      first | exact AK.ret (L' := L) (F' := F) Tryd.results6 rfl (by repeat (first | exact Sub.refl _ _ | refine Sub.trans Sub.drop ?_ | refine Sub.trans Sub.dropF ?_)) h | (exfalso; have hC := cmpR_chain (a := fewV a) (b := fewV b) (c := fewV c) (by omega) (by omega) (by omega) (by omega) (by omega); omega)
                    · refine AL.yes rfl rfl (AO.eqlB rfl rfl rfl (AL.yes rfl rfl (AO.pickT rfl rfl rfl (AL.yes rfl rfl (AO.pickF rfl rfl rfl (AL.go (AO.pickT rfl rfl rfl (AL.go (AO.assign rfl rfl (AL.nil ?_))))))))))
                      refine AK.seqN (AC.ret ?_)
                      first | exact AK.ret (L' := L) (F' := F) Tryd.results6 rfl (by repeat (first | exact Sub.refl _ _ | refine Sub.trans Sub.drop ?_ | refine Sub.trans Sub.dropF ?_)) h | (exfalso; have hC := cmpR_chain (a := fewV a) (b := fewV b) (c := fewV c) (by omega) (by omega) (by omega) (by omega) (by omega); omega)
                  · refine AL.yes rfl rfl (AO.pickT rfl rfl rfl (AL.yes rfl rfl (AO.move rfl rfl ?_)))
                    refine AL.yes rfl rfl (AO.eql rfl rfl rfl (fun c88 => ?_) (fun c88 => ?_))
                    · refine AL.yes rfl rfl (AO.eqlB rfl rfl rfl (AL.yes rfl rfl (AO.pickT rfl rfl rfl (AL.yes rfl rfl (AO.pickF rfl rfl rfl (AL.go (AO.pickT rfl rfl rfl (AL.go (AO.assign rfl rfl (AL.nil ?_))))))))))
                      refine AK.seqN (AC.ret ?_)
                      first | exact AK.ret (L' := L) (F' := F) Tryd.results6 rfl (by repeat (first | exact Sub.refl _ _ | refine Sub.trans Sub.drop ?_ | refine Sub.trans Sub.dropF ?_)) h | (exfalso; have hC := cmpR_chain (a := fewV a) (b := fewV b) (c := fewV c) (by omega) (by omega) (by omega) (by omega) (by omega); omega)
                    · refine AL.yes rfl rfl (AO.eqlB rfl rfl rfl (AL.yes rfl rfl (AO.pickT rfl rfl rfl (AL.yes rfl rfl (AO.pickF rfl rfl rfl (AL.go (AO.pickT rfl rfl rfl (AL.go (AO.assign rfl rfl (AL.nil ?_))))))))))
                      refine AK.seqN (AC.ret ?_)
                      first | exact AK.ret (L' := L) (F' := F) Tryd.results6 rfl (by repeat (first | exact Sub.refl _ _ | refine Sub.trans Sub.drop ?_ | refine Sub.trans Sub.dropF ?_)) h | (exfalso; have hC := cmpR_chain (a := fewV a) (b := fewV b) (c := fewV c) (by omega) (by omega) (by omega) (by omega) (by omega); omega)
                · refine AL.yes rfl rfl (AO.move rfl rfl (AL.no rfl rfl rfl rfl (AL.no rfl rfl rfl rfl (AL.yes rfl rfl (AO.pickF rfl rfl rfl (AL.yes rfl rfl (AO.move rfl rfl ?_)))))))
                  refine AL.yes rfl rfl (AO.eql rfl rfl rfl (fun c88 => ?_) (fun c88 => ?_))
                  · refine AL.yes rfl rfl (AO.eqlB rfl rfl rfl (AL.yes rfl rfl (AO.pickT rfl rfl rfl (AL.yes rfl rfl (AO.pickF rfl rfl rfl (AL.go (AO.pickT rfl rfl rfl (AL.go (AO.assign rfl rfl (AL.nil ?_))))))))))
                    refine AK.seqN (AC.ret ?_)
                    first | exact AK.ret (L' := L) (F' := F) Tryd.results6 rfl (by repeat (first | exact Sub.refl _ _ | refine Sub.trans Sub.drop ?_ | refine Sub.trans Sub.dropF ?_)) h | (exfalso; have hC := cmpR_chain (a := fewV a) (b := fewV b) (c := fewV c) (by omega) (by omega) (by omega) (by omega) (by omega); omega)
                  · refine AL.yes rfl rfl (AO.eqlB rfl rfl rfl (AL.yes rfl rfl (AO.pickT rfl rfl rfl (AL.yes rfl rfl (AO.pickF rfl rfl rfl (AL.go (AO.pickT rfl rfl rfl (AL.go (AO.assign rfl rfl (AL.nil ?_))))))))))
                    refine AK.seqN (AC.ret ?_)
                    first | exact AK.ret (L' := L) (F' := F) Tryd.results6 rfl (by repeat (first | exact Sub.refl _ _ | refine Sub.trans Sub.drop ?_ | refine Sub.trans Sub.dropF ?_)) h | (exfalso; have hC := cmpR_chain (a := fewV a) (b := fewV b) (c := fewV c) (by omega) (by omega) (by omega) (by omega) (by omega); omega)
              · refine AL.yes rfl rfl (AO.move rfl rfl (AL.no rfl rfl rfl rfl (AL.no rfl rfl rfl rfl (AL.no rfl rfl rfl rfl (AL.no rfl rfl rfl rfl (AL.no rfl rfl rfl rfl ?_))))))
                refine AL.no rfl rfl rfl rfl (AL.no rfl rfl rfl rfl (AL.no rfl rfl rfl rfl (AL.no rfl rfl rfl rfl (AL.yes rfl rfl (AO.pickF rfl rfl rfl (AL.yes rfl rfl (AO.pickF rfl rfl rfl ?_)))))))
                refine AL.go (AO.pickT rfl rfl rfl (AL.go (AO.assign rfl rfl (AL.nil (AK.seqN (AC.ret ?_))))))
                first | exact AK.ret (L' := L) (F' := F) Tryd.results6 rfl (by repeat (first | exact Sub.refl _ _ | refine Sub.trans Sub.drop ?_ | refine Sub.trans Sub.dropF ?_)) h | (exfalso; have hC := cmpR_chain (a := fewV a) (b := fewV b) (c := fewV c) (by omega) (by omega) (by omega) (by omega) (by omega); omega)
end
end Go.Sy
