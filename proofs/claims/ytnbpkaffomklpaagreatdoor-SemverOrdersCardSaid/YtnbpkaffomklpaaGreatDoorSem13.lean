/- The statement on which versions may be, which two are the same, texts, and which is ahead: the walk. -/
import Derived.Test.YtnbpkaffomklpaaGreatDoorRefC
import Derived.Test.YtnbpkaffomklpaaGreatDoorFwN
namespace Go.Sy
open Go Go.Proofs Go.RowKit

theorem cmpL_range : ∀ l m : List (List UInt8), -1 ≤ cmpL l m ∧ cmpL l m ≤ 1
  | [], [] => by decide
  | [], _ :: _ => by simp [cmpL]
  | _ :: _, [] => by simp [cmpL]
  | x :: l, y :: m => by
    have ih := cmpL_range l m
    have hS : ∀ a b : List UInt8, -1 ≤ cmpS a b ∧ cmpS a b ≤ 1 := by
      intro a b; unfold cmpS; repeat' split
      all_goals omega
    have hL : -1 ≤ lowerS x y ∧ lowerS x y ≤ 1 := by
      by_cases h : (x.length : Int) = y.length
      · rw [lower_eq h]; exact hS _ _
      · rw [lower_ne h]; exact cI_range _ _
    have hA : -1 ≤ aheadS x y ∧ aheadS x y ≤ 1 := by
      have := hS x y
      unfold aheadS; repeat' split
      all_goals omega
    simp only [cmpL]
    split <;> assumption
theorem cmpV_range (v u : Ver) : -1 ≤ cmpV v u ∧ cmpV v u ≤ 1 := by
  have h1 := cI_range v.major u.major
  have h2 := cI_range v.minor u.minor
  have h3 := cI_range v.patch u.patch
  have h4 := cI_range u.pre.length v.pre.length
  have h5 := cmpL_range v.pre u.pre
  unfold cmpV
  rw [first3]
  repeat' split
  all_goals omega
theorem sign_self {n : Int} (h : -1 ≤ n ∧ n ≤ 1) : Lib.compareInt n 0 = n := by
  unfold Lib.compareInt; repeat' split
  all_goals omega

attribute [local irreducible] AC AT AO AK AH ACalls Sub Res.cells Res.obj Res.nix Res.own Exit.then Exit.inBlock bodyPost Code.wp Next Post Kont
section
variable {W0 : World} {L : List Res} {F : List Fact} {R : Value → List Res → List Fact → Prop}
set_option maxRecDepth 100000
set_option maxHeartbeats 4000000
theorem orders_c (g : Glob W0) (a b : Ver) (ha : VerIn a) (hb : VerIn b) {a1 a2 a3 a4 : Option Addr} {k1 c1 k2 c2 k3 c3 k4 c4 : Nat} (m1 : fS a.pre a1 k1 c1 ∈ F) (m2 : fS a.build a2 k2 c2 ∈ F) (m3 : fS b.pre a3 k3 c3 ∈ F) (m4 : fS b.build a4 k4 c4 ∈ F)
    (h : R (.bool true) L F) : ACalls Tryz.prog W0 4 #[vVer a a1 k1 c1 a2 k2 c2, vVer b a3 k3 c3 a4 k4 c4] L F R := by
  have oa := few_ok ha
  have ob := few_ok hb
  refine ACalls.body Tryz.func4 rfl Tryz.ntmps4 rfl ?_
  refine AC.seq (AC.region (AL.go (AO.box rfl rfl (fun b2 => ?_))))
  refine AL.go (AO.box rfl rfl (fun b3 => ?_))
  refine AL.go (AO.assign rfl rfl (AL.nil (AK.seqN (AC.seq ?_))))
  refine AC.drawM [([(b2, _, _)], fun j => Nat.beq j 4 || Nat.beq j 5), ([(b3, _, _)], fun j => Nat.beq j 5)] (.cons (by repeat (first | exact BxIn.nil | refine BxIn.cons (by repeat (first | exact has0 | apply hasS)) ?_)) (.cons (by repeat (first | exact BxIn.nil | refine BxIn.cons (by repeat (first | exact has0 | apply hasS)) ?_)) .nil)) rfl (fun hx hX => ?_)
  refine AJ.takeS (i := 0) (.head _) rfl (Y.loadBA rfl (.head _) (by rfl)) (by kernel_rfl) (by kernel_rfl) rfl rfl rfl ?_
  refine AJ.takeS (i := 2) (.tail _ (.head _)) rfl (Y.loadBA rfl (.head _) (by rfl)) (by kernel_rfl) (by kernel_rfl) rfl rfl rfl ?_
  refine AJ.ups (is := [1]) (by kernel_rfl) (by simp) (Ups.cons rfl rfl (fun _ => ?_) Ups.nil)
  refine AO.call rfl rfl (few_c a (by repeat (first | exact mem0 | assumption | refine memS ?_)) (by repeat (first | exact mem0 | assumption | refine memS ?_)) (fun p1 q1 r1 p2 q2 r2 => ?_))
  refine AT.go (.held (by repeat (first | exact BxIn.nil | refine BxIn.cons (by repeat (first | exact has0 | apply hasS)) ?_)) (.held (by repeat (first | exact BxIn.nil | refine BxIn.cons (by repeat (first | exact has0 | apply hasS)) ?_)) .nil)) (by repeat (first | exact mem0 | assumption | refine memS ?_)) ?_
  refine AJ.ups (is := [3]) (by kernel_rfl) (by simp) (Ups.cons rfl rfl (fun _ => ?_) Ups.nil)
  refine AO.call rfl rfl (few_c b (by repeat (first | exact mem0 | assumption | refine memS ?_)) (by repeat (first | exact mem0 | assumption | refine memS ?_)) (fun p3 q3 r3 p4 q4 r4 => ?_))
  refine AT.go (.held (by repeat (first | exact BxIn.nil | refine BxIn.cons (by repeat (first | exact has0 | apply hasS)) ?_)) (.held (by repeat (first | exact BxIn.nil | refine BxIn.cons (by repeat (first | exact has0 | apply hasS)) ?_)) .nil)) (by repeat (first | exact mem0 | assumption | refine memS ?_)) ?_
  refine AJ.ups (is := [4]) (by kernel_rfl) (by simp) (Ups.cons rfl rfl (fun _ => ?_) Ups.nil)
  refine AO.storeBA rfl rfl rfl rfl ?_
  refine AT.go (.spoil rfl (.held (by repeat (first | exact BxIn.nil | refine BxIn.cons (by repeat (first | exact has0 | apply hasS)) ?_)) .nil)) (by repeat (first | exact mem0 | assumption | refine memS ?_)) ?_
  refine AJ.ups (is := [5]) (by kernel_rfl) (by simp) (Ups.cons rfl rfl (fun _ => ?_) Ups.nil)
  refine AO.storeBA rfl rfl rfl rfl ?_
  refine AT.go (.spoil rfl (.spoil rfl .nil)) (by repeat (first | exact mem0 | assumption | refine memS ?_)) ?_
  refine AJ.done (by kernel_rfl) ?_
  refine AK.seqN (AC.seq (AC.region ?_))
  refine AL.go (AO.loadBA rfl rfl ?_)
  refine AL.go (AO.call rfl rfl (text_c g (fewV a) oa (by repeat (first | exact mem0 | assumption | refine memS ?_)) (by repeat (first | exact mem0 | assumption | refine memS ?_)) (fun c15 => ?_) (fun c15 => ?_)))
  · refine AL.go (AO.move rfl rfl (AL.go (AO.extract rfl rfl rfl (AL.go (AO.extract rfl rfl rfl (AL.go (AO.assign rfl rfl (AL.go (AO.assign rfl rfl (AL.nil ?_))))))))))
    refine AK.seqN (AC.seq (AC.region ?_))
    refine AL.go (AO.loadBA rfl rfl ?_)
    refine AL.go (AO.loadBA rfl rfl ?_)
    refine AL.go (AO.call rfl rfl (cmp2_c (fewV a) (fewV b) oa ob (by repeat (first | exact mem0 | assumption | refine memS ?_)) (by repeat (first | exact mem0 | assumption | refine memS ?_)) (by repeat (first | exact mem0 | assumption | refine memS ?_)) (by repeat (first | exact mem0 | assumption | refine memS ?_)) ?_))
    rw [cmpR_no (v := fewV a) (u := fewV b) (by rw [c15]; rfl)]
    refine AL.go (AO.move rfl rfl (AL.go (AO.extract rfl rfl rfl (AL.go (AO.extract rfl rfl rfl (AL.go (AO.assign rfl rfl (AL.go (AO.assign rfl rfl (AL.nil ?_))))))))))
    refine AK.seqN (AC.seq (AC.seq ?_))
    refine AC.draw (fun _ => false) [(b2, _, _), (b3, _, _)] (by repeat (first | exact BxIn.nil | refine BxIn.cons (by repeat (first | exact has0 | apply hasS)) ?_)) rfl (fun hx hX => ?_)
    refine AH.takeS (i := 0) rfl (Y.loadBA rfl (by repeat (first | exact List.Mem.head _ | refine List.Mem.tail _ ?_)) (by rfl)) (by kernel_rfl) (by kernel_rfl) rfl rfl rfl ?_
    refine AH.takeS (i := 2) rfl (Y.loadBA rfl (by repeat (first | exact List.Mem.head _ | refine List.Mem.tail _ ?_)) (by rfl)) (by kernel_rfl) (by kernel_rfl) rfl rfl rfl ?_
    refine AH.one (i := 1) (by kernel_rfl) rfl rfl (fun _ => ?_)
    refine AO.call rfl rfl (right_c (fewV a) oa (by repeat (first | exact mem0 | assumption | refine memS ?_)) (by repeat (first | exact mem0 | assumption | refine memS ?_)) (fun c25 => absurd c25 (by rw [c15]; decide)) (fun c25 => ?_))
    refine AT.held (by repeat (first | exact BxIn.nil | refine BxIn.cons (by repeat (first | exact has0 | apply hasS)) ?_)) (by repeat (first | exact mem0 | refine memS ?_)) ?_
    refine AH.one (i := 3) (by kernel_rfl) rfl rfl (fun _ => ?_)
    refine AO.call rfl rfl (rright_c (fewV a) oa (by repeat (first | exact mem0 | assumption | refine memS ?_)) (by repeat (first | exact mem0 | assumption | refine memS ?_)) (fun c27 => absurd c27 (by rw [c15]; decide)) (fun c27 => ?_))
    refine AT.held (by repeat (first | exact BxIn.nil | refine BxIn.cons (by repeat (first | exact has0 | apply hasS)) ?_)) (by repeat (first | exact mem0 | refine memS ?_)) ?_
    refine AH.one (i := 4) (by kernel_rfl) rfl rfl (fun _ => ?_)
    refine AO.neqB rfl rfl rfl ?_
    refine AT.held (by repeat (first | exact BxIn.nil | refine BxIn.cons (by repeat (first | exact has0 | apply hasS)) ?_)) (by repeat (first | exact mem0 | refine memS ?_)) ?_
    refine AH.takeW (i := 5) rfl (Y.move rfl) (by kernel_rfl) rfl rfl ?_
    refine AH.takeS (i := 6) rfl (Y.loadBA rfl (by repeat (first | exact List.Mem.head _ | refine List.Mem.tail _ ?_)) (by rfl)) (by kernel_rfl) (by kernel_rfl) rfl rfl rfl ?_
    refine AH.takeS (i := 7) rfl (Y.loadBA rfl (by repeat (first | exact List.Mem.head _ | refine List.Mem.tail _ ?_)) (by rfl)) (by kernel_rfl) (by kernel_rfl) rfl rfl rfl ?_
    refine AH.takeS (i := 9) rfl (Y.loadBA rfl (by repeat (first | exact List.Mem.head _ | refine List.Mem.tail _ ?_)) (by rfl)) (by kernel_rfl) (by kernel_rfl) rfl rfl rfl ?_
    refine AH.takeS (i := 10) rfl (Y.loadBA rfl (by repeat (first | exact List.Mem.head _ | refine List.Mem.tail _ ?_)) (by rfl)) (by kernel_rfl) (by kernel_rfl) rfl rfl rfl ?_
    refine AH.one (i := 8) (by kernel_rfl) rfl rfl (fun _ => ?_)
    refine AO.call rfl rfl (like_c (fewV a) (fewV b) (by repeat (first | exact mem0 | assumption | refine memS ?_)) (by repeat (first | exact mem0 | assumption | refine memS ?_)) (by repeat (first | exact mem0 | assumption | refine memS ?_)) (by repeat (first | exact mem0 | assumption | refine memS ?_)) (fun c32 => ?_) (fun c32 => ?_))
    all_goals refine AT.held (by repeat (first | exact BxIn.nil | refine BxIn.cons (by repeat (first | exact has0 | apply hasS)) ?_)) (by repeat (first | exact mem0 | refine memS ?_)) ?_
    · refine AH.one (i := 11) (by kernel_rfl) rfl rfl (fun _ => ?_)
      refine AO.call rfl rfl (rlike_c (fewV a) (fewV b) (by repeat (first | exact mem0 | assumption | refine memS ?_)) (by repeat (first | exact mem0 | assumption | refine memS ?_)) (by repeat (first | exact mem0 | assumption | refine memS ?_)) (by repeat (first | exact mem0 | assumption | refine memS ?_)) (fun c35 => ?_) (fun c35 => absurd c32 c35))
      refine AT.held (by repeat (first | exact BxIn.nil | refine BxIn.cons (by repeat (first | exact has0 | apply hasS)) ?_)) (by repeat (first | exact mem0 | refine memS ?_)) ?_
      refine AH.one (i := 12) (by kernel_rfl) rfl rfl (fun _ => ?_)
      refine AO.neqB rfl rfl rfl ?_
      refine AT.held (by repeat (first | exact BxIn.nil | refine BxIn.cons (by repeat (first | exact has0 | apply hasS)) ?_)) (by repeat (first | exact mem0 | refine memS ?_)) ?_
      refine AH.takeW (i := 13) rfl (Y.pickF rfl rfl) (by kernel_rfl) rfl rfl ?_
      refine AH.takeW (i := 14) rfl (Y.move rfl) (by kernel_rfl) rfl rfl ?_
      refine AH.takeS (i := 15) rfl (Y.loadBA rfl (by repeat (first | exact List.Mem.head _ | refine List.Mem.tail _ ?_)) (by rfl)) (by kernel_rfl) (by kernel_rfl) rfl rfl rfl ?_
      refine AH.takeS (i := 16) rfl (Y.loadBA rfl (by repeat (first | exact List.Mem.head _ | refine List.Mem.tail _ ?_)) (by rfl)) (by kernel_rfl) (by kernel_rfl) rfl rfl rfl ?_
      refine AH.one (i := 17) (by kernel_rfl) rfl rfl (fun _ => ?_)
      refine AO.call rfl rfl (like_c (fewV a) (fewV a) (by repeat (first | exact mem0 | assumption | refine memS ?_)) (by repeat (first | exact mem0 | assumption | refine memS ?_)) (by repeat (first | exact mem0 | assumption | refine memS ?_)) (by repeat (first | exact mem0 | assumption | refine memS ?_)) (fun c41 => ?_) (fun c41 => absurd rfl c41))
      refine AT.held (by repeat (first | exact BxIn.nil | refine BxIn.cons (by repeat (first | exact has0 | apply hasS)) ?_)) (by repeat (first | exact mem0 | refine memS ?_)) ?_
      refine AH.takeW (i := 18) rfl (Y.not rfl) (by kernel_rfl) rfl rfl ?_
      refine AH.takeW (i := 19) rfl (Y.pickF rfl rfl) (by kernel_rfl) rfl rfl ?_
      refine AH.takeW (i := 20) rfl (Y.move rfl) (by kernel_rfl) rfl rfl ?_
      refine AH.one (i := 21) (by kernel_rfl) rfl rfl (fun _ => ?_)
      refine AO.call rfl rfl (alive_c g ?_)
      refine AT.held (by repeat (first | exact BxIn.nil | refine BxIn.cons (by repeat (first | exact has0 | apply hasS)) ?_)) (by repeat (first | exact mem0 | refine memS ?_)) ?_
      refine AH.takeW (i := 22) rfl (Y.not rfl) (by kernel_rfl) rfl rfl ?_
      refine AH.takeW (i := 23) rfl (Y.pickF rfl rfl) (by kernel_rfl) rfl rfl ?_
      refine AH.done (by kernel_rfl) ?_
      refine AK.seqN (AC.condF rfl (AC.skip (AK.seqN (AC.seq (AC.seq ?_)))))
      refine AC.region ?_
      refine AL.go (AO.loadBA rfl rfl ?_)
      refine AL.go (AO.call rfl rfl (rright_c (fewV a) oa (by repeat (first | exact mem0 | assumption | refine memS ?_)) (by repeat (first | exact mem0 | assumption | refine memS ?_)) (fun c49 => absurd c49 (by rw [c15]; decide)) (fun c49 => ?_)))
      refine AL.go (AO.not rfl rfl (AL.nil (AK.seqN (AC.condT rfl (AC.seq (AC.region ?_))))))
      refine AL.go (AO.move rfl rfl ?_)
      refine AL.go (AO.eql rfl rfl rfl (fun c52 => ?_) (fun c52 => absurd rfl c52))
      refine AL.go (AO.move rfl rfl (AL.yes rfl rfl (AO.move rfl rfl ?_)))
      refine AL.yes rfl rfl (AO.eql rfl rfl rfl (fun c55 => ?_) (fun c55 => absurd rfl c55))
      refine AL.go (AO.pickT rfl rfl rfl (AL.go (AO.move rfl rfl (AL.yes rfl rfl (AO.move rfl rfl ?_)))))
      refine AL.yes rfl rfl (AO.eqlS rfl rfl rfl (fun c59 => ?_) (fun c59 => absurd rfl c59))
      refine AL.go (AO.pickT rfl rfl rfl (AL.go (AO.move rfl rfl (AL.yes rfl rfl (AO.move rfl rfl ?_)))))
      refine AL.yes rfl rfl (AO.eql rfl rfl rfl (fun c63 => ?_) (fun c63 => absurd rfl c63))
      refine AL.go (AO.pickT rfl rfl rfl (AL.go (AO.assign rfl rfl (AL.nil (AK.seqN (AC.ret (AK.seqR ?_)))))))
      exact AK.ret (L' := L) (F' := F) Tryz.results4 rfl (by repeat (first | exact Sub.refl _ _ | refine Sub.trans Sub.drop ?_ | refine Sub.trans Sub.dropF ?_)) h
    · refine AH.one (i := 11) (by kernel_rfl) rfl rfl (fun _ => ?_)
      refine AO.call rfl rfl (rlike_c (fewV a) (fewV b) (by repeat (first | exact mem0 | assumption | refine memS ?_)) (by repeat (first | exact mem0 | assumption | refine memS ?_)) (by repeat (first | exact mem0 | assumption | refine memS ?_)) (by repeat (first | exact mem0 | assumption | refine memS ?_)) (fun c35 => absurd c35 c32) (fun c35 => ?_))
      refine AT.held (by repeat (first | exact BxIn.nil | refine BxIn.cons (by repeat (first | exact has0 | apply hasS)) ?_)) (by repeat (first | exact mem0 | refine memS ?_)) ?_
      refine AH.one (i := 12) (by kernel_rfl) rfl rfl (fun _ => ?_)
      refine AO.neqB rfl rfl rfl ?_
      refine AT.held (by repeat (first | exact BxIn.nil | refine BxIn.cons (by repeat (first | exact has0 | apply hasS)) ?_)) (by repeat (first | exact mem0 | refine memS ?_)) ?_
      refine AH.takeW (i := 13) rfl (Y.pickF rfl rfl) (by kernel_rfl) rfl rfl ?_
      refine AH.takeW (i := 14) rfl (Y.move rfl) (by kernel_rfl) rfl rfl ?_
      refine AH.takeS (i := 15) rfl (Y.loadBA rfl (by repeat (first | exact List.Mem.head _ | refine List.Mem.tail _ ?_)) (by rfl)) (by kernel_rfl) (by kernel_rfl) rfl rfl rfl ?_
      refine AH.takeS (i := 16) rfl (Y.loadBA rfl (by repeat (first | exact List.Mem.head _ | refine List.Mem.tail _ ?_)) (by rfl)) (by kernel_rfl) (by kernel_rfl) rfl rfl rfl ?_
      refine AH.one (i := 17) (by kernel_rfl) rfl rfl (fun _ => ?_)
      refine AO.call rfl rfl (like_c (fewV a) (fewV a) (by repeat (first | exact mem0 | assumption | refine memS ?_)) (by repeat (first | exact mem0 | assumption | refine memS ?_)) (by repeat (first | exact mem0 | assumption | refine memS ?_)) (by repeat (first | exact mem0 | assumption | refine memS ?_)) (fun c41 => ?_) (fun c41 => absurd rfl c41))
      refine AT.held (by repeat (first | exact BxIn.nil | refine BxIn.cons (by repeat (first | exact has0 | apply hasS)) ?_)) (by repeat (first | exact mem0 | refine memS ?_)) ?_
      refine AH.takeW (i := 18) rfl (Y.not rfl) (by kernel_rfl) rfl rfl ?_
      refine AH.takeW (i := 19) rfl (Y.pickF rfl rfl) (by kernel_rfl) rfl rfl ?_
      refine AH.takeW (i := 20) rfl (Y.move rfl) (by kernel_rfl) rfl rfl ?_
      refine AH.one (i := 21) (by kernel_rfl) rfl rfl (fun _ => ?_)
      refine AO.call rfl rfl (alive_c g ?_)
      refine AT.held (by repeat (first | exact BxIn.nil | refine BxIn.cons (by repeat (first | exact has0 | apply hasS)) ?_)) (by repeat (first | exact mem0 | refine memS ?_)) ?_
      refine AH.takeW (i := 22) rfl (Y.not rfl) (by kernel_rfl) rfl rfl ?_
      refine AH.takeW (i := 23) rfl (Y.pickF rfl rfl) (by kernel_rfl) rfl rfl ?_
      refine AH.done (by kernel_rfl) ?_
      refine AK.seqN (AC.condF rfl (AC.skip (AK.seqN (AC.seq (AC.seq ?_)))))
      refine AC.region ?_
      refine AL.go (AO.loadBA rfl rfl ?_)
      refine AL.go (AO.call rfl rfl (rright_c (fewV a) oa (by repeat (first | exact mem0 | assumption | refine memS ?_)) (by repeat (first | exact mem0 | assumption | refine memS ?_)) (fun c49 => absurd c49 (by rw [c15]; decide)) (fun c49 => ?_)))
      refine AL.go (AO.not rfl rfl (AL.nil (AK.seqN (AC.condT rfl (AC.seq (AC.region ?_))))))
      refine AL.go (AO.move rfl rfl ?_)
      refine AL.go (AO.eql rfl rfl rfl (fun c52 => ?_) (fun c52 => absurd rfl c52))
      refine AL.go (AO.move rfl rfl (AL.yes rfl rfl (AO.move rfl rfl ?_)))
      refine AL.yes rfl rfl (AO.eql rfl rfl rfl (fun c55 => ?_) (fun c55 => absurd rfl c55))
      refine AL.go (AO.pickT rfl rfl rfl (AL.go (AO.move rfl rfl (AL.yes rfl rfl (AO.move rfl rfl ?_)))))
      refine AL.yes rfl rfl (AO.eqlS rfl rfl rfl (fun c59 => ?_) (fun c59 => absurd rfl c59))
      refine AL.go (AO.pickT rfl rfl rfl (AL.go (AO.move rfl rfl (AL.yes rfl rfl (AO.move rfl rfl ?_)))))
      refine AL.yes rfl rfl (AO.eql rfl rfl rfl (fun c63 => ?_) (fun c63 => absurd rfl c63))
      refine AL.go (AO.pickT rfl rfl rfl (AL.go (AO.assign rfl rfl (AL.nil (AK.seqN (AC.ret (AK.seqR ?_)))))))
      exact AK.ret (L' := L) (F' := F) Tryz.results4 rfl (by repeat (first | exact Sub.refl _ _ | refine Sub.trans Sub.drop ?_ | refine Sub.trans Sub.dropF ?_)) h
  · refine AL.go (AO.move rfl rfl (AL.go (AO.extract rfl rfl rfl (AL.go (AO.extract rfl rfl rfl (AL.go (AO.assign rfl rfl (AL.go (AO.assign rfl rfl (AL.nil ?_))))))))))
    refine AK.seqN (AC.seq (AC.region ?_))
    refine AL.go (AO.loadBA rfl rfl ?_)
    refine AL.go (AO.loadBA rfl rfl ?_)
    refine AL.go (AO.call rfl rfl (cmp2_c (fewV a) (fewV b) oa ob (by repeat (first | exact mem0 | assumption | refine memS ?_)) (by repeat (first | exact mem0 | assumption | refine memS ?_)) (by repeat (first | exact mem0 | assumption | refine memS ?_)) (by repeat (first | exact mem0 | assumption | refine memS ?_)) ?_))
    refine AL.go (AO.move rfl rfl (AL.go (AO.extract rfl rfl rfl (AL.go (AO.extract rfl rfl rfl (AL.go (AO.assign rfl rfl (AL.go (AO.assign rfl rfl (AL.nil ?_))))))))))
    refine AK.seqN (AC.seq (AC.seq ?_))
    refine AC.draw (fun _ => false) [(b2, _, _), (b3, _, _)] (by repeat (first | exact BxIn.nil | refine BxIn.cons (by repeat (first | exact has0 | apply hasS)) ?_)) rfl (fun hx hX => ?_)
    refine AH.takeS (i := 0) rfl (Y.loadBA rfl (by repeat (first | exact List.Mem.head _ | refine List.Mem.tail _ ?_)) (by rfl)) (by kernel_rfl) (by kernel_rfl) rfl rfl rfl ?_
    refine AH.takeS (i := 2) rfl (Y.loadBA rfl (by repeat (first | exact List.Mem.head _ | refine List.Mem.tail _ ?_)) (by rfl)) (by kernel_rfl) (by kernel_rfl) rfl rfl rfl ?_
    refine AH.one (i := 1) (by kernel_rfl) rfl rfl (fun _ => ?_)
    refine AO.call rfl rfl (right_c (fewV a) oa (by repeat (first | exact mem0 | assumption | refine memS ?_)) (by repeat (first | exact mem0 | assumption | refine memS ?_)) (fun c25 => ?_) (fun c25 => absurd c25 (by rw [c15]; decide)))
    refine AT.held (by repeat (first | exact BxIn.nil | refine BxIn.cons (by repeat (first | exact has0 | apply hasS)) ?_)) (by repeat (first | exact mem0 | refine memS ?_)) ?_
    refine AH.one (i := 3) (by kernel_rfl) rfl rfl (fun _ => ?_)
    refine AO.call rfl rfl (rright_c (fewV a) oa (by repeat (first | exact mem0 | assumption | refine memS ?_)) (by repeat (first | exact mem0 | assumption | refine memS ?_)) (fun c27 => ?_) (fun c27 => absurd c27 (by rw [c15]; decide)))
    refine AT.held (by repeat (first | exact BxIn.nil | refine BxIn.cons (by repeat (first | exact has0 | apply hasS)) ?_)) (by repeat (first | exact mem0 | refine memS ?_)) ?_
    refine AH.one (i := 4) (by kernel_rfl) rfl rfl (fun _ => ?_)
    refine AO.neqB rfl rfl rfl ?_
    refine AT.held (by repeat (first | exact BxIn.nil | refine BxIn.cons (by repeat (first | exact has0 | apply hasS)) ?_)) (by repeat (first | exact mem0 | refine memS ?_)) ?_
    refine AH.takeW (i := 5) rfl (Y.move rfl) (by kernel_rfl) rfl rfl ?_
    refine AH.takeS (i := 6) rfl (Y.loadBA rfl (by repeat (first | exact List.Mem.head _ | refine List.Mem.tail _ ?_)) (by rfl)) (by kernel_rfl) (by kernel_rfl) rfl rfl rfl ?_
    refine AH.takeS (i := 7) rfl (Y.loadBA rfl (by repeat (first | exact List.Mem.head _ | refine List.Mem.tail _ ?_)) (by rfl)) (by kernel_rfl) (by kernel_rfl) rfl rfl rfl ?_
    refine AH.takeS (i := 9) rfl (Y.loadBA rfl (by repeat (first | exact List.Mem.head _ | refine List.Mem.tail _ ?_)) (by rfl)) (by kernel_rfl) (by kernel_rfl) rfl rfl rfl ?_
    refine AH.takeS (i := 10) rfl (Y.loadBA rfl (by repeat (first | exact List.Mem.head _ | refine List.Mem.tail _ ?_)) (by rfl)) (by kernel_rfl) (by kernel_rfl) rfl rfl rfl ?_
    refine AH.one (i := 8) (by kernel_rfl) rfl rfl (fun _ => ?_)
    refine AO.call rfl rfl (like_c (fewV a) (fewV b) (by repeat (first | exact mem0 | assumption | refine memS ?_)) (by repeat (first | exact mem0 | assumption | refine memS ?_)) (by repeat (first | exact mem0 | assumption | refine memS ?_)) (by repeat (first | exact mem0 | assumption | refine memS ?_)) (fun c32 => ?_) (fun c32 => ?_))
    all_goals refine AT.held (by repeat (first | exact BxIn.nil | refine BxIn.cons (by repeat (first | exact has0 | apply hasS)) ?_)) (by repeat (first | exact mem0 | refine memS ?_)) ?_
    · refine AH.one (i := 11) (by kernel_rfl) rfl rfl (fun _ => ?_)
      refine AO.call rfl rfl (rlike_c (fewV a) (fewV b) (by repeat (first | exact mem0 | assumption | refine memS ?_)) (by repeat (first | exact mem0 | assumption | refine memS ?_)) (by repeat (first | exact mem0 | assumption | refine memS ?_)) (by repeat (first | exact mem0 | assumption | refine memS ?_)) (fun c35 => ?_) (fun c35 => absurd c32 c35))
      refine AT.held (by repeat (first | exact BxIn.nil | refine BxIn.cons (by repeat (first | exact has0 | apply hasS)) ?_)) (by repeat (first | exact mem0 | refine memS ?_)) ?_
      refine AH.one (i := 12) (by kernel_rfl) rfl rfl (fun _ => ?_)
      refine AO.neqB rfl rfl rfl ?_
      refine AT.held (by repeat (first | exact BxIn.nil | refine BxIn.cons (by repeat (first | exact has0 | apply hasS)) ?_)) (by repeat (first | exact mem0 | refine memS ?_)) ?_
      refine AH.takeW (i := 13) rfl (Y.pickF rfl rfl) (by kernel_rfl) rfl rfl ?_
      refine AH.takeW (i := 14) rfl (Y.move rfl) (by kernel_rfl) rfl rfl ?_
      refine AH.takeS (i := 15) rfl (Y.loadBA rfl (by repeat (first | exact List.Mem.head _ | refine List.Mem.tail _ ?_)) (by rfl)) (by kernel_rfl) (by kernel_rfl) rfl rfl rfl ?_
      refine AH.takeS (i := 16) rfl (Y.loadBA rfl (by repeat (first | exact List.Mem.head _ | refine List.Mem.tail _ ?_)) (by rfl)) (by kernel_rfl) (by kernel_rfl) rfl rfl rfl ?_
      refine AH.one (i := 17) (by kernel_rfl) rfl rfl (fun _ => ?_)
      refine AO.call rfl rfl (like_c (fewV a) (fewV a) (by repeat (first | exact mem0 | assumption | refine memS ?_)) (by repeat (first | exact mem0 | assumption | refine memS ?_)) (by repeat (first | exact mem0 | assumption | refine memS ?_)) (by repeat (first | exact mem0 | assumption | refine memS ?_)) (fun c41 => ?_) (fun c41 => absurd rfl c41))
      refine AT.held (by repeat (first | exact BxIn.nil | refine BxIn.cons (by repeat (first | exact has0 | apply hasS)) ?_)) (by repeat (first | exact mem0 | refine memS ?_)) ?_
      refine AH.takeW (i := 18) rfl (Y.not rfl) (by kernel_rfl) rfl rfl ?_
      refine AH.takeW (i := 19) rfl (Y.pickF rfl rfl) (by kernel_rfl) rfl rfl ?_
      refine AH.takeW (i := 20) rfl (Y.move rfl) (by kernel_rfl) rfl rfl ?_
      refine AH.one (i := 21) (by kernel_rfl) rfl rfl (fun _ => ?_)
      refine AO.call rfl rfl (alive_c g ?_)
      refine AT.held (by repeat (first | exact BxIn.nil | refine BxIn.cons (by repeat (first | exact has0 | apply hasS)) ?_)) (by repeat (first | exact mem0 | refine memS ?_)) ?_
      refine AH.takeW (i := 22) rfl (Y.not rfl) (by kernel_rfl) rfl rfl ?_
      refine AH.takeW (i := 23) rfl (Y.pickF rfl rfl) (by kernel_rfl) rfl rfl ?_
      refine AH.done (by kernel_rfl) ?_
      refine AK.seqN (AC.condF rfl (AC.skip (AK.seqN (AC.seq (AC.seq ?_)))))
      refine AC.region ?_
      refine AL.go (AO.loadBA rfl rfl ?_)
      refine AL.go (AO.call rfl rfl (rright_c (fewV a) oa (by repeat (first | exact mem0 | assumption | refine memS ?_)) (by repeat (first | exact mem0 | assumption | refine memS ?_)) (fun c49 => ?_) (fun c49 => absurd c49 (by rw [c15]; decide))))
      refine AL.go (AO.not rfl rfl (AL.nil (AK.seqN (AC.condF rfl (AC.skip (AK.seqN ?_))))))
      refine AC.seq (AC.seq (AC.region (AL.go (AO.move rfl rfl ?_))))
      refine AL.go (AO.neq rfl rfl rfl (fun c66 => absurd rfl c66) (fun c66 => ?_))
      refine AL.go (AO.move rfl rfl (AL.yes rfl rfl (AO.move rfl rfl ?_)))
      refine AL.yes rfl rfl (AO.loadBA rfl rfl ?_)
      refine AL.yes rfl rfl (AO.call rfl rfl (rtext_c g (fewV a) oa c15 (by repeat (first | exact mem0 | assumption | refine memS ?_)) (by repeat (first | exact mem0 | assumption | refine memS ?_)) ?_))
      refine AL.yes rfl rfl (AO.neqS rfl rfl rfl (fun c71 => absurd rfl c71) (fun c71 => ?_))
      refine AL.go (AO.pickF rfl rfl rfl (AL.nil (AK.seqN (AC.condF rfl (AC.skip (AK.seqN ?_))))))
      refine AC.seq (AC.seq (AC.region ?_))
      refine AL.go (AO.loadBA rfl rfl ?_)
      refine AL.go (AO.call rfl rfl (rright_c (fewV b) ob (by repeat (first | exact mem0 | assumption | refine memS ?_)) (by repeat (first | exact mem0 | assumption | refine memS ?_)) (fun c74 => ?_) (fun c74 => ?_)))
      · refine AL.go (AO.not rfl rfl (AL.nil (AK.seqN (AC.condF rfl (AC.skip (AK.seqN ?_))))))
        refine AC.seq (AC.region (AL.go (AO.move rfl rfl ?_)))
        have hys := cmpR_yes (v := fewV a) (u := fewV b) c15 c74
        rw [sign_self (cmpV_range _ _)] at hys
        refine AL.go (AO.eql rfl rfl rfl (fun c83 => ?_) (fun c83 => absurd (congrArg Prod.snd hys) c83))
        refine AL.go (AO.move rfl rfl (AL.yes rfl rfl (AO.move rfl rfl ?_)))
        refine AL.yes rfl rfl (AO.loadBA rfl rfl ?_)
        refine AL.yes rfl rfl (AO.loadBA rfl rfl ?_)
        refine AL.yes rfl rfl (AO.call rfl rfl (rcmpv_c (fewV a) (fewV b) oa ob (by repeat (first | exact mem0 | assumption | refine memS ?_)) (by repeat (first | exact mem0 | assumption | refine memS ?_)) ?_))
        refine AL.yes rfl rfl (AO.eql rfl rfl rfl (fun c89 => ?_) (fun c89 => absurd (congrArg Prod.fst hys) c89))
        refine AL.go (AO.pickT rfl rfl rfl (AL.go (AO.assign rfl rfl (AL.nil (AK.seqN (AC.ret ?_))))))
        exact AK.ret (L' := L) (F' := F) Tryz.results4 rfl (by repeat (first | exact Sub.refl _ _ | refine Sub.trans Sub.drop ?_ | refine Sub.trans Sub.dropF ?_)) h
      · refine AL.go (AO.not rfl rfl (AL.nil (AK.seqN (AC.condT rfl (AC.seq (AC.region ?_))))))
        refine AL.go (AO.move rfl rfl ?_)
        have hno := cmpR_no (v := fewV a) (u := fewV b) (by rw [c74, Bool.and_false])
        refine AL.go (AO.eql rfl rfl rfl (fun c77 => ?_) (fun c77 => absurd (congrArg Prod.snd hno) c77))
        refine AL.go (AO.move rfl rfl (AL.yes rfl rfl (AO.move rfl rfl ?_)))
        refine AL.yes rfl rfl (AO.eql rfl rfl rfl (fun c80 => ?_) (fun c80 => absurd (congrArg Prod.fst hno) c80))
        refine AL.go (AO.pickT rfl rfl rfl (AL.go (AO.assign rfl rfl (AL.nil (AK.seqN (AC.ret (AK.seqR ?_)))))))
        exact AK.ret (L' := L) (F' := F) Tryz.results4 rfl (by repeat (first | exact Sub.refl _ _ | refine Sub.trans Sub.drop ?_ | refine Sub.trans Sub.dropF ?_)) h
    · refine AH.one (i := 11) (by kernel_rfl) rfl rfl (fun _ => ?_)
      refine AO.call rfl rfl (rlike_c (fewV a) (fewV b) (by repeat (first | exact mem0 | assumption | refine memS ?_)) (by repeat (first | exact mem0 | assumption | refine memS ?_)) (by repeat (first | exact mem0 | assumption | refine memS ?_)) (by repeat (first | exact mem0 | assumption | refine memS ?_)) (fun c35 => absurd c35 c32) (fun c35 => ?_))
      refine AT.held (by repeat (first | exact BxIn.nil | refine BxIn.cons (by repeat (first | exact has0 | apply hasS)) ?_)) (by repeat (first | exact mem0 | refine memS ?_)) ?_
      refine AH.one (i := 12) (by kernel_rfl) rfl rfl (fun _ => ?_)
      refine AO.neqB rfl rfl rfl ?_
      refine AT.held (by repeat (first | exact BxIn.nil | refine BxIn.cons (by repeat (first | exact has0 | apply hasS)) ?_)) (by repeat (first | exact mem0 | refine memS ?_)) ?_
      refine AH.takeW (i := 13) rfl (Y.pickF rfl rfl) (by kernel_rfl) rfl rfl ?_
      refine AH.takeW (i := 14) rfl (Y.move rfl) (by kernel_rfl) rfl rfl ?_
      refine AH.takeS (i := 15) rfl (Y.loadBA rfl (by repeat (first | exact List.Mem.head _ | refine List.Mem.tail _ ?_)) (by rfl)) (by kernel_rfl) (by kernel_rfl) rfl rfl rfl ?_
      refine AH.takeS (i := 16) rfl (Y.loadBA rfl (by repeat (first | exact List.Mem.head _ | refine List.Mem.tail _ ?_)) (by rfl)) (by kernel_rfl) (by kernel_rfl) rfl rfl rfl ?_
      refine AH.one (i := 17) (by kernel_rfl) rfl rfl (fun _ => ?_)
      refine AO.call rfl rfl (like_c (fewV a) (fewV a) (by repeat (first | exact mem0 | assumption | refine memS ?_)) (by repeat (first | exact mem0 | assumption | refine memS ?_)) (by repeat (first | exact mem0 | assumption | refine memS ?_)) (by repeat (first | exact mem0 | assumption | refine memS ?_)) (fun c41 => ?_) (fun c41 => absurd rfl c41))
      refine AT.held (by repeat (first | exact BxIn.nil | refine BxIn.cons (by repeat (first | exact has0 | apply hasS)) ?_)) (by repeat (first | exact mem0 | refine memS ?_)) ?_
      refine AH.takeW (i := 18) rfl (Y.not rfl) (by kernel_rfl) rfl rfl ?_
      refine AH.takeW (i := 19) rfl (Y.pickF rfl rfl) (by kernel_rfl) rfl rfl ?_
      refine AH.takeW (i := 20) rfl (Y.move rfl) (by kernel_rfl) rfl rfl ?_
      refine AH.one (i := 21) (by kernel_rfl) rfl rfl (fun _ => ?_)
      refine AO.call rfl rfl (alive_c g ?_)
      refine AT.held (by repeat (first | exact BxIn.nil | refine BxIn.cons (by repeat (first | exact has0 | apply hasS)) ?_)) (by repeat (first | exact mem0 | refine memS ?_)) ?_
      refine AH.takeW (i := 22) rfl (Y.not rfl) (by kernel_rfl) rfl rfl ?_
      refine AH.takeW (i := 23) rfl (Y.pickF rfl rfl) (by kernel_rfl) rfl rfl ?_
      refine AH.done (by kernel_rfl) ?_
      refine AK.seqN (AC.condF rfl (AC.skip (AK.seqN (AC.seq (AC.seq ?_)))))
      refine AC.region ?_
      refine AL.go (AO.loadBA rfl rfl ?_)
      refine AL.go (AO.call rfl rfl (rright_c (fewV a) oa (by repeat (first | exact mem0 | assumption | refine memS ?_)) (by repeat (first | exact mem0 | assumption | refine memS ?_)) (fun c49 => ?_) (fun c49 => absurd c49 (by rw [c15]; decide))))
      refine AL.go (AO.not rfl rfl (AL.nil (AK.seqN (AC.condF rfl (AC.skip (AK.seqN ?_))))))
      refine AC.seq (AC.seq (AC.region (AL.go (AO.move rfl rfl ?_))))
      refine AL.go (AO.neq rfl rfl rfl (fun c66 => absurd rfl c66) (fun c66 => ?_))
      refine AL.go (AO.move rfl rfl (AL.yes rfl rfl (AO.move rfl rfl ?_)))
      refine AL.yes rfl rfl (AO.loadBA rfl rfl ?_)
      refine AL.yes rfl rfl (AO.call rfl rfl (rtext_c g (fewV a) oa c15 (by repeat (first | exact mem0 | assumption | refine memS ?_)) (by repeat (first | exact mem0 | assumption | refine memS ?_)) ?_))
      refine AL.yes rfl rfl (AO.neqS rfl rfl rfl (fun c71 => absurd rfl c71) (fun c71 => ?_))
      refine AL.go (AO.pickF rfl rfl rfl (AL.nil (AK.seqN (AC.condF rfl (AC.skip (AK.seqN ?_))))))
      refine AC.seq (AC.seq (AC.region ?_))
      refine AL.go (AO.loadBA rfl rfl ?_)
      refine AL.go (AO.call rfl rfl (rright_c (fewV b) ob (by repeat (first | exact mem0 | assumption | refine memS ?_)) (by repeat (first | exact mem0 | assumption | refine memS ?_)) (fun c74 => ?_) (fun c74 => ?_)))
      · refine AL.go (AO.not rfl rfl (AL.nil (AK.seqN (AC.condF rfl (AC.skip (AK.seqN ?_))))))
        refine AC.seq (AC.region (AL.go (AO.move rfl rfl ?_)))
        have hys := cmpR_yes (v := fewV a) (u := fewV b) c15 c74
        rw [sign_self (cmpV_range _ _)] at hys
        refine AL.go (AO.eql rfl rfl rfl (fun c83 => ?_) (fun c83 => absurd (congrArg Prod.snd hys) c83))
        refine AL.go (AO.move rfl rfl (AL.yes rfl rfl (AO.move rfl rfl ?_)))
        refine AL.yes rfl rfl (AO.loadBA rfl rfl ?_)
        refine AL.yes rfl rfl (AO.loadBA rfl rfl ?_)
        refine AL.yes rfl rfl (AO.call rfl rfl (rcmpv_c (fewV a) (fewV b) oa ob (by repeat (first | exact mem0 | assumption | refine memS ?_)) (by repeat (first | exact mem0 | assumption | refine memS ?_)) ?_))
        refine AL.yes rfl rfl (AO.eql rfl rfl rfl (fun c89 => ?_) (fun c89 => absurd (congrArg Prod.fst hys) c89))
        refine AL.go (AO.pickT rfl rfl rfl (AL.go (AO.assign rfl rfl (AL.nil (AK.seqN (AC.ret ?_))))))
        exact AK.ret (L' := L) (F' := F) Tryz.results4 rfl (by repeat (first | exact Sub.refl _ _ | refine Sub.trans Sub.drop ?_ | refine Sub.trans Sub.dropF ?_)) h
      · refine AL.go (AO.not rfl rfl (AL.nil (AK.seqN (AC.condT rfl (AC.seq (AC.region ?_))))))
        refine AL.go (AO.move rfl rfl ?_)
        have hno := cmpR_no (v := fewV a) (u := fewV b) (by rw [c74, Bool.and_false])
        refine AL.go (AO.eql rfl rfl rfl (fun c77 => ?_) (fun c77 => absurd (congrArg Prod.snd hno) c77))
        refine AL.go (AO.move rfl rfl (AL.yes rfl rfl (AO.move rfl rfl ?_)))
        refine AL.yes rfl rfl (AO.eql rfl rfl rfl (fun c80 => ?_) (fun c80 => absurd (congrArg Prod.fst hno) c80))
        refine AL.go (AO.pickT rfl rfl rfl (AL.go (AO.assign rfl rfl (AL.nil (AK.seqN (AC.ret (AK.seqR ?_)))))))
        exact AK.ret (L' := L) (F' := F) Tryz.results4 rfl (by repeat (first | exact Sub.refl _ _ | refine Sub.trans Sub.drop ?_ | refine Sub.trans Sub.dropF ?_)) h
end
end Go.Sy
