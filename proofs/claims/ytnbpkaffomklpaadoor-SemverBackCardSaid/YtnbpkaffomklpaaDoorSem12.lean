/- The statement on what is read and written back: the walk. -/
import Derived.Test.YtnbpkaffomklpaaDoorSemB
import Derived.Test.YtnbpkaffomklpaaDoorRefA
import Derived.Test.YtnbpkaffomklpaaDoorSemV
import Derived.Test.YtnbpkaffomklpaaDoorFwN
namespace Go.Sy
open Go Go.Proofs Go.RowKit

attribute [local irreducible] AC AT AO AK AH ACalls Sub Res.cells Res.obj Res.nix Res.own Exit.then Exit.inBlock bodyPost Code.wp Next Post Kont
section
variable {W0 : World} {L : List Res} {F : List Fact} {R : Value → List Res → List Fact → Prop}
set_option maxRecDepth 100000
set_option maxHeartbeats 4000000
theorem back_c (g : Glob W0) (s : List UInt8) (v : Ver) (hv : VerIn v) {a1 a2 : Option Addr} {k1 c1 k2 c2 : Nat} (m1 : fS v.pre a1 k1 c1 ∈ F) (m2 : fS v.build a2 k2 c2 ∈ F)
    (h : R (.bool true) L F) : ACalls Tryd.prog W0 4 #[S s, vVer v a1 k1 c1 a2 k2 c2] L F R := by
  have ov := few_ok hv
  refine ACalls.body Tryd.func4 rfl Tryd.ntmps4 rfl ?_
  refine AC.seq (AC.region (AL.go (AO.box rfl rfl (fun b3 => ?_))))
  refine AL.go (AO.assign rfl rfl (AL.nil (AK.seqN (AC.seq ?_))))
  refine AC.draw (fun i => Nat.beq i 8) [(b3, _, _)] (by repeat (first | exact BxIn.nil | refine BxIn.cons (by repeat (first | exact has0 | apply hasS)) ?_)) rfl (fun hx hX => ?_)
  refine AH.takeW (i := 0) rfl (Y.move rfl) (by kernel_rfl) rfl rfl ?_
  refine AH.takeW (i := 1) rfl (Y.move rfl) (by kernel_rfl) rfl rfl ?_
  refine AH.takeW (i := 2) rfl (Y.lenS rfl) (by kernel_rfl) rfl rfl ?_
  refine AH.takeW (i := 3) rfl (Y.min rfl rfl) (by kernel_rfl) rfl rfl ?_
  refine AH.takeW (i := 4) rfl (Y.sliceSH (j' := min s.length 900) rfl rfl (by omega) (by omega)) (by kernel_rfl) rfl rfl ?_
  refine AH.takeS (i := 5) rfl (Y.loadBA rfl (by repeat (first | exact List.Mem.head _ | refine List.Mem.tail _ ?_)) (by rfl)) (by kernel_rfl) (by kernel_rfl) rfl rfl rfl ?_
  refine AH.one (i := 6) (by kernel_rfl) rfl rfl (fun _ => ?_)
  refine AO.call rfl rfl (few_c v (by repeat (first | exact mem0 | assumption | refine memS ?_)) (by repeat (first | exact mem0 | assumption | refine memS ?_)) (fun p1 q1 r1 p2 q2 r2 => ?_))
  refine AT.held (by repeat (first | exact BxIn.nil | refine BxIn.cons (by repeat (first | exact has0 | apply hasS)) ?_)) (by repeat (first | exact mem0 | refine memS ?_)) ?_
  refine AH.takeW (i := 7) rfl (Y.assign rfl) (by kernel_rfl) rfl rfl ?_
  refine AH.one (i := 8) (by kernel_rfl) rfl rfl (fun _ => ?_)
  refine AO.storeBA rfl rfl rfl rfl ?_
  refine AT.spoilt rfl ?_
  refine AH.done (by kernel_rfl) ?_
  refine AK.seqN (AC.seq (AC.seq (AC.region (AL.go (AO.move rfl rfl ?_)))))
  refine AL.go (AO.call rfl rfl (parse_c g (s.take (min s.length 900)) (by simp; omega) (fun V22 e22 h22 x1 y1 z1 x2 y2 z2 => ?_)))
  refine AL.go (AO.move rfl rfl (AL.go (AO.extract rfl rfl rfl (AL.go (AO.extract rfl rfl rfl (AL.go (AO.alloc rfl (fun b5 => ?_))))))))
  refine AL.go (AO.storeBA rfl rfl rfl rfl ?_)
  refine AL.go (AO.assign rfl rfl (AL.nil (AK.seqN (AC.seq (AC.region (AL.go (AO.move rfl rfl ?_)))))))
  refine AL.go (AO.eql rfl rfl rfl (fun c26 => ?_) (fun c26 => ?_))
  · refine AL.nil (AK.seqN (AC.condT rfl (AC.seq (AC.region ?_))))
    refine AL.go (AO.loadBA rfl rfl ?_)
    obtain ⟨hOk, hR, hT⟩ := read_written (s := s.take (min s.length 900)) (V := V22) (by rw [h22, c26])
    refine AL.go (AO.call rfl rfl (text_c g V22 hOk (by repeat (first | exact mem0 | assumption | refine memS ?_)) (by repeat (first | exact mem0 | assumption | refine memS ?_)) (fun e => absurd hR (by rw [e]; decide)) (fun _ => ?_)))
    rw [hT]
    refine AL.go (AO.move rfl rfl (AL.go (AO.extract rfl rfl rfl (AL.go (AO.extract rfl rfl rfl (AL.go (AO.assign rfl rfl (AL.go (AO.assign rfl rfl (AL.nil ?_))))))))))
    refine AK.seqN (AC.seq (AC.region (AL.go (AO.move rfl rfl ?_))))
    refine AL.go (AO.neq rfl rfl rfl (fun c33 => absurd rfl c33) (fun c33 => ?_))
    refine AL.go (AO.move rfl rfl (AL.yes rfl rfl (AO.move rfl rfl (AL.yes rfl rfl (AO.move rfl rfl ?_)))))
    refine AL.yes rfl rfl (AO.neqS rfl rfl rfl (fun c37 => absurd rfl c37) (fun c37 => ?_))
    refine AL.go (AO.pickF rfl rfl rfl (AL.go (AO.move rfl rfl ?_)))
    refine AL.yes rfl rfl (AO.loadBA rfl rfl ?_)
    refine AL.yes rfl rfl (AO.call rfl rfl (right_c V22 hOk (by repeat (first | exact mem0 | assumption | refine memS ?_)) (by repeat (first | exact mem0 | assumption | refine memS ?_)) (fun c41 => ?_) (fun c41 => absurd hR (by rw [c41]; decide))))
    refine AL.yes rfl rfl (AO.not rfl rfl (AL.go (AO.pickF rfl rfl rfl (AL.nil (AK.seqN (AC.condF rfl (AC.skip ?_)))))))
    refine AK.seqN (AC.seq (AC.region ?_))
    refine AL.go (AO.loadBA rfl rfl ?_)
    refine AL.go (AO.call rfl rfl (text_c g (fewV v) ov (by repeat (first | exact mem0 | assumption | refine memS ?_)) (by repeat (first | exact mem0 | assumption | refine memS ?_)) (fun c46 => ?_) (fun c46 => ?_)))
    · refine AL.go (AO.move rfl rfl (AL.go (AO.extract rfl rfl rfl (AL.go (AO.extract rfl rfl rfl (AL.go (AO.assign rfl rfl (AL.go (AO.assign rfl rfl (AL.nil ?_))))))))))
      refine AK.seqN (AC.seq (AC.seq (AC.region (AL.go (AO.move rfl rfl ?_)))))
      refine AL.go (AO.neq rfl rfl rfl (fun c50 => ?_) (fun c50 => absurd c50 (by decide)))
      refine AL.nil (AK.seqN (AC.condT rfl (AC.seq (AC.region ?_))))
      refine AL.go (AO.call rfl rfl (alive_c g ?_))
      refine AL.go (AO.move rfl rfl ?_)
      refine AL.yes rfl rfl (AO.loadBA rfl rfl ?_)
      refine AL.yes rfl rfl (AO.call rfl rfl (right_c (fewV v) ov (by repeat (first | exact mem0 | assumption | refine memS ?_)) (by repeat (first | exact mem0 | assumption | refine memS ?_)) (fun c54 => absurd c54 (by rw [c46]; decide)) (fun c54 => ?_)))
      refine AL.yes rfl rfl (AO.not rfl rfl (AL.go (AO.pickT rfl rfl rfl (AL.go (AO.assign rfl rfl (AL.nil (AK.seqN (AC.ret ?_))))))))
      refine AK.seqR ?_
      exact AK.ret (L' := L) (F' := F) Tryd.results4 rfl (by repeat (first | exact Sub.refl _ _ | refine Sub.trans Sub.drop ?_ | refine Sub.trans Sub.dropF ?_)) h
    · refine AL.go (AO.move rfl rfl (AL.go (AO.extract rfl rfl rfl (AL.go (AO.extract rfl rfl rfl (AL.go (AO.assign rfl rfl (AL.go (AO.assign rfl rfl (AL.nil ?_))))))))))
      refine AK.seqN (AC.seq (AC.seq (AC.region (AL.go (AO.move rfl rfl ?_)))))
      refine AL.go (AO.neq rfl rfl rfl (fun c50 => absurd rfl c50) (fun c50 => ?_))
      refine AL.nil (AK.seqN (AC.condF rfl (AC.skip (AK.seqN (AC.seq ?_)))))
      refine AC.region (AL.go (AO.move rfl rfl ?_))
      refine AL.go (AO.call rfl rfl (parse_c g (textS (fewV v)) (text_len ov c46) (fun V59 e59 h59 x3 y3 z3 x4 y4 z4 => ?_)))
      have h59' := h59.symm.trans (written_read ov c46)
      simp only [Prod.mk.injEq] at h59'
      obtain ⟨rfl, rfl⟩ := h59'
      refine AL.go (AO.move rfl rfl (AL.go (AO.extract rfl rfl rfl (AL.go (AO.extract rfl rfl rfl (AL.go (AO.alloc rfl (fun b11 => ?_))))))))
      refine AL.go (AO.storeBA rfl rfl rfl rfl ?_)
      refine AL.go (AO.assign rfl rfl (AL.nil (AK.seqN (AC.seq (AC.region ?_)))))
      refine AL.go (AO.call rfl rfl (alive_c g ?_))
      refine AL.go (AO.move rfl rfl (AL.yes rfl rfl (AO.move rfl rfl ?_)))
      refine AL.yes rfl rfl (AO.eql rfl rfl rfl (fun c65 => ?_) (fun c65 => absurd rfl c65))
      refine AL.go (AO.pickT rfl rfl rfl (AL.go (AO.move rfl rfl ?_)))
      refine AL.yes rfl rfl (AO.loadBA rfl rfl ?_)
      refine AL.yes rfl rfl (AO.loadBA rfl rfl ?_)
      refine AL.yes rfl rfl (AO.call rfl rfl (rlike_c (fewV v) (fewV v) (by repeat (first | exact mem0 | assumption | refine memS ?_)) (by repeat (first | exact mem0 | assumption | refine memS ?_)) (by repeat (first | exact mem0 | assumption | refine memS ?_)) (by repeat (first | exact mem0 | assumption | refine memS ?_)) (fun c70 => ?_) (fun c70 => absurd rfl c70)))
      refine AL.go (AO.pickT rfl rfl rfl (AL.go (AO.assign rfl rfl (AL.nil (AK.seqN (AC.ret ?_))))))
      exact AK.ret (L' := L) (F' := F) Tryd.results4 rfl (by repeat (first | exact Sub.refl _ _ | refine Sub.trans Sub.drop ?_ | refine Sub.trans Sub.dropF ?_)) h
  · refine AL.nil (AK.seqN (AC.condF rfl (AC.skip (AK.seqN (AC.seq ?_)))))
    refine AC.region ?_
    refine AL.go (AO.loadBA rfl rfl ?_)
    refine AL.go (AO.call rfl rfl (text_c g (fewV v) ov (by repeat (first | exact mem0 | assumption | refine memS ?_)) (by repeat (first | exact mem0 | assumption | refine memS ?_)) (fun c46 => ?_) (fun c46 => ?_)))
    · refine AL.go (AO.move rfl rfl (AL.go (AO.extract rfl rfl rfl (AL.go (AO.extract rfl rfl rfl (AL.go (AO.assign rfl rfl (AL.go (AO.assign rfl rfl (AL.nil ?_))))))))))
      refine AK.seqN (AC.seq (AC.seq (AC.region (AL.go (AO.move rfl rfl ?_)))))
      refine AL.go (AO.neq rfl rfl rfl (fun c50 => ?_) (fun c50 => absurd c50 (by decide)))
      refine AL.nil (AK.seqN (AC.condT rfl (AC.seq (AC.region ?_))))
      refine AL.go (AO.call rfl rfl (alive_c g ?_))
      refine AL.go (AO.move rfl rfl ?_)
      refine AL.yes rfl rfl (AO.loadBA rfl rfl ?_)
      refine AL.yes rfl rfl (AO.call rfl rfl (right_c (fewV v) ov (by repeat (first | exact mem0 | assumption | refine memS ?_)) (by repeat (first | exact mem0 | assumption | refine memS ?_)) (fun c54 => absurd c54 (by rw [c46]; decide)) (fun c54 => ?_)))
      refine AL.yes rfl rfl (AO.not rfl rfl (AL.go (AO.pickT rfl rfl rfl (AL.go (AO.assign rfl rfl (AL.nil (AK.seqN (AC.ret ?_))))))))
      refine AK.seqR ?_
      exact AK.ret (L' := L) (F' := F) Tryd.results4 rfl (by repeat (first | exact Sub.refl _ _ | refine Sub.trans Sub.drop ?_ | refine Sub.trans Sub.dropF ?_)) h
    · refine AL.go (AO.move rfl rfl (AL.go (AO.extract rfl rfl rfl (AL.go (AO.extract rfl rfl rfl (AL.go (AO.assign rfl rfl (AL.go (AO.assign rfl rfl (AL.nil ?_))))))))))
      refine AK.seqN (AC.seq (AC.seq (AC.region (AL.go (AO.move rfl rfl ?_)))))
      refine AL.go (AO.neq rfl rfl rfl (fun c50 => absurd rfl c50) (fun c50 => ?_))
      refine AL.nil (AK.seqN (AC.condF rfl (AC.skip (AK.seqN (AC.seq ?_)))))
      refine AC.region (AL.go (AO.move rfl rfl ?_))
      refine AL.go (AO.call rfl rfl (parse_c g (textS (fewV v)) (text_len ov c46) (fun V59 e59 h59 x3 y3 z3 x4 y4 z4 => ?_)))
      have h59' := h59.symm.trans (written_read ov c46)
      simp only [Prod.mk.injEq] at h59'
      obtain ⟨rfl, rfl⟩ := h59'
      refine AL.go (AO.move rfl rfl (AL.go (AO.extract rfl rfl rfl (AL.go (AO.extract rfl rfl rfl (AL.go (AO.alloc rfl (fun b11 => ?_))))))))
      refine AL.go (AO.storeBA rfl rfl rfl rfl ?_)
      refine AL.go (AO.assign rfl rfl (AL.nil (AK.seqN (AC.seq (AC.region ?_)))))
      refine AL.go (AO.call rfl rfl (alive_c g ?_))
      refine AL.go (AO.move rfl rfl (AL.yes rfl rfl (AO.move rfl rfl ?_)))
      refine AL.yes rfl rfl (AO.eql rfl rfl rfl (fun c65 => ?_) (fun c65 => absurd rfl c65))
      refine AL.go (AO.pickT rfl rfl rfl (AL.go (AO.move rfl rfl ?_)))
      refine AL.yes rfl rfl (AO.loadBA rfl rfl ?_)
      refine AL.yes rfl rfl (AO.loadBA rfl rfl ?_)
      refine AL.yes rfl rfl (AO.call rfl rfl (rlike_c (fewV v) (fewV v) (by repeat (first | exact mem0 | assumption | refine memS ?_)) (by repeat (first | exact mem0 | assumption | refine memS ?_)) (by repeat (first | exact mem0 | assumption | refine memS ?_)) (by repeat (first | exact mem0 | assumption | refine memS ?_)) (fun c70 => ?_) (fun c70 => absurd rfl c70)))
      refine AL.go (AO.pickT rfl rfl rfl (AL.go (AO.assign rfl rfl (AL.nil (AK.seqN (AC.ret ?_))))))
      exact AK.ret (L' := L) (F' := F) Tryd.results4 rfl (by repeat (first | exact Sub.refl _ _ | refine Sub.trans Sub.drop ?_ | refine Sub.trans Sub.dropF ?_)) h
end
end Go.Sy
