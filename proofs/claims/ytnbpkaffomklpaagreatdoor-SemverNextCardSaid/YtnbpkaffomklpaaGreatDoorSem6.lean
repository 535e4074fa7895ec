/- The next release. -/
import Derived.Test.YtnbpkaffomklpaaGreatDoorSem5
namespace Go.Sy
open Go Go.Proofs Go.RowKit

abbrev relV (a b c : Int) : Ver := ⟨a, b, c, [], []⟩
def nextS (v : Ver) (class_ : Int) : Ver × Int :=
  if rightV v = false then (relV 0 0 0, 1)
  else if class_ < 0 then (relV 0 0 0, 1)
  else if class_ > 3 then (relV 0 0 0, 1)
  else if 2 ≤ class_ ∧ 0 < v.major then
    if 0 < v.pre.length ∧ v.minor = 0 ∧ v.patch = 0 then (relV v.major v.minor v.patch, 0)
    else if v.major = 9223372036854775807 then (relV 0 0 0, 2) else (relV (v.major + 1) 0 0, 0)
  else if class_ > 0 then
    if 0 < v.pre.length ∧ v.patch = 0 then (relV v.major v.minor v.patch, 0)
    else if v.minor = 9223372036854775807 then (relV 0 0 0, 2) else (relV v.major (v.minor + 1) 0, 0)
  else if 0 < v.pre.length then (relV v.major v.minor v.patch, 0)
  else if v.patch = 9223372036854775807 then (relV 0 0 0, 2) else (relV v.major v.minor (v.patch + 1), 0)
theorem next_pre (v : Ver) (c : Int) : (nextS v c).1.pre = [] ∧ (nextS v c).1.build = [] := by
  unfold nextS
  repeat' split
  all_goals exact ⟨rfl, rfl⟩

attribute [local irreducible] AC AT AO AK AH ACalls Sub Res.cells Res.obj Res.nix Res.own Exit.then Exit.inBlock bodyPost Code.wp Next Post Kont
section
variable {W0 : World} {L : List Res} {F : List Fact} {R : Value → List Res → List Fact → Prop}
set_option maxRecDepth 100000
set_option maxHeartbeats 4000000
theorem next_c (v : Ver) (hv : VerOk v) (class_ : Int) {a1 a2 : Option Addr} {k1 c1 k2 c2 : Nat} (m1 : fS v.pre a1 k1 c1 ∈ F) (m2 : fS v.build a2 k2 c2 ∈ F) (h : R (.tuple #[vVer (nextS v class_).1 none 0 0 none 0 0, .int .i64 (nextS v class_).2]) L F) :
    ACalls Tryz.prog W0 6 #[vVer v a1 k1 c1 a2 k2 c2, .int .i64 class_] L F R := by
  have hr1 := hv.r1
  have hr2 := hv.r2
  have hr3 := hv.r3
  refine ACalls.body Tryz.func6 rfl Tryz.ntmps6 rfl ?_
  refine AC.seq (AC.region (AL.go (AO.box rfl rfl (fun b2 => ?_))))
  refine AL.go (AO.alloc rfl (fun b4 => ?_))
  refine AL.go (AO.assign rfl rfl (AL.nil (AK.seqN (AC.seq (AC.seq (AC.region ?_))))))
  refine AL.go (AO.loadBA rfl rfl ?_)
  refine AL.go (AO.call rfl rfl (right_c v hv m1 m2 (fun c11 => ?_) (fun c11 => ?_)))
  · refine AL.go (AO.not rfl rfl (AL.go (AO.move rfl rfl (AL.yes rfl rfl (AO.move rfl rfl ?_)))))
    refine AL.yes rfl rfl (AO.lss rfl rfl rfl (fun c15 => ?_) (fun c15 => ?_))
    · refine AL.go (AO.pickF rfl rfl rfl (AL.go (AO.move rfl rfl (AL.no rfl rfl rfl rfl (AL.no rfl rfl rfl rfl (AL.go (AO.pickT rfl rfl rfl (AL.nil ?_))))))))
      refine AK.seqN (AC.condT rfl (AC.seq (AC.region (AL.go (AO.build rfl rfl rfl ?_)))))
      refine AL.go (AO.storeBA rfl rfl rfl rfl ?_)
      refine AL.go (AO.assign rfl rfl (AL.nil (AK.seqN (AC.ret (AK.seqR ?_)))))
      first | refine AK.retV (rs := [.cell 4 _, .tmp 5]) (L' := L) (F' := F) Tryz.results6 (.agg (j := 1) rfl rfl rfl (.tmp rfl .nil)) (by repeat (first | exact Sub.refl _ _ | refine Sub.trans Sub.drop ?_ | refine Sub.trans Sub.dropF ?_)) ?_ | refine AK.retV (rs := [.cell 4 _, .tmp 5]) (L' := L) (F' := F) Tryz.results6 (.agg (j := 0) rfl rfl rfl (.tmp rfl .nil)) (by repeat (first | exact Sub.refl _ _ | refine Sub.trans Sub.drop ?_ | refine Sub.trans Sub.dropF ?_)) ?_
      have hh := h
      unfold nextS at hh
      (repeat' split at hh) <;> first | exact hh | (exfalso; omega) | (exfalso; simp_all; done)
    · refine AL.go (AO.pickF rfl rfl rfl (AL.go (AO.move rfl rfl (AL.yes rfl rfl (AO.move rfl rfl ?_)))))
      refine AL.yes rfl rfl (AO.gtr rfl rfl rfl (fun c19 => ?_) (fun c19 => ?_))
      · refine AL.go (AO.pickF rfl rfl rfl (AL.nil (AK.seqN (AC.condT rfl (AC.seq (AC.region ?_))))))
        refine AL.go (AO.build rfl rfl rfl ?_)
        refine AL.go (AO.storeBA rfl rfl rfl rfl ?_)
        refine AL.go (AO.assign rfl rfl (AL.nil (AK.seqN (AC.ret (AK.seqR ?_)))))
        first | refine AK.retV (rs := [.cell 4 _, .tmp 5]) (L' := L) (F' := F) Tryz.results6 (.agg (j := 1) rfl rfl rfl (.tmp rfl .nil)) (by repeat (first | exact Sub.refl _ _ | refine Sub.trans Sub.drop ?_ | refine Sub.trans Sub.dropF ?_)) ?_ | refine AK.retV (rs := [.cell 4 _, .tmp 5]) (L' := L) (F' := F) Tryz.results6 (.agg (j := 0) rfl rfl rfl (.tmp rfl .nil)) (by repeat (first | exact Sub.refl _ _ | refine Sub.trans Sub.drop ?_ | refine Sub.trans Sub.dropF ?_)) ?_
        have hh := h
        unfold nextS at hh
        (repeat' split at hh) <;> first | exact hh | (exfalso; omega) | (exfalso; simp_all; done)
      · refine AL.go (AO.pickF rfl rfl rfl (AL.nil (AK.seqN (AC.condF rfl (AC.skip (AK.seqN ?_))))))
        refine AC.seq (AC.region (AL.go (AO.move rfl rfl ?_)))
        refine AL.go (AO.geq rfl rfl rfl (fun c23 => ?_) (fun c23 => ?_))
        · refine AL.go (AO.move rfl rfl (AL.yes rfl rfl (AO.field rfl rfl ?_)))
          refine AL.yes rfl rfl (AO.loadB rfl rfl ?_)
          refine AL.yes rfl rfl (AO.gtr rfl rfl rfl (fun c27 => ?_) (fun c27 => ?_))
          · refine AL.go (AO.pickT rfl rfl rfl (AL.go (AO.assign rfl rfl (AL.nil (AK.seqN (AC.seq (AC.region ?_)))))))
            refine AL.go (AO.field rfl rfl ?_)
            refine AL.go (AO.loadB rfl rfl ?_)
            refine AL.go (AO.len rfl rfl (fun hl31 => ?_) (hm := by repeat (first | exact mem0 | assumption | refine memS ?_)))
            refine AL.go (AO.gtr rfl rfl rfl (fun c32 => ?_) (fun c32 => ?_))
            · refine AL.go (AO.assign rfl rfl (AL.nil (AK.seqN (AC.seq (AC.region (AL.go (AO.field rfl rfl ?_)))))))
              refine AL.go (AO.loadB rfl rfl ?_)
              refine AL.go (AO.field rfl rfl ?_)
              refine AL.go (AO.loadB rfl rfl ?_)
              refine AL.go (AO.field rfl rfl ?_)
              refine AL.go (AO.loadB rfl rfl ?_)
              refine AL.go (AO.build rfl rfl rfl (AL.go (AO.alloc rfl (fun b8 => ?_))))
              refine AL.go (AO.storeBA rfl rfl rfl rfl ?_)
              refine AL.nil (AK.seqN (AC.seq (AC.region (AL.go (AO.field rfl rfl (AL.go (AO.assign rfl rfl ?_)))))))
              refine AL.nil (AK.seqN (AC.seq (AC.block (AC.seq (AC.region ?_)))))
              refine AL.go (AO.move rfl rfl (AL.go (AO.assign rfl rfl (AL.nil (AK.seqN (AC.condT rfl (AC.seq ?_)))))))
              refine AC.seq (AC.region (AL.go (AO.move rfl rfl (AL.go (AO.move rfl rfl (AL.yes rfl rfl (AO.field rfl rfl ?_)))))))
              refine AL.yes rfl rfl (AO.loadB rfl rfl ?_)
              refine AL.yes rfl rfl (AO.eql rfl rfl rfl (fun c47 => ?_) (fun c47 => ?_))
              · refine AL.go (AO.pickT rfl rfl rfl (AL.go (AO.move rfl rfl (AL.yes rfl rfl (AO.field rfl rfl ?_)))))
                refine AL.yes rfl rfl (AO.loadB rfl rfl ?_)
                refine AL.yes rfl rfl (AO.eql rfl rfl rfl (fun c52 => ?_) (fun c52 => ?_))
                · refine AL.go (AO.pickT rfl rfl rfl (AL.nil (AK.seqN (AC.condT rfl (AC.seq (AC.region ?_))))))
                  refine AL.go (AO.loadBA rfl rfl ?_)
                  refine AL.go (AO.storeBA rfl rfl rfl rfl ?_)
                  refine AL.go (AO.assign rfl rfl (AL.nil (AK.seqN (AC.ret (AK.seqR (AK.blkR ?_))))))
                  refine AK.seqR ?_
                  first | refine AK.retV (rs := [.cell 4 _, .tmp 5]) (L' := L) (F' := F) Tryz.results6 (.agg (j := 1) rfl rfl rfl (.tmp rfl .nil)) (by repeat (first | exact Sub.refl _ _ | refine Sub.trans Sub.drop ?_ | refine Sub.trans Sub.dropF ?_)) ?_ | refine AK.retV (rs := [.cell 4 _, .tmp 5]) (L' := L) (F' := F) Tryz.results6 (.agg (j := 0) rfl rfl rfl (.tmp rfl .nil)) (by repeat (first | exact Sub.refl _ _ | refine Sub.trans Sub.drop ?_ | refine Sub.trans Sub.dropF ?_)) ?_
                  have hh := h
                  unfold nextS at hh
                  (repeat' split at hh) <;> first | exact hh | (exfalso; omega) | (exfalso; simp_all; done)
                · refine AL.go (AO.pickT rfl rfl rfl (AL.nil (AK.seqN (AC.condF rfl (AC.skip (AK.seqN ?_))))))
                  refine AC.region (AL.go (AO.field rfl rfl (AL.go (AO.assign rfl rfl (AL.go (AO.field rfl rfl ?_))))))
                  refine AL.go (AO.storeB rfl rfl rfl ?_)
                  refine AL.go (AO.field rfl rfl ?_)
                  refine AL.go (AO.storeB rfl rfl rfl ?_)
                  refine AL.nil (AK.blkN (AK.seqN (AC.seq (AC.seq (AC.region ?_)))))
                  refine AL.go (AO.move rfl rfl ?_)
                  refine AL.go (AO.nilCheckP rfl rfl ?_)
                  refine AL.go (AO.loadB rfl rfl ?_)
                  refine AL.go (AO.eql rfl rfl rfl (fun c76 => ?_) (fun c76 => ?_))
                  · refine AL.nil (AK.seqN (AC.condT rfl (AC.seq (AC.region (AL.go (AO.build rfl rfl rfl ?_))))))
                    refine AL.go (AO.storeBA rfl rfl rfl rfl ?_)
                    refine AL.go (AO.assign rfl rfl (AL.nil (AK.seqN (AC.ret (AK.seqR ?_)))))
                    first | refine AK.retV (rs := [.cell 4 _, .tmp 5]) (L' := L) (F' := F) Tryz.results6 (.agg (j := 1) rfl rfl rfl (.tmp rfl .nil)) (by repeat (first | exact Sub.refl _ _ | refine Sub.trans Sub.drop ?_ | refine Sub.trans Sub.dropF ?_)) ?_ | refine AK.retV (rs := [.cell 4 _, .tmp 5]) (L' := L) (F' := F) Tryz.results6 (.agg (j := 0) rfl rfl rfl (.tmp rfl .nil)) (by repeat (first | exact Sub.refl _ _ | refine Sub.trans Sub.drop ?_ | refine Sub.trans Sub.dropF ?_)) ?_
                    have hh := h
                    unfold nextS at hh
                    (repeat' split at hh) <;> first | exact hh | (exfalso; omega) | (exfalso; simp_all; done)
                  · refine AL.nil (AK.seqN (AC.condF rfl (AC.skip (AK.seqN (AC.seq ?_)))))
                    refine AC.region (AL.go (AO.move rfl rfl ?_))
                    refine AL.go (AO.nilCheckP rfl rfl ?_)
                    refine AL.go (AO.loadB rfl rfl ?_)
                    refine AL.go (AO.add rfl rfl rfl (by omega) (by omega) ?_)
                    refine AL.go (AO.nilCheckP rfl rfl ?_)
                    refine AL.go (AO.storeB rfl rfl rfl ?_)
                    refine AL.nil (AK.seqN (AC.seq (AC.region ?_)))
                    refine AL.go (AO.loadBA rfl rfl ?_)
                    refine AL.go (AO.storeBA rfl rfl rfl rfl ?_)
                    refine AL.go (AO.assign rfl rfl (AL.nil (AK.seqN (AC.ret ?_))))
                    first | refine AK.retV (rs := [.cell 4 _, .tmp 5]) (L' := L) (F' := F) Tryz.results6 (.agg (j := 1) rfl rfl rfl (.tmp rfl .nil)) (by repeat (first | exact Sub.refl _ _ | refine Sub.trans Sub.drop ?_ | refine Sub.trans Sub.dropF ?_)) ?_ | refine AK.retV (rs := [.cell 4 _, .tmp 5]) (L' := L) (F' := F) Tryz.results6 (.agg (j := 0) rfl rfl rfl (.tmp rfl .nil)) (by repeat (first | exact Sub.refl _ _ | refine Sub.trans Sub.drop ?_ | refine Sub.trans Sub.dropF ?_)) ?_
                    have hh := h
                    unfold nextS at hh
                    (repeat' split at hh) <;> first | exact hh | (exfalso; omega) | (exfalso; simp_all; done)
              · refine AL.go (AO.pickT rfl rfl rfl (AL.go (AO.move rfl rfl (AL.no rfl rfl rfl rfl (AL.no rfl rfl rfl rfl (AL.no rfl rfl rfl rfl (AL.go (AO.pickF rfl rfl rfl ?_))))))))
                refine AL.nil (AK.seqN (AC.condF rfl (AC.skip (AK.seqN (AC.region ?_)))))
                refine AL.go (AO.field rfl rfl (AL.go (AO.assign rfl rfl (AL.go (AO.field rfl rfl ?_)))))
                refine AL.go (AO.storeB rfl rfl rfl ?_)
                refine AL.go (AO.field rfl rfl ?_)
                refine AL.go (AO.storeB rfl rfl rfl ?_)
                refine AL.nil (AK.blkN (AK.seqN (AC.seq (AC.seq (AC.region ?_)))))
                refine AL.go (AO.move rfl rfl ?_)
                refine AL.go (AO.nilCheckP rfl rfl ?_)
                refine AL.go (AO.loadB rfl rfl ?_)
                refine AL.go (AO.eql rfl rfl rfl (fun c76 => ?_) (fun c76 => ?_))
                · refine AL.nil (AK.seqN (AC.condT rfl (AC.seq (AC.region (AL.go (AO.build rfl rfl rfl ?_))))))
                  refine AL.go (AO.storeBA rfl rfl rfl rfl ?_)
                  refine AL.go (AO.assign rfl rfl (AL.nil (AK.seqN (AC.ret (AK.seqR ?_)))))
                  first | refine AK.retV (rs := [.cell 4 _, .tmp 5]) (L' := L) (F' := F) Tryz.results6 (.agg (j := 1) rfl rfl rfl (.tmp rfl .nil)) (by repeat (first | exact Sub.refl _ _ | refine Sub.trans Sub.drop ?_ | refine Sub.trans Sub.dropF ?_)) ?_ | refine AK.retV (rs := [.cell 4 _, .tmp 5]) (L' := L) (F' := F) Tryz.results6 (.agg (j := 0) rfl rfl rfl (.tmp rfl .nil)) (by repeat (first | exact Sub.refl _ _ | refine Sub.trans Sub.drop ?_ | refine Sub.trans Sub.dropF ?_)) ?_
                  have hh := h
                  unfold nextS at hh
                  (repeat' split at hh) <;> first | exact hh | (exfalso; omega) | (exfalso; simp_all; done)
                · refine AL.nil (AK.seqN (AC.condF rfl (AC.skip (AK.seqN (AC.seq ?_)))))
                  refine AC.region (AL.go (AO.move rfl rfl ?_))
                  refine AL.go (AO.nilCheckP rfl rfl ?_)
                  refine AL.go (AO.loadB rfl rfl ?_)
                  refine AL.go (AO.add rfl rfl rfl (by omega) (by omega) ?_)
                  refine AL.go (AO.nilCheckP rfl rfl ?_)
                  refine AL.go (AO.storeB rfl rfl rfl ?_)
                  refine AL.nil (AK.seqN (AC.seq (AC.region ?_)))
                  refine AL.go (AO.loadBA rfl rfl ?_)
                  refine AL.go (AO.storeBA rfl rfl rfl rfl ?_)
                  refine AL.go (AO.assign rfl rfl (AL.nil (AK.seqN (AC.ret ?_))))
                  first | refine AK.retV (rs := [.cell 4 _, .tmp 5]) (L' := L) (F' := F) Tryz.results6 (.agg (j := 1) rfl rfl rfl (.tmp rfl .nil)) (by repeat (first | exact Sub.refl _ _ | refine Sub.trans Sub.drop ?_ | refine Sub.trans Sub.dropF ?_)) ?_ | refine AK.retV (rs := [.cell 4 _, .tmp 5]) (L' := L) (F' := F) Tryz.results6 (.agg (j := 0) rfl rfl rfl (.tmp rfl .nil)) (by repeat (first | exact Sub.refl _ _ | refine Sub.trans Sub.drop ?_ | refine Sub.trans Sub.dropF ?_)) ?_
                  have hh := h
                  unfold nextS at hh
                  (repeat' split at hh) <;> first | exact hh | (exfalso; omega) | (exfalso; simp_all; done)
            · refine AL.go (AO.assign rfl rfl (AL.nil (AK.seqN (AC.seq (AC.region (AL.go (AO.field rfl rfl ?_)))))))
              refine AL.go (AO.loadB rfl rfl ?_)
              refine AL.go (AO.field rfl rfl ?_)
              refine AL.go (AO.loadB rfl rfl ?_)
              refine AL.go (AO.field rfl rfl ?_)
              refine AL.go (AO.loadB rfl rfl ?_)
              refine AL.go (AO.build rfl rfl rfl (AL.go (AO.alloc rfl (fun b8 => ?_))))
              refine AL.go (AO.storeBA rfl rfl rfl rfl ?_)
              refine AL.nil (AK.seqN (AC.seq (AC.region (AL.go (AO.field rfl rfl (AL.go (AO.assign rfl rfl ?_)))))))
              refine AL.nil (AK.seqN (AC.seq (AC.block (AC.seq (AC.region ?_)))))
              refine AL.go (AO.move rfl rfl (AL.go (AO.assign rfl rfl (AL.nil (AK.seqN (AC.condT rfl (AC.seq ?_)))))))
              refine AC.seq (AC.region (AL.go (AO.move rfl rfl (AL.go (AO.move rfl rfl (AL.no rfl rfl rfl rfl (AL.no rfl rfl rfl rfl ?_)))))))
              refine AL.no rfl rfl rfl rfl (AL.go (AO.pickF rfl rfl rfl (AL.go (AO.move rfl rfl (AL.no rfl rfl rfl rfl (AL.no rfl rfl rfl rfl (AL.no rfl rfl rfl rfl ?_)))))))
              refine AL.go (AO.pickF rfl rfl rfl (AL.nil (AK.seqN (AC.condF rfl (AC.skip (AK.seqN ?_))))))
              refine AC.region (AL.go (AO.field rfl rfl (AL.go (AO.assign rfl rfl (AL.go (AO.field rfl rfl ?_))))))
              refine AL.go (AO.storeB rfl rfl rfl ?_)
              refine AL.go (AO.field rfl rfl ?_)
              refine AL.go (AO.storeB rfl rfl rfl ?_)
              refine AL.nil (AK.blkN (AK.seqN (AC.seq (AC.seq (AC.region ?_)))))
              refine AL.go (AO.move rfl rfl ?_)
              refine AL.go (AO.nilCheckP rfl rfl ?_)
              refine AL.go (AO.loadB rfl rfl ?_)
              refine AL.go (AO.eql rfl rfl rfl (fun c76 => ?_) (fun c76 => ?_))
              · refine AL.nil (AK.seqN (AC.condT rfl (AC.seq (AC.region (AL.go (AO.build rfl rfl rfl ?_))))))
                refine AL.go (AO.storeBA rfl rfl rfl rfl ?_)
                refine AL.go (AO.assign rfl rfl (AL.nil (AK.seqN (AC.ret (AK.seqR ?_)))))
                first | refine AK.retV (rs := [.cell 4 _, .tmp 5]) (L' := L) (F' := F) Tryz.results6 (.agg (j := 1) rfl rfl rfl (.tmp rfl .nil)) (by repeat (first | exact Sub.refl _ _ | refine Sub.trans Sub.drop ?_ | refine Sub.trans Sub.dropF ?_)) ?_ | refine AK.retV (rs := [.cell 4 _, .tmp 5]) (L' := L) (F' := F) Tryz.results6 (.agg (j := 0) rfl rfl rfl (.tmp rfl .nil)) (by repeat (first | exact Sub.refl _ _ | refine Sub.trans Sub.drop ?_ | refine Sub.trans Sub.dropF ?_)) ?_
                have hh := h
                unfold nextS at hh
                (repeat' split at hh) <;> first | exact hh | (exfalso; omega) | (exfalso; simp_all; done)
              · refine AL.nil (AK.seqN (AC.condF rfl (AC.skip (AK.seqN (AC.seq ?_)))))
                refine AC.region (AL.go (AO.move rfl rfl ?_))
                refine AL.go (AO.nilCheckP rfl rfl ?_)
                refine AL.go (AO.loadB rfl rfl ?_)
                refine AL.go (AO.add rfl rfl rfl (by omega) (by omega) ?_)
                refine AL.go (AO.nilCheckP rfl rfl ?_)
                refine AL.go (AO.storeB rfl rfl rfl ?_)
                refine AL.nil (AK.seqN (AC.seq (AC.region ?_)))
                refine AL.go (AO.loadBA rfl rfl ?_)
                refine AL.go (AO.storeBA rfl rfl rfl rfl ?_)
                refine AL.go (AO.assign rfl rfl (AL.nil (AK.seqN (AC.ret ?_))))
                first | refine AK.retV (rs := [.cell 4 _, .tmp 5]) (L' := L) (F' := F) Tryz.results6 (.agg (j := 1) rfl rfl rfl (.tmp rfl .nil)) (by repeat (first | exact Sub.refl _ _ | refine Sub.trans Sub.drop ?_ | refine Sub.trans Sub.dropF ?_)) ?_ | refine AK.retV (rs := [.cell 4 _, .tmp 5]) (L' := L) (F' := F) Tryz.results6 (.agg (j := 0) rfl rfl rfl (.tmp rfl .nil)) (by repeat (first | exact Sub.refl _ _ | refine Sub.trans Sub.drop ?_ | refine Sub.trans Sub.dropF ?_)) ?_
                have hh := h
                unfold nextS at hh
                (repeat' split at hh) <;> first | exact hh | (exfalso; omega) | (exfalso; simp_all; done)
          · refine AL.go (AO.pickT rfl rfl rfl (AL.go (AO.assign rfl rfl (AL.nil (AK.seqN (AC.seq (AC.region ?_)))))))
            refine AL.go (AO.field rfl rfl ?_)
            refine AL.go (AO.loadB rfl rfl ?_)
            refine AL.go (AO.len rfl rfl (fun hl31 => ?_) (hm := by repeat (first | exact mem0 | assumption | refine memS ?_)))
            refine AL.go (AO.gtr rfl rfl rfl (fun c32 => ?_) (fun c32 => ?_))
            · refine AL.go (AO.assign rfl rfl (AL.nil (AK.seqN (AC.seq (AC.region (AL.go (AO.field rfl rfl ?_)))))))
              refine AL.go (AO.loadB rfl rfl ?_)
              refine AL.go (AO.field rfl rfl ?_)
              refine AL.go (AO.loadB rfl rfl ?_)
              refine AL.go (AO.field rfl rfl ?_)
              refine AL.go (AO.loadB rfl rfl ?_)
              refine AL.go (AO.build rfl rfl rfl (AL.go (AO.alloc rfl (fun b8 => ?_))))
              refine AL.go (AO.storeBA rfl rfl rfl rfl ?_)
              refine AL.nil (AK.seqN (AC.seq (AC.region (AL.go (AO.field rfl rfl (AL.go (AO.assign rfl rfl ?_)))))))
              refine AL.nil (AK.seqN (AC.seq (AC.block (AC.seq (AC.region ?_)))))
              refine AL.go (AO.move rfl rfl (AL.go (AO.assign rfl rfl (AL.nil (AK.seqN (AC.condF rfl (AC.seq ?_)))))))
              refine AC.region (AL.go (AO.move rfl rfl ?_))
              refine AL.go (AO.gtr rfl rfl rfl (fun c60 => ?_) (fun c60 => ?_))
              · refine AL.go (AO.assign rfl rfl (AL.nil (AK.seqN (AC.condT rfl (AC.seq (AC.seq ?_))))))
                refine AC.region (AL.go (AO.move rfl rfl (AL.go (AO.move rfl rfl (AL.yes rfl rfl (AO.field rfl rfl ?_))))))
                refine AL.yes rfl rfl (AO.loadB rfl rfl ?_)
                refine AL.yes rfl rfl (AO.eql rfl rfl rfl (fun c65 => ?_) (fun c65 => ?_))
                · refine AL.go (AO.pickT rfl rfl rfl (AL.nil (AK.seqN (AC.condT rfl (AC.seq (AC.region ?_))))))
                  refine AL.go (AO.loadBA rfl rfl ?_)
                  refine AL.go (AO.storeBA rfl rfl rfl rfl ?_)
                  refine AL.go (AO.assign rfl rfl (AL.nil (AK.seqN (AC.ret (AK.seqR (AK.blkR ?_))))))
                  refine AK.seqR ?_
                  first | refine AK.retV (rs := [.cell 4 _, .tmp 5]) (L' := L) (F' := F) Tryz.results6 (.agg (j := 1) rfl rfl rfl (.tmp rfl .nil)) (by repeat (first | exact Sub.refl _ _ | refine Sub.trans Sub.drop ?_ | refine Sub.trans Sub.dropF ?_)) ?_ | refine AK.retV (rs := [.cell 4 _, .tmp 5]) (L' := L) (F' := F) Tryz.results6 (.agg (j := 0) rfl rfl rfl (.tmp rfl .nil)) (by repeat (first | exact Sub.refl _ _ | refine Sub.trans Sub.drop ?_ | refine Sub.trans Sub.dropF ?_)) ?_
                  have hh := h
                  unfold nextS at hh
                  (repeat' split at hh) <;> first | exact hh | (exfalso; omega) | (exfalso; simp_all; done)
                · refine AL.go (AO.pickT rfl rfl rfl (AL.nil (AK.seqN (AC.condF rfl (AC.skip (AK.seqN ?_))))))
                  refine AC.region (AL.go (AO.field rfl rfl (AL.go (AO.assign rfl rfl (AL.go (AO.field rfl rfl ?_))))))
                  refine AL.go (AO.storeB rfl rfl rfl ?_)
                  refine AL.nil (AK.blkN (AK.seqN (AC.seq (AC.seq (AC.region ?_)))))
                  refine AL.go (AO.move rfl rfl ?_)
                  refine AL.go (AO.nilCheckP rfl rfl ?_)
                  refine AL.go (AO.loadB rfl rfl ?_)
                  refine AL.go (AO.eql rfl rfl rfl (fun c76 => ?_) (fun c76 => ?_))
                  · refine AL.nil (AK.seqN (AC.condT rfl (AC.seq (AC.region (AL.go (AO.build rfl rfl rfl ?_))))))
                    refine AL.go (AO.storeBA rfl rfl rfl rfl ?_)
                    refine AL.go (AO.assign rfl rfl (AL.nil (AK.seqN (AC.ret (AK.seqR ?_)))))
                    first | refine AK.retV (rs := [.cell 4 _, .tmp 5]) (L' := L) (F' := F) Tryz.results6 (.agg (j := 1) rfl rfl rfl (.tmp rfl .nil)) (by repeat (first | exact Sub.refl _ _ | refine Sub.trans Sub.drop ?_ | refine Sub.trans Sub.dropF ?_)) ?_ | refine AK.retV (rs := [.cell 4 _, .tmp 5]) (L' := L) (F' := F) Tryz.results6 (.agg (j := 0) rfl rfl rfl (.tmp rfl .nil)) (by repeat (first | exact Sub.refl _ _ | refine Sub.trans Sub.drop ?_ | refine Sub.trans Sub.dropF ?_)) ?_
                    have hh := h
                    unfold nextS at hh
                    (repeat' split at hh) <;> first | exact hh | (exfalso; omega) | (exfalso; simp_all; done)
                  · refine AL.nil (AK.seqN (AC.condF rfl (AC.skip (AK.seqN (AC.seq ?_)))))
                    refine AC.region (AL.go (AO.move rfl rfl ?_))
                    refine AL.go (AO.nilCheckP rfl rfl ?_)
                    refine AL.go (AO.loadB rfl rfl ?_)
                    refine AL.go (AO.add rfl rfl rfl (by omega) (by omega) ?_)
                    refine AL.go (AO.nilCheckP rfl rfl ?_)
                    refine AL.go (AO.storeB rfl rfl rfl ?_)
                    refine AL.nil (AK.seqN (AC.seq (AC.region ?_)))
                    refine AL.go (AO.loadBA rfl rfl ?_)
                    refine AL.go (AO.storeBA rfl rfl rfl rfl ?_)
                    refine AL.go (AO.assign rfl rfl (AL.nil (AK.seqN (AC.ret ?_))))
                    first | refine AK.retV (rs := [.cell 4 _, .tmp 5]) (L' := L) (F' := F) Tryz.results6 (.agg (j := 1) rfl rfl rfl (.tmp rfl .nil)) (by repeat (first | exact Sub.refl _ _ | refine Sub.trans Sub.drop ?_ | refine Sub.trans Sub.dropF ?_)) ?_ | refine AK.retV (rs := [.cell 4 _, .tmp 5]) (L' := L) (F' := F) Tryz.results6 (.agg (j := 0) rfl rfl rfl (.tmp rfl .nil)) (by repeat (first | exact Sub.refl _ _ | refine Sub.trans Sub.drop ?_ | refine Sub.trans Sub.dropF ?_)) ?_
                    have hh := h
                    unfold nextS at hh
                    (repeat' split at hh) <;> first | exact hh | (exfalso; omega) | (exfalso; simp_all; done)
              · refine AL.go (AO.assign rfl rfl (AL.nil (AK.seqN (AC.condF rfl (AC.seq (AC.region ?_))))))
                refine AL.go (AO.move rfl rfl (AL.go (AO.assign rfl rfl (AL.nil (AK.seqN (AC.condT rfl (AC.seq ?_)))))))
                refine AC.region ?_
                refine AL.go (AO.loadBA rfl rfl ?_)
                refine AL.go (AO.storeBA rfl rfl rfl rfl ?_)
                refine AL.go (AO.assign rfl rfl (AL.nil (AK.seqN (AC.ret (AK.blkR (AK.seqR ?_))))))
                first | refine AK.retV (rs := [.cell 4 _, .tmp 5]) (L' := L) (F' := F) Tryz.results6 (.agg (j := 1) rfl rfl rfl (.tmp rfl .nil)) (by repeat (first | exact Sub.refl _ _ | refine Sub.trans Sub.drop ?_ | refine Sub.trans Sub.dropF ?_)) ?_ | refine AK.retV (rs := [.cell 4 _, .tmp 5]) (L' := L) (F' := F) Tryz.results6 (.agg (j := 0) rfl rfl rfl (.tmp rfl .nil)) (by repeat (first | exact Sub.refl _ _ | refine Sub.trans Sub.drop ?_ | refine Sub.trans Sub.dropF ?_)) ?_
                have hh := h
                unfold nextS at hh
                (repeat' split at hh) <;> first | exact hh | (exfalso; omega) | (exfalso; simp_all; done)
            · refine AL.go (AO.assign rfl rfl (AL.nil (AK.seqN (AC.seq (AC.region (AL.go (AO.field rfl rfl ?_)))))))
              refine AL.go (AO.loadB rfl rfl ?_)
              refine AL.go (AO.field rfl rfl ?_)
              refine AL.go (AO.loadB rfl rfl ?_)
              refine AL.go (AO.field rfl rfl ?_)
              refine AL.go (AO.loadB rfl rfl ?_)
              refine AL.go (AO.build rfl rfl rfl (AL.go (AO.alloc rfl (fun b8 => ?_))))
              refine AL.go (AO.storeBA rfl rfl rfl rfl ?_)
              refine AL.nil (AK.seqN (AC.seq (AC.region (AL.go (AO.field rfl rfl (AL.go (AO.assign rfl rfl ?_)))))))
              refine AL.nil (AK.seqN (AC.seq (AC.block (AC.seq (AC.region ?_)))))
              refine AL.go (AO.move rfl rfl (AL.go (AO.assign rfl rfl (AL.nil (AK.seqN (AC.condF rfl (AC.seq ?_)))))))
              refine AC.region (AL.go (AO.move rfl rfl ?_))
              refine AL.go (AO.gtr rfl rfl rfl (fun c60 => ?_) (fun c60 => ?_))
              · refine AL.go (AO.assign rfl rfl (AL.nil (AK.seqN (AC.condT rfl (AC.seq (AC.seq ?_))))))
                refine AC.region (AL.go (AO.move rfl rfl (AL.go (AO.move rfl rfl (AL.no rfl rfl rfl rfl (AL.no rfl rfl rfl rfl (AL.no rfl rfl rfl rfl ?_)))))))
                refine AL.go (AO.pickF rfl rfl rfl (AL.nil (AK.seqN (AC.condF rfl (AC.skip (AK.seqN ?_))))))
                refine AC.region (AL.go (AO.field rfl rfl (AL.go (AO.assign rfl rfl (AL.go (AO.field rfl rfl ?_))))))
                refine AL.go (AO.storeB rfl rfl rfl ?_)
                refine AL.nil (AK.blkN (AK.seqN (AC.seq (AC.seq (AC.region ?_)))))
                refine AL.go (AO.move rfl rfl ?_)
                refine AL.go (AO.nilCheckP rfl rfl ?_)
                refine AL.go (AO.loadB rfl rfl ?_)
                refine AL.go (AO.eql rfl rfl rfl (fun c76 => ?_) (fun c76 => ?_))
                · refine AL.nil (AK.seqN (AC.condT rfl (AC.seq (AC.region (AL.go (AO.build rfl rfl rfl ?_))))))
                  refine AL.go (AO.storeBA rfl rfl rfl rfl ?_)
                  refine AL.go (AO.assign rfl rfl (AL.nil (AK.seqN (AC.ret (AK.seqR ?_)))))
                  first | refine AK.retV (rs := [.cell 4 _, .tmp 5]) (L' := L) (F' := F) Tryz.results6 (.agg (j := 1) rfl rfl rfl (.tmp rfl .nil)) (by repeat (first | exact Sub.refl _ _ | refine Sub.trans Sub.drop ?_ | refine Sub.trans Sub.dropF ?_)) ?_ | refine AK.retV (rs := [.cell 4 _, .tmp 5]) (L' := L) (F' := F) Tryz.results6 (.agg (j := 0) rfl rfl rfl (.tmp rfl .nil)) (by repeat (first | exact Sub.refl _ _ | refine Sub.trans Sub.drop ?_ | refine Sub.trans Sub.dropF ?_)) ?_
                  have hh := h
                  unfold nextS at hh
                  (repeat' split at hh) <;> first | exact hh | (exfalso; omega) | (exfalso; simp_all; done)
                · refine AL.nil (AK.seqN (AC.condF rfl (AC.skip (AK.seqN (AC.seq ?_)))))
                  refine AC.region (AL.go (AO.move rfl rfl ?_))
                  refine AL.go (AO.nilCheckP rfl rfl ?_)
                  refine AL.go (AO.loadB rfl rfl ?_)
                  refine AL.go (AO.add rfl rfl rfl (by omega) (by omega) ?_)
                  refine AL.go (AO.nilCheckP rfl rfl ?_)
                  refine AL.go (AO.storeB rfl rfl rfl ?_)
                  refine AL.nil (AK.seqN (AC.seq (AC.region ?_)))
                  refine AL.go (AO.loadBA rfl rfl ?_)
                  refine AL.go (AO.storeBA rfl rfl rfl rfl ?_)
                  refine AL.go (AO.assign rfl rfl (AL.nil (AK.seqN (AC.ret ?_))))
                  first | refine AK.retV (rs := [.cell 4 _, .tmp 5]) (L' := L) (F' := F) Tryz.results6 (.agg (j := 1) rfl rfl rfl (.tmp rfl .nil)) (by repeat (first | exact Sub.refl _ _ | refine Sub.trans Sub.drop ?_ | refine Sub.trans Sub.dropF ?_)) ?_ | refine AK.retV (rs := [.cell 4 _, .tmp 5]) (L' := L) (F' := F) Tryz.results6 (.agg (j := 0) rfl rfl rfl (.tmp rfl .nil)) (by repeat (first | exact Sub.refl _ _ | refine Sub.trans Sub.drop ?_ | refine Sub.trans Sub.dropF ?_)) ?_
                  have hh := h
                  unfold nextS at hh
                  (repeat' split at hh) <;> first | exact hh | (exfalso; omega) | (exfalso; simp_all; done)
              · refine AL.go (AO.assign rfl rfl (AL.nil (AK.seqN (AC.condF rfl (AC.seq (AC.region ?_))))))
                refine AL.go (AO.move rfl rfl (AL.go (AO.assign rfl rfl (AL.nil (AK.seqN (AC.condF rfl (AC.skip ?_)))))))
                refine AK.blkN (AK.seqN (AC.seq (AC.seq (AC.region (AL.go (AO.move rfl rfl ?_))))))
                refine AL.go (AO.nilCheckP rfl rfl ?_)
                refine AL.go (AO.loadB rfl rfl ?_)
                refine AL.go (AO.eql rfl rfl rfl (fun c76 => ?_) (fun c76 => ?_))
                · refine AL.nil (AK.seqN (AC.condT rfl (AC.seq (AC.region (AL.go (AO.build rfl rfl rfl ?_))))))
                  refine AL.go (AO.storeBA rfl rfl rfl rfl ?_)
                  refine AL.go (AO.assign rfl rfl (AL.nil (AK.seqN (AC.ret (AK.seqR ?_)))))
                  first | refine AK.retV (rs := [.cell 4 _, .tmp 5]) (L' := L) (F' := F) Tryz.results6 (.agg (j := 1) rfl rfl rfl (.tmp rfl .nil)) (by repeat (first | exact Sub.refl _ _ | refine Sub.trans Sub.drop ?_ | refine Sub.trans Sub.dropF ?_)) ?_ | refine AK.retV (rs := [.cell 4 _, .tmp 5]) (L' := L) (F' := F) Tryz.results6 (.agg (j := 0) rfl rfl rfl (.tmp rfl .nil)) (by repeat (first | exact Sub.refl _ _ | refine Sub.trans Sub.drop ?_ | refine Sub.trans Sub.dropF ?_)) ?_
                  have hh := h
                  unfold nextS at hh
                  (repeat' split at hh) <;> first | exact hh | (exfalso; omega) | (exfalso; simp_all; done)
                · refine AL.nil (AK.seqN (AC.condF rfl (AC.skip (AK.seqN (AC.seq ?_)))))
                  refine AC.region (AL.go (AO.move rfl rfl ?_))
                  refine AL.go (AO.nilCheckP rfl rfl ?_)
                  refine AL.go (AO.loadB rfl rfl ?_)
                  refine AL.go (AO.add rfl rfl rfl (by omega) (by omega) ?_)
                  refine AL.go (AO.nilCheckP rfl rfl ?_)
                  refine AL.go (AO.storeB rfl rfl rfl ?_)
                  refine AL.nil (AK.seqN (AC.seq (AC.region ?_)))
                  refine AL.go (AO.loadBA rfl rfl ?_)
                  refine AL.go (AO.storeBA rfl rfl rfl rfl ?_)
                  refine AL.go (AO.assign rfl rfl (AL.nil (AK.seqN (AC.ret ?_))))
                  first | refine AK.retV (rs := [.cell 4 _, .tmp 5]) (L' := L) (F' := F) Tryz.results6 (.agg (j := 1) rfl rfl rfl (.tmp rfl .nil)) (by repeat (first | exact Sub.refl _ _ | refine Sub.trans Sub.drop ?_ | refine Sub.trans Sub.dropF ?_)) ?_ | refine AK.retV (rs := [.cell 4 _, .tmp 5]) (L' := L) (F' := F) Tryz.results6 (.agg (j := 0) rfl rfl rfl (.tmp rfl .nil)) (by repeat (first | exact Sub.refl _ _ | refine Sub.trans Sub.drop ?_ | refine Sub.trans Sub.dropF ?_)) ?_
                  have hh := h
                  unfold nextS at hh
                  (repeat' split at hh) <;> first | exact hh | (exfalso; omega) | (exfalso; simp_all; done)
        · refine AL.go (AO.move rfl rfl (AL.no rfl rfl rfl rfl (AL.no rfl rfl rfl rfl (AL.no rfl rfl rfl rfl (AL.go (AO.pickF rfl rfl rfl (AL.go (AO.assign rfl rfl ?_))))))))
          refine AL.nil (AK.seqN (AC.seq (AC.region (AL.go (AO.field rfl rfl ?_)))))
          refine AL.go (AO.loadB rfl rfl ?_)
          refine AL.go (AO.len rfl rfl (fun hl31 => ?_) (hm := by repeat (first | exact mem0 | assumption | refine memS ?_)))
          refine AL.go (AO.gtr rfl rfl rfl (fun c32 => ?_) (fun c32 => ?_))
          · refine AL.go (AO.assign rfl rfl (AL.nil (AK.seqN (AC.seq (AC.region (AL.go (AO.field rfl rfl ?_)))))))
            refine AL.go (AO.loadB rfl rfl ?_)
            refine AL.go (AO.field rfl rfl ?_)
            refine AL.go (AO.loadB rfl rfl ?_)
            refine AL.go (AO.field rfl rfl ?_)
            refine AL.go (AO.loadB rfl rfl ?_)
            refine AL.go (AO.build rfl rfl rfl (AL.go (AO.alloc rfl (fun b8 => ?_))))
            refine AL.go (AO.storeBA rfl rfl rfl rfl ?_)
            refine AL.nil (AK.seqN (AC.seq (AC.region (AL.go (AO.field rfl rfl (AL.go (AO.assign rfl rfl ?_)))))))
            refine AL.nil (AK.seqN (AC.seq (AC.block (AC.seq (AC.region ?_)))))
            refine AL.go (AO.move rfl rfl (AL.go (AO.assign rfl rfl (AL.nil (AK.seqN (AC.condF rfl (AC.seq ?_)))))))
            refine AC.region (AL.go (AO.move rfl rfl ?_))
            refine AL.go (AO.gtr rfl rfl rfl (fun c60 => ?_) (fun c60 => ?_))
            · refine AL.go (AO.assign rfl rfl (AL.nil (AK.seqN (AC.condT rfl (AC.seq (AC.seq ?_))))))
              refine AC.region (AL.go (AO.move rfl rfl (AL.go (AO.move rfl rfl (AL.yes rfl rfl (AO.field rfl rfl ?_))))))
              refine AL.yes rfl rfl (AO.loadB rfl rfl ?_)
              refine AL.yes rfl rfl (AO.eql rfl rfl rfl (fun c65 => ?_) (fun c65 => ?_))
              · refine AL.go (AO.pickT rfl rfl rfl (AL.nil (AK.seqN (AC.condT rfl (AC.seq (AC.region ?_))))))
                refine AL.go (AO.loadBA rfl rfl ?_)
                refine AL.go (AO.storeBA rfl rfl rfl rfl ?_)
                refine AL.go (AO.assign rfl rfl (AL.nil (AK.seqN (AC.ret (AK.seqR (AK.blkR ?_))))))
                refine AK.seqR ?_
                first | refine AK.retV (rs := [.cell 4 _, .tmp 5]) (L' := L) (F' := F) Tryz.results6 (.agg (j := 1) rfl rfl rfl (.tmp rfl .nil)) (by repeat (first | exact Sub.refl _ _ | refine Sub.trans Sub.drop ?_ | refine Sub.trans Sub.dropF ?_)) ?_ | refine AK.retV (rs := [.cell 4 _, .tmp 5]) (L' := L) (F' := F) Tryz.results6 (.agg (j := 0) rfl rfl rfl (.tmp rfl .nil)) (by repeat (first | exact Sub.refl _ _ | refine Sub.trans Sub.drop ?_ | refine Sub.trans Sub.dropF ?_)) ?_
                have hh := h
                unfold nextS at hh
                (repeat' split at hh) <;> first | exact hh | (exfalso; omega) | (exfalso; simp_all; done)
              · refine AL.go (AO.pickT rfl rfl rfl (AL.nil (AK.seqN (AC.condF rfl (AC.skip (AK.seqN ?_))))))
                refine AC.region (AL.go (AO.field rfl rfl (AL.go (AO.assign rfl rfl (AL.go (AO.field rfl rfl ?_))))))
                refine AL.go (AO.storeB rfl rfl rfl ?_)
                refine AL.nil (AK.blkN (AK.seqN (AC.seq (AC.seq (AC.region ?_)))))
                refine AL.go (AO.move rfl rfl ?_)
                refine AL.go (AO.nilCheckP rfl rfl ?_)
                refine AL.go (AO.loadB rfl rfl ?_)
                refine AL.go (AO.eql rfl rfl rfl (fun c76 => ?_) (fun c76 => ?_))
                · refine AL.nil (AK.seqN (AC.condT rfl (AC.seq (AC.region (AL.go (AO.build rfl rfl rfl ?_))))))
                  refine AL.go (AO.storeBA rfl rfl rfl rfl ?_)
                  refine AL.go (AO.assign rfl rfl (AL.nil (AK.seqN (AC.ret (AK.seqR ?_)))))
                  first | refine AK.retV (rs := [.cell 4 _, .tmp 5]) (L' := L) (F' := F) Tryz.results6 (.agg (j := 1) rfl rfl rfl (.tmp rfl .nil)) (by repeat (first | exact Sub.refl _ _ | refine Sub.trans Sub.drop ?_ | refine Sub.trans Sub.dropF ?_)) ?_ | refine AK.retV (rs := [.cell 4 _, .tmp 5]) (L' := L) (F' := F) Tryz.results6 (.agg (j := 0) rfl rfl rfl (.tmp rfl .nil)) (by repeat (first | exact Sub.refl _ _ | refine Sub.trans Sub.drop ?_ | refine Sub.trans Sub.dropF ?_)) ?_
                  have hh := h
                  unfold nextS at hh
                  (repeat' split at hh) <;> first | exact hh | (exfalso; omega) | (exfalso; simp_all; done)
                · refine AL.nil (AK.seqN (AC.condF rfl (AC.skip (AK.seqN (AC.seq ?_)))))
                  refine AC.region (AL.go (AO.move rfl rfl ?_))
                  refine AL.go (AO.nilCheckP rfl rfl ?_)
                  refine AL.go (AO.loadB rfl rfl ?_)
                  refine AL.go (AO.add rfl rfl rfl (by omega) (by omega) ?_)
                  refine AL.go (AO.nilCheckP rfl rfl ?_)
                  refine AL.go (AO.storeB rfl rfl rfl ?_)
                  refine AL.nil (AK.seqN (AC.seq (AC.region ?_)))
                  refine AL.go (AO.loadBA rfl rfl ?_)
                  refine AL.go (AO.storeBA rfl rfl rfl rfl ?_)
                  refine AL.go (AO.assign rfl rfl (AL.nil (AK.seqN (AC.ret ?_))))
                  first | refine AK.retV (rs := [.cell 4 _, .tmp 5]) (L' := L) (F' := F) Tryz.results6 (.agg (j := 1) rfl rfl rfl (.tmp rfl .nil)) (by repeat (first | exact Sub.refl _ _ | refine Sub.trans Sub.drop ?_ | refine Sub.trans Sub.dropF ?_)) ?_ | refine AK.retV (rs := [.cell 4 _, .tmp 5]) (L' := L) (F' := F) Tryz.results6 (.agg (j := 0) rfl rfl rfl (.tmp rfl .nil)) (by repeat (first | exact Sub.refl _ _ | refine Sub.trans Sub.drop ?_ | refine Sub.trans Sub.dropF ?_)) ?_
                  have hh := h
                  unfold nextS at hh
                  (repeat' split at hh) <;> first | exact hh | (exfalso; omega) | (exfalso; simp_all; done)
            · refine AL.go (AO.assign rfl rfl (AL.nil (AK.seqN (AC.condF rfl (AC.seq (AC.region ?_))))))
              refine AL.go (AO.move rfl rfl (AL.go (AO.assign rfl rfl (AL.nil (AK.seqN (AC.condT rfl (AC.seq ?_)))))))
              refine AC.region ?_
              refine AL.go (AO.loadBA rfl rfl ?_)
              refine AL.go (AO.storeBA rfl rfl rfl rfl ?_)
              refine AL.go (AO.assign rfl rfl (AL.nil (AK.seqN (AC.ret (AK.blkR (AK.seqR ?_))))))
              first | refine AK.retV (rs := [.cell 4 _, .tmp 5]) (L' := L) (F' := F) Tryz.results6 (.agg (j := 1) rfl rfl rfl (.tmp rfl .nil)) (by repeat (first | exact Sub.refl _ _ | refine Sub.trans Sub.drop ?_ | refine Sub.trans Sub.dropF ?_)) ?_ | refine AK.retV (rs := [.cell 4 _, .tmp 5]) (L' := L) (F' := F) Tryz.results6 (.agg (j := 0) rfl rfl rfl (.tmp rfl .nil)) (by repeat (first | exact Sub.refl _ _ | refine Sub.trans Sub.drop ?_ | refine Sub.trans Sub.dropF ?_)) ?_
              have hh := h
              unfold nextS at hh
              (repeat' split at hh) <;> first | exact hh | (exfalso; omega) | (exfalso; simp_all; done)
          · refine AL.go (AO.assign rfl rfl (AL.nil (AK.seqN (AC.seq (AC.region (AL.go (AO.field rfl rfl ?_)))))))
            refine AL.go (AO.loadB rfl rfl ?_)
            refine AL.go (AO.field rfl rfl ?_)
            refine AL.go (AO.loadB rfl rfl ?_)
            refine AL.go (AO.field rfl rfl ?_)
            refine AL.go (AO.loadB rfl rfl ?_)
            refine AL.go (AO.build rfl rfl rfl (AL.go (AO.alloc rfl (fun b8 => ?_))))
            refine AL.go (AO.storeBA rfl rfl rfl rfl ?_)
            refine AL.nil (AK.seqN (AC.seq (AC.region (AL.go (AO.field rfl rfl (AL.go (AO.assign rfl rfl ?_)))))))
            refine AL.nil (AK.seqN (AC.seq (AC.block (AC.seq (AC.region ?_)))))
            refine AL.go (AO.move rfl rfl (AL.go (AO.assign rfl rfl (AL.nil (AK.seqN (AC.condF rfl (AC.seq ?_)))))))
            refine AC.region (AL.go (AO.move rfl rfl ?_))
            refine AL.go (AO.gtr rfl rfl rfl (fun c60 => ?_) (fun c60 => ?_))
            · refine AL.go (AO.assign rfl rfl (AL.nil (AK.seqN (AC.condT rfl (AC.seq (AC.seq ?_))))))
              refine AC.region (AL.go (AO.move rfl rfl (AL.go (AO.move rfl rfl (AL.no rfl rfl rfl rfl (AL.no rfl rfl rfl rfl (AL.no rfl rfl rfl rfl ?_)))))))
              refine AL.go (AO.pickF rfl rfl rfl (AL.nil (AK.seqN (AC.condF rfl (AC.skip (AK.seqN ?_))))))
              refine AC.region (AL.go (AO.field rfl rfl (AL.go (AO.assign rfl rfl (AL.go (AO.field rfl rfl ?_))))))
              refine AL.go (AO.storeB rfl rfl rfl ?_)
              refine AL.nil (AK.blkN (AK.seqN (AC.seq (AC.seq (AC.region ?_)))))
              refine AL.go (AO.move rfl rfl ?_)
              refine AL.go (AO.nilCheckP rfl rfl ?_)
              refine AL.go (AO.loadB rfl rfl ?_)
              refine AL.go (AO.eql rfl rfl rfl (fun c76 => ?_) (fun c76 => ?_))
              · refine AL.nil (AK.seqN (AC.condT rfl (AC.seq (AC.region (AL.go (AO.build rfl rfl rfl ?_))))))
                refine AL.go (AO.storeBA rfl rfl rfl rfl ?_)
                refine AL.go (AO.assign rfl rfl (AL.nil (AK.seqN (AC.ret (AK.seqR ?_)))))
                first | refine AK.retV (rs := [.cell 4 _, .tmp 5]) (L' := L) (F' := F) Tryz.results6 (.agg (j := 1) rfl rfl rfl (.tmp rfl .nil)) (by repeat (first | exact Sub.refl _ _ | refine Sub.trans Sub.drop ?_ | refine Sub.trans Sub.dropF ?_)) ?_ | refine AK.retV (rs := [.cell 4 _, .tmp 5]) (L' := L) (F' := F) Tryz.results6 (.agg (j := 0) rfl rfl rfl (.tmp rfl .nil)) (by repeat (first | exact Sub.refl _ _ | refine Sub.trans Sub.drop ?_ | refine Sub.trans Sub.dropF ?_)) ?_
                have hh := h
                unfold nextS at hh
                (repeat' split at hh) <;> first | exact hh | (exfalso; omega) | (exfalso; simp_all; done)
              · refine AL.nil (AK.seqN (AC.condF rfl (AC.skip (AK.seqN (AC.seq ?_)))))
                refine AC.region (AL.go (AO.move rfl rfl ?_))
                refine AL.go (AO.nilCheckP rfl rfl ?_)
                refine AL.go (AO.loadB rfl rfl ?_)
                refine AL.go (AO.add rfl rfl rfl (by omega) (by omega) ?_)
                refine AL.go (AO.nilCheckP rfl rfl ?_)
                refine AL.go (AO.storeB rfl rfl rfl ?_)
                refine AL.nil (AK.seqN (AC.seq (AC.region ?_)))
                refine AL.go (AO.loadBA rfl rfl ?_)
                refine AL.go (AO.storeBA rfl rfl rfl rfl ?_)
                refine AL.go (AO.assign rfl rfl (AL.nil (AK.seqN (AC.ret ?_))))
                first | refine AK.retV (rs := [.cell 4 _, .tmp 5]) (L' := L) (F' := F) Tryz.results6 (.agg (j := 1) rfl rfl rfl (.tmp rfl .nil)) (by repeat (first | exact Sub.refl _ _ | refine Sub.trans Sub.drop ?_ | refine Sub.trans Sub.dropF ?_)) ?_ | refine AK.retV (rs := [.cell 4 _, .tmp 5]) (L' := L) (F' := F) Tryz.results6 (.agg (j := 0) rfl rfl rfl (.tmp rfl .nil)) (by repeat (first | exact Sub.refl _ _ | refine Sub.trans Sub.drop ?_ | refine Sub.trans Sub.dropF ?_)) ?_
                have hh := h
                unfold nextS at hh
                (repeat' split at hh) <;> first | exact hh | (exfalso; omega) | (exfalso; simp_all; done)
            · refine AL.go (AO.assign rfl rfl (AL.nil (AK.seqN (AC.condF rfl (AC.seq (AC.region ?_))))))
              refine AL.go (AO.move rfl rfl (AL.go (AO.assign rfl rfl (AL.nil (AK.seqN (AC.condF rfl (AC.skip ?_)))))))
              refine AK.blkN (AK.seqN (AC.seq (AC.seq (AC.region (AL.go (AO.move rfl rfl ?_))))))
              refine AL.go (AO.nilCheckP rfl rfl ?_)
              refine AL.go (AO.loadB rfl rfl ?_)
              refine AL.go (AO.eql rfl rfl rfl (fun c76 => ?_) (fun c76 => ?_))
              · refine AL.nil (AK.seqN (AC.condT rfl (AC.seq (AC.region (AL.go (AO.build rfl rfl rfl ?_))))))
                refine AL.go (AO.storeBA rfl rfl rfl rfl ?_)
                refine AL.go (AO.assign rfl rfl (AL.nil (AK.seqN (AC.ret (AK.seqR ?_)))))
                first | refine AK.retV (rs := [.cell 4 _, .tmp 5]) (L' := L) (F' := F) Tryz.results6 (.agg (j := 1) rfl rfl rfl (.tmp rfl .nil)) (by repeat (first | exact Sub.refl _ _ | refine Sub.trans Sub.drop ?_ | refine Sub.trans Sub.dropF ?_)) ?_ | refine AK.retV (rs := [.cell 4 _, .tmp 5]) (L' := L) (F' := F) Tryz.results6 (.agg (j := 0) rfl rfl rfl (.tmp rfl .nil)) (by repeat (first | exact Sub.refl _ _ | refine Sub.trans Sub.drop ?_ | refine Sub.trans Sub.dropF ?_)) ?_
                have hh := h
                unfold nextS at hh
                (repeat' split at hh) <;> first | exact hh | (exfalso; omega) | (exfalso; simp_all; done)
              · refine AL.nil (AK.seqN (AC.condF rfl (AC.skip (AK.seqN (AC.seq ?_)))))
                refine AC.region (AL.go (AO.move rfl rfl ?_))
                refine AL.go (AO.nilCheckP rfl rfl ?_)
                refine AL.go (AO.loadB rfl rfl ?_)
                refine AL.go (AO.add rfl rfl rfl (by omega) (by omega) ?_)
                refine AL.go (AO.nilCheckP rfl rfl ?_)
                refine AL.go (AO.storeB rfl rfl rfl ?_)
                refine AL.nil (AK.seqN (AC.seq (AC.region ?_)))
                refine AL.go (AO.loadBA rfl rfl ?_)
                refine AL.go (AO.storeBA rfl rfl rfl rfl ?_)
                refine AL.go (AO.assign rfl rfl (AL.nil (AK.seqN (AC.ret ?_))))
                first | refine AK.retV (rs := [.cell 4 _, .tmp 5]) (L' := L) (F' := F) Tryz.results6 (.agg (j := 1) rfl rfl rfl (.tmp rfl .nil)) (by repeat (first | exact Sub.refl _ _ | refine Sub.trans Sub.drop ?_ | refine Sub.trans Sub.dropF ?_)) ?_ | refine AK.retV (rs := [.cell 4 _, .tmp 5]) (L' := L) (F' := F) Tryz.results6 (.agg (j := 0) rfl rfl rfl (.tmp rfl .nil)) (by repeat (first | exact Sub.refl _ _ | refine Sub.trans Sub.drop ?_ | refine Sub.trans Sub.dropF ?_)) ?_
                have hh := h
                unfold nextS at hh
                (repeat' split at hh) <;> first | exact hh | (exfalso; omega) | (exfalso; simp_all; done)
  · refine AL.go (AO.not rfl rfl (AL.go (AO.move rfl rfl (AL.no rfl rfl rfl rfl (AL.no rfl rfl rfl rfl (AL.go (AO.pickT rfl rfl rfl (AL.go (AO.move rfl rfl ?_)))))))))
    refine AL.no rfl rfl rfl rfl (AL.no rfl rfl rfl rfl (AL.go (AO.pickT rfl rfl rfl (AL.nil (AK.seqN (AC.condT rfl ?_))))))
    refine AC.seq (AC.region (AL.go (AO.build rfl rfl rfl ?_)))
    refine AL.go (AO.storeBA rfl rfl rfl rfl ?_)
    refine AL.go (AO.assign rfl rfl (AL.nil (AK.seqN (AC.ret (AK.seqR ?_)))))
    first | refine AK.retV (rs := [.cell 4 _, .tmp 5]) (L' := L) (F' := F) Tryz.results6 (.agg (j := 1) rfl rfl rfl (.tmp rfl .nil)) (by repeat (first | exact Sub.refl _ _ | refine Sub.trans Sub.drop ?_ | refine Sub.trans Sub.dropF ?_)) ?_ | refine AK.retV (rs := [.cell 4 _, .tmp 5]) (L' := L) (F' := F) Tryz.results6 (.agg (j := 0) rfl rfl rfl (.tmp rfl .nil)) (by repeat (first | exact Sub.refl _ _ | refine Sub.trans Sub.drop ?_ | refine Sub.trans Sub.dropF ?_)) ?_
    have hh := h
    unfold nextS at hh
    (repeat' split at hh) <;> first | exact hh | (exfalso; omega) | (exfalso; simp_all; done)
end
end Go.Sy
