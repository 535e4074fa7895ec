/- Which of two versions is ahead. -/
import Derived.Test.YtnbpkaffomklpaaGreatDoorSem3
namespace Go.Sy
open Go Go.Proofs Go.RowKit

def aheadS (a b : List UInt8) : Int := if numericS a = true ∧ numericS b = true then lowerS a b else if numericS a = true then -1 else if numericS b = true then 1 else cmpS a b
/-- Two lists, word by word. -/
def cmpL : List (List UInt8) → List (List UInt8) → Int
  | [], [] => 0
  | [], _ :: _ => -1
  | _ :: _, [] => 1
  | x :: a, y :: b => if aheadS x y ≠ 0 then aheadS x y else cmpL a b
def cmpV (a b : Ver) : Int :=
  if firstI [Lib.compareInt a.major b.major, Lib.compareInt a.minor b.minor, Lib.compareInt a.patch b.patch] ≠ 0 then firstI [Lib.compareInt a.major b.major, Lib.compareInt a.minor b.minor, Lib.compareInt a.patch b.patch]
  else if a.pre = [] ∨ b.pre = [] then Lib.compareInt b.pre.length a.pre.length else cmpL a.pre b.pre
theorem cmpL_step {l m : List (List UInt8)} {k : Nat} (h1 : k < l.length) (h2 : k < m.length) (h : aheadS l[k] m[k] = 0) : cmpL (l.drop k) (m.drop k) = cmpL (l.drop (k + 1)) (m.drop (k + 1)) := by
  rw [List.drop_eq_getElem_cons h1, List.drop_eq_getElem_cons h2]
  simp [cmpL, h]
theorem cmpL_ne {l m : List (List UInt8)} {k : Nat} (h1 : k < l.length) (h2 : k < m.length) (h : aheadS l[k] m[k] ≠ 0) : cmpL (l.drop k) (m.drop k) = aheadS l[k] m[k] := by
  rw [List.drop_eq_getElem_cons h1, List.drop_eq_getElem_cons h2]
  simp [cmpL, h]
theorem cmpL_out {l m : List (List UInt8)} {k : Nat} (h1 : k < l.length) (h2 : m.length ≤ k) : cmpL (l.drop k) (m.drop k) = 1 := by
  rw [List.drop_eq_getElem_cons h1, List.drop_eq_nil_of_le h2]; rfl
theorem cmpL_lt {l m : List (List UInt8)} {k : Nat} (h1 : l.length ≤ k) (h2 : k < m.length) : cmpL (l.drop k) (m.drop k) = -1 := by
  rw [List.drop_eq_getElem_cons h2, List.drop_eq_nil_of_le h1]; rfl
theorem cmpL_end {l m : List (List UInt8)} {k : Nat} (h1 : l.length ≤ k) (h2 : m.length ≤ k) : cmpL (l.drop k) (m.drop k) = 0 := by
  rw [List.drop_eq_nil_of_le h1, List.drop_eq_nil_of_le h2]; rfl

attribute [local irreducible] AC AT AO AK AH ACalls Sub Res.cells Res.obj Res.nix Res.own Exit.then Exit.inBlock bodyPost Code.wp Next Post Kont
section
variable {W0 : World} {L : List Res} {F : List Fact} {R : Value → List Res → List Fact → Prop}
set_option maxRecDepth 100000
theorem ahead_c (a b : List UInt8) (ha : a.length < 4294967281) (hb : b.length < 4294967281) (h : R (.int .i64 (aheadS a b)) L F) : ACalls Tryz.prog W0 53 #[S a, S b] L F R := by
  refine ACalls.body Tryz.func53 rfl Tryz.ntmps53 rfl ?_
  refine AC.seq (AC.region (AL.go (AO.assign rfl rfl (AL.nil (AK.seqN (AC.seq ?_))))))
  refine AC.region (AL.go (AO.move rfl rfl ?_))
  refine AL.go (AO.call rfl rfl (numeric_c a ha (fun c8 => ?_) (fun c8 => ?_)))
  · refine AL.go (AO.move rfl rfl ?_)
    refine AL.go (AO.call rfl rfl (numeric_c b hb (fun c10 => ?_) (fun c10 => ?_)))
    · refine AL.go (AO.assign rfl rfl (AL.go (AO.assign rfl rfl (AL.nil (AK.seqN (AC.seq (AC.block ?_)))))))
      refine AC.seq (AC.region (AL.go (AO.move rfl rfl (AL.go (AO.move rfl rfl (AL.yes rfl rfl (AO.move rfl rfl (AL.go (AO.pickT rfl rfl rfl ?_)))))))))
      refine AL.go (AO.assign rfl rfl (AL.nil (AK.seqN (AC.condT rfl (AC.seq (AC.region ?_))))))
      refine AL.go (AO.move rfl rfl (AL.go (AO.move rfl rfl ?_)))
      refine AL.go (AO.call rfl rfl (lower_c a b ?_))
      refine AL.go (AO.assign rfl rfl (AL.nil (AK.seqN (AC.ret (AK.blkR (AK.seqR ?_))))))
      refine AK.ret (L' := L) (F' := F) Tryz.results53 rfl (by repeat (first | exact Sub.refl _ _ | refine Sub.trans Sub.drop ?_ | refine Sub.trans Sub.dropF ?_)) ?_
      have hh := h
      unfold aheadS at hh
      simp only [c8, c10] at hh
      simpa using hh
    · refine AL.go (AO.assign rfl rfl (AL.go (AO.assign rfl rfl (AL.nil (AK.seqN (AC.seq (AC.block ?_)))))))
      refine AC.seq (AC.region (AL.go (AO.move rfl rfl (AL.go (AO.move rfl rfl (AL.yes rfl rfl (AO.move rfl rfl (AL.go (AO.pickT rfl rfl rfl ?_)))))))))
      refine AL.go (AO.assign rfl rfl (AL.nil (AK.seqN (AC.condF rfl (AC.seq (AC.region ?_))))))
      refine AL.go (AO.move rfl rfl (AL.go (AO.assign rfl rfl (AL.nil (AK.seqN (AC.condT rfl (AC.seq ?_)))))))
      refine AC.region (AL.go (AO.assign rfl rfl (AL.nil (AK.seqN (AC.ret (AK.blkR ?_))))))
      refine AK.seqR ?_
      refine AK.ret (L' := L) (F' := F) Tryz.results53 rfl (by repeat (first | exact Sub.refl _ _ | refine Sub.trans Sub.drop ?_ | refine Sub.trans Sub.dropF ?_)) ?_
      have hh := h
      unfold aheadS at hh
      simp only [c8, c10] at hh
      simpa using hh
  · refine AL.go (AO.move rfl rfl ?_)
    refine AL.go (AO.call rfl rfl (numeric_c b hb (fun c10 => ?_) (fun c10 => ?_)))
    · refine AL.go (AO.assign rfl rfl (AL.go (AO.assign rfl rfl (AL.nil (AK.seqN (AC.seq (AC.block ?_)))))))
      refine AC.seq (AC.region (AL.go (AO.move rfl rfl (AL.go (AO.move rfl rfl (AL.no rfl rfl rfl rfl (AL.go (AO.pickF rfl rfl rfl ?_))))))))
      refine AL.go (AO.assign rfl rfl (AL.nil (AK.seqN (AC.condF rfl (AC.seq (AC.region ?_))))))
      refine AL.go (AO.move rfl rfl (AL.go (AO.assign rfl rfl (AL.nil (AK.seqN (AC.condF rfl (AC.seq ?_)))))))
      refine AC.region (AL.go (AO.move rfl rfl (AL.go (AO.assign rfl rfl (AL.nil (AK.seqN (AC.condT rfl ?_)))))))
      refine AC.seq (AC.region (AL.go (AO.assign rfl rfl (AL.nil (AK.seqN (AC.ret ?_))))))
      refine AK.blkR (AK.seqR ?_)
      refine AK.ret (L' := L) (F' := F) Tryz.results53 rfl (by repeat (first | exact Sub.refl _ _ | refine Sub.trans Sub.drop ?_ | refine Sub.trans Sub.dropF ?_)) ?_
      have hh := h
      unfold aheadS at hh
      simp only [c8, c10] at hh
      simpa using hh
    · refine AL.go (AO.assign rfl rfl (AL.go (AO.assign rfl rfl (AL.nil (AK.seqN (AC.seq (AC.block ?_)))))))
      refine AC.seq (AC.region (AL.go (AO.move rfl rfl (AL.go (AO.move rfl rfl (AL.no rfl rfl rfl rfl (AL.go (AO.pickF rfl rfl rfl ?_))))))))
      refine AL.go (AO.assign rfl rfl (AL.nil (AK.seqN (AC.condF rfl (AC.seq (AC.region ?_))))))
      refine AL.go (AO.move rfl rfl (AL.go (AO.assign rfl rfl (AL.nil (AK.seqN (AC.condF rfl (AC.seq ?_)))))))
      refine AC.region (AL.go (AO.move rfl rfl (AL.go (AO.assign rfl rfl (AL.nil (AK.seqN (AC.condF rfl ?_)))))))
      refine AC.skip (AK.blkN (AK.seqN (AC.seq (AC.region (AL.go (AO.move rfl rfl ?_))))))
      refine AL.go (AO.move rfl rfl ?_)
      refine AL.go (AO.call rfl rfl (cmpS_c a b ?_))
      refine AL.go (AO.assign rfl rfl (AL.nil (AK.seqN (AC.ret ?_))))
      refine AK.ret (L' := L) (F' := F) Tryz.results53 rfl (by repeat (first | exact Sub.refl _ _ | refine Sub.trans Sub.drop ?_ | refine Sub.trans Sub.dropF ?_)) ?_
      have hh := h
      unfold aheadS at hh
      simp only [c8, c10] at hh
      simpa using hh
theorem compareFunc_c (l m : List (List UInt8)) (hl : Sml l) (hm : Sml m) {a1 a2 : Option Addr} {k1 c1 k2 c2 : Nat} (m1 : fS l a1 k1 c1 ∈ F) (m2 : fS m a2 k2 c2 ∈ F) (h : R (.int .i64 (cmpL l m)) L F) :
    ACalls Tryz.prog W0 52 #[.slice a1 k1 c1, .slice a2 k2 c2, .func (.func 53) #[] #[]] L F R := by
  refine ACalls.body Tryz.func52 rfl Tryz.ntmps52 rfl ?_
  refine AC.seq (AC.region (AL.go (AO.assign rfl rfl (AL.nil (AK.seqN (AC.seq ?_))))))
  refine AC.seq (AC.region (AL.go (AO.move rfl rfl ?_)))
  refine AL.go (AO.len rfl rfl (fun hl12 => ?_) (hm := by repeat (first | exact mem0 | assumption | refine memS ?_)))
  refine AL.go (AO.move rfl rfl (AL.nil (AK.seqN (AC.block ?_))))
  refine AC.loop (fun q => q ≤ l.length ∧ q ≤ m.length ∧ cmpL l m = cmpL (l.drop q) (m.drop q)) (fun q => [(0, .slice a1 k1 c1), (1, .slice a2 k2 c2), (2, .func (.func 53) #[] #[]), (11, .slice a1 k1 c1), (12, .int .i64 l.length), (13, .int .i64 (q : Int))]) (fun _ => L) (fun _ => F) (fun q => l.length - q) 0 ⟨by omega, by omega, rfl⟩ (by repeat (first | exact SubR.nil | refine SubR.cons rfl ?_)) (Sub.refl _ _) ?_
  rintro q ⟨hq, hq2, hok⟩
  refine AC.seq (AC.region ?_)
  refine AL.go (AO.lss rfl rfl rfl (fun c14 => ?_) (fun c14 => ?_))
  · refine AL.nil (AK.seqN (AC.seq (AC.condT rfl (AC.skip (AK.seqN ?_)))))
    refine AC.seq (AC.block (AC.seq (AC.region (AL.go (AO.move rfl rfl ?_)))))
    refine AL.go (AO.indexAddr rfl rfl rfl rfl (by repeat (first | exact mem0 | assumption | refine memS ?_)) (by first | omega | (simp; omega)) (fun _ _ => ?_))
    refine AL.go (AO.loadF rfl rfl ?_)
    intros
    refine AL.go (AO.assign rfl rfl (AL.go (AO.assign rfl rfl (AL.nil (AK.seqN (AC.seq (AC.seq ?_)))))))
    refine AC.region (AL.go (AO.move rfl rfl (AL.go (AO.move rfl rfl ?_))))
    refine AL.go (AO.len rfl rfl (fun hl20 => ?_) (hm := by repeat (first | exact mem0 | assumption | refine memS ?_)))
    refine AL.go (AO.geq rfl rfl rfl (fun c21 => ?_) (fun c21 => ?_))
    · refine AL.nil (AK.seqN (AC.condT rfl (AC.seq (AC.region (AL.go (AO.assign rfl rfl ?_))))))
      refine AL.nil (AK.seqN (AC.ret (AK.seqR (AK.blkR (AK.seqR ?_)))))
      refine AK.seqR (AK.blkR (AK.seqR ?_))
      refine AK.ret (L' := L) (F' := F) Tryz.results52 rfl (by repeat (first | exact Sub.refl _ _ | refine Sub.trans Sub.drop ?_ | refine Sub.trans Sub.dropF ?_)) ?_
      rw [hok] at h
      first | (rw [cmpL_out (by omega) (by omega)] at h; exact h) | (rw [cmpL_ne hql hqm c31] at h; exact h) | (rw [cmpL_lt (by omega) (by omega)] at h; exact h) | (rw [cmpL_end (by omega) (by omega)] at h; exact h)
    · refine AL.nil (AK.seqN (AC.condF rfl (AC.skip (AK.seqN (AC.seq ?_)))))
      refine AC.region (AL.go (AO.move rfl rfl (AL.go (AO.move rfl rfl ?_))))
      refine AL.go (AO.indexAddr rfl rfl rfl rfl (by repeat (first | exact mem0 | assumption | refine memS ?_)) (by first | omega | (simp; omega)) (fun _ _ => ?_))
      refine AL.go (AO.loadF rfl rfl ?_)
      intros
      refine AL.go (AO.assign rfl rfl (AL.nil (AK.seqN (AC.seq (AC.region (AL.go (AO.move rfl rfl ?_)))))))
      refine AL.go (AO.move rfl rfl (AL.go (AO.move rfl rfl ?_)))
      have hql : q < l.length := by omega
      have hqm : q < m.length := by omega
      refine AL.go (AO.callC (cs := []) rfl rfl rfl (ahead_c _ _ (hl _ (List.getElem_mem _)) (hm _ (List.getElem_mem _)) ?_))
      refine AL.go (AO.assign rfl rfl (AL.nil (AK.seqN (AC.seq (AC.region (AL.go (AO.move rfl rfl ?_)))))))
      refine AL.go (AO.neq rfl rfl rfl (fun c31 => ?_) (fun c31 => ?_))
      · refine AL.nil (AK.seqN (AC.condT rfl (AC.seq (AC.region (AL.go (AO.move rfl rfl ?_))))))
        refine AL.go (AO.assign rfl rfl (AL.nil (AK.seqN (AC.ret (AK.blkR (AK.seqR ?_))))))
        refine AK.seqR (AK.blkR (AK.seqR ?_))
        refine AK.ret (L' := L) (F' := F) Tryz.results52 rfl (by repeat (first | exact Sub.refl _ _ | refine Sub.trans Sub.drop ?_ | refine Sub.trans Sub.dropF ?_)) ?_
        rw [hok] at h
        first | (rw [cmpL_out (by omega) (by omega)] at h; exact h) | (rw [cmpL_ne hql hqm c31] at h; exact h) | (rw [cmpL_lt (by omega) (by omega)] at h; exact h) | (rw [cmpL_end (by omega) (by omega)] at h; exact h)
      · refine AL.nil (AK.seqN (AC.condF rfl (AC.skip (AK.blkN (AK.seqN ?_)))))
        refine AC.region (AL.go (AO.add rfl rfl rfl (by omega) (by omega) (AL.go (AO.move rfl rfl (AL.nil ?_)))))
        refine AK.next (q + 1) ⟨by omega, by omega, hok.trans (cmpL_step hql hqm c31)⟩ (by omega) (by repeat (first | exact SubR.nil | refine SubR.cons rfl ?_)) (by repeat (first | exact Sub.refl _ _ | refine Sub.trans Sub.dropF ?_))
  · refine AL.nil (AK.seqN (AC.seq (AC.condF rfl (AC.exit (AK.seqX ?_)))))
    refine AK.seqX (AK.blkX (AK.seqN (AC.seq (AC.seq (AC.region ?_)))))
    refine AL.go (AO.move rfl rfl ?_)
    refine AL.go (AO.len rfl rfl (fun hl35 => ?_) (hm := by repeat (first | exact mem0 | assumption | refine memS ?_)))
    refine AL.go (AO.move rfl rfl ?_)
    refine AL.go (AO.len rfl rfl (fun hl37 => ?_) (hm := by repeat (first | exact mem0 | assumption | refine memS ?_)))
    refine AL.go (AO.lss rfl rfl rfl (fun c38 => ?_) (fun c38 => ?_))
    · refine AL.nil (AK.seqN (AC.condT rfl (AC.seq (AC.region (AL.go (AO.assign rfl rfl ?_))))))
      refine AL.nil (AK.seqN (AC.ret (AK.seqR ?_)))
      refine AK.ret (L' := L) (F' := F) Tryz.results52 rfl (by repeat (first | exact Sub.refl _ _ | refine Sub.trans Sub.drop ?_ | refine Sub.trans Sub.dropF ?_)) ?_
      rw [hok] at h
      first | (rw [cmpL_out (by omega) (by omega)] at h; exact h) | (rw [cmpL_ne hql hqm c31] at h; exact h) | (rw [cmpL_lt (by omega) (by omega)] at h; exact h) | (rw [cmpL_end (by omega) (by omega)] at h; exact h)
    · refine AL.nil (AK.seqN (AC.condF rfl (AC.skip (AK.seqN (AC.seq ?_)))))
      refine AC.region (AL.go (AO.assign rfl rfl (AL.nil (AK.seqN (AC.ret ?_)))))
      refine AK.ret (L' := L) (F' := F) Tryz.results52 rfl (by repeat (first | exact Sub.refl _ _ | refine Sub.trans Sub.drop ?_ | refine Sub.trans Sub.dropF ?_)) ?_
      rw [hok] at h
      first | (rw [cmpL_out (by omega) (by omega)] at h; exact h) | (rw [cmpL_ne hql hqm c31] at h; exact h) | (rw [cmpL_lt (by omega) (by omega)] at h; exact h) | (rw [cmpL_end (by omega) (by omega)] at h; exact h)
theorem compare_c (v u : Ver) (hv : VerOk v) (hu : VerOk u) {a1 a2 a3 a4 : Option Addr} {k1 c1 k2 c2 k3 c3 k4 c4 : Nat} (m1 : fS v.pre a1 k1 c1 ∈ F) (m3 : fS u.pre a3 k3 c3 ∈ F) (h : R (.int .i64 (cmpV v u)) L F) :
    ACalls Tryz.prog W0 27 #[vVer v a1 k1 c1 a2 k2 c2, vVer u a3 k3 c3 a4 k4 c4] L F R := by
  refine ACalls.body Tryz.func27 rfl Tryz.ntmps27 rfl ?_
  refine AC.seq (AC.region (AL.go (AO.box rfl rfl (fun b2 => ?_))))
  refine AL.go (AO.box rfl rfl (fun b3 => ?_))
  refine AL.go (AO.assign rfl rfl (AL.nil (AK.seqN (AC.seq ?_))))
  refine AC.draw (fun _ => false) [(b2, _, _), (b3, _, _)] (by repeat (first | exact BxIn.nil | refine BxIn.cons (by repeat (first | exact has0 | apply hasS)) ?_)) rfl (fun hx hX => ?_)
  refine AH.takeW (i := 0) rfl (Y.field rfl) (by kernel_rfl) rfl rfl ?_
  refine AH.takeS (i := 1) rfl (Y.loadB rfl (by repeat (first | exact List.Mem.head _ | refine List.Mem.tail _ ?_)) (by rfl)) (by kernel_rfl) (by kernel_rfl) rfl rfl rfl ?_
  refine AH.takeW (i := 2) rfl (Y.field rfl) (by kernel_rfl) rfl rfl ?_
  refine AH.takeS (i := 3) rfl (Y.loadB rfl (by repeat (first | exact List.Mem.head _ | refine List.Mem.tail _ ?_)) (by rfl)) (by kernel_rfl) (by kernel_rfl) rfl rfl rfl ?_
  refine AH.takeW (i := 5) rfl (Y.field rfl) (by kernel_rfl) rfl rfl ?_
  refine AH.takeS (i := 6) rfl (Y.loadB rfl (by repeat (first | exact List.Mem.head _ | refine List.Mem.tail _ ?_)) (by rfl)) (by kernel_rfl) (by kernel_rfl) rfl rfl rfl ?_
  refine AH.takeW (i := 7) rfl (Y.field rfl) (by kernel_rfl) rfl rfl ?_
  refine AH.takeS (i := 8) rfl (Y.loadB rfl (by repeat (first | exact List.Mem.head _ | refine List.Mem.tail _ ?_)) (by rfl)) (by kernel_rfl) (by kernel_rfl) rfl rfl rfl ?_
  refine AH.takeW (i := 10) rfl (Y.field rfl) (by kernel_rfl) rfl rfl ?_
  refine AH.takeS (i := 11) rfl (Y.loadB rfl (by repeat (first | exact List.Mem.head _ | refine List.Mem.tail _ ?_)) (by rfl)) (by kernel_rfl) (by kernel_rfl) rfl rfl rfl ?_
  refine AH.takeW (i := 12) rfl (Y.field rfl) (by kernel_rfl) rfl rfl ?_
  refine AH.takeS (i := 13) rfl (Y.loadB rfl (by repeat (first | exact List.Mem.head _ | refine List.Mem.tail _ ?_)) (by rfl)) (by kernel_rfl) (by kernel_rfl) rfl rfl rfl ?_
  refine AH.one (i := 4) (by kernel_rfl) rfl rfl (fun _ => ?_)
  refine AO.call rfl rfl (cmpI_c _ _ ?_)
  refine AT.held (by repeat (first | exact BxIn.nil | refine BxIn.cons (by repeat (first | exact has0 | apply hasS)) ?_)) (by repeat (first | exact mem0 | refine memS ?_)) ?_
  refine AH.one (i := 9) (by kernel_rfl) rfl rfl (fun _ => ?_)
  refine AO.call rfl rfl (cmpI_c _ _ ?_)
  refine AT.held (by repeat (first | exact BxIn.nil | refine BxIn.cons (by repeat (first | exact has0 | apply hasS)) ?_)) (by repeat (first | exact mem0 | refine memS ?_)) ?_
  refine AH.one (i := 14) (by kernel_rfl) rfl rfl (fun _ => ?_)
  refine AO.call rfl rfl (cmpI_c _ _ ?_)
  refine AT.held (by repeat (first | exact BxIn.nil | refine BxIn.cons (by repeat (first | exact has0 | apply hasS)) ?_)) (by repeat (first | exact mem0 | refine memS ?_)) ?_
  refine AH.one (i := 15) (by kernel_rfl) rfl rfl (fun _ => ?_)
  refine AO.buildSlice rfl rfl rfl rfl rfl (fun b21 => ?_)
  refine AT.held (by repeat (first | exact BxIn.nil | refine BxIn.cons (by repeat (first | exact has0 | apply hasS)) ?_)) (by repeat (first | exact mem0 | refine memS ?_)) ?_
  refine AH.one (i := 16) (by kernel_rfl) rfl rfl (fun _ => ?_)
  refine AO.call rfl rfl (ACalls.weak (Sub.lit (i := 0) (k := 3) (enc := eI) [_, _, _] rfl (.val (.val (.val .nil))) (fun _ => rfl) rfl (by decide)) (first_c _ mem0 ?_))
  refine AT.held (by repeat (first | exact BxIn.nil | refine BxIn.cons (by repeat (first | exact has0 | apply hasS)) ?_)) (by repeat (first | exact mem0 | refine memS ?_)) ?_
  refine AH.takeW (i := 17) rfl (Y.assign rfl) (by kernel_rfl) rfl rfl ?_
  refine AH.done (by kernel_rfl) ?_
  refine AK.seqN (AC.seq (AC.block (AC.seq (AC.region (AL.go (AO.move rfl rfl ?_))))))
  refine AL.go (AO.neq rfl rfl rfl (fun c25 => ?_) (fun c25 => ?_))
  · refine AL.go (AO.assign rfl rfl (AL.nil (AK.seqN (AC.condT rfl (AC.seq (AC.region ?_))))))
    refine AL.go (AO.move rfl rfl (AL.go (AO.assign rfl rfl (AL.nil (AK.seqN (AC.ret (AK.blkR ?_)))))))
    refine AK.seqR ?_
    refine AK.ret (L' := L) (F' := F) Tryz.results27 rfl (by repeat (first | exact Sub.refl _ _ | refine Sub.trans Sub.drop ?_ | refine Sub.trans Sub.dropF ?_)) ?_
    unfold cmpV at h
    first | (rw [if_pos c25] at h; exact h) | (rw [if_neg (fun e => e c25), if_pos (by first | exact .inl (List.eq_nil_of_length_eq_zero (by omega)) | exact .inr (List.eq_nil_of_length_eq_zero (by omega)))] at h; exact h) | (rw [if_neg (fun e => e c25), if_neg (fun e => by rcases e with e | e <;> simp [e] at c31 c36)] at h; exact h)
  · refine AL.go (AO.assign rfl rfl (AL.nil (AK.seqN (AC.condF rfl (AC.seq (AC.region ?_))))))
    refine AL.go (AO.field rfl rfl ?_)
    refine AL.go (AO.loadB rfl rfl ?_)
    refine AL.go (AO.len rfl rfl (fun hl30 => ?_) (hm := by repeat (first | exact mem0 | assumption | refine memS ?_)))
    refine AL.go (AO.eql rfl rfl rfl (fun c31 => ?_) (fun c31 => ?_))
    · refine AL.go (AO.move rfl rfl (AL.no rfl rfl rfl rfl (AL.no rfl rfl rfl rfl (AL.no rfl rfl rfl rfl (AL.no rfl rfl rfl rfl (AL.go (AO.pickT rfl rfl rfl ?_)))))))
      refine AL.go (AO.assign rfl rfl (AL.nil (AK.seqN (AC.condT rfl (AC.seq (AC.region ?_))))))
      refine AL.go (AO.field rfl rfl ?_)
      refine AL.go (AO.loadB rfl rfl ?_)
      refine AL.go (AO.len rfl rfl (fun hl40 => ?_) (hm := by repeat (first | exact mem0 | assumption | refine memS ?_)))
      refine AL.go (AO.field rfl rfl ?_)
      refine AL.go (AO.loadB rfl rfl ?_)
      refine AL.go (AO.len rfl rfl (fun hl43 => ?_) (hm := by repeat (first | exact mem0 | assumption | refine memS ?_)))
      refine AL.go (AO.call rfl rfl (cmpI_c _ _ ?_))
      refine AL.go (AO.assign rfl rfl (AL.nil (AK.seqN (AC.ret (AK.blkR (AK.seqR ?_))))))
      refine AK.ret (L' := L) (F' := F) Tryz.results27 rfl (by repeat (first | exact Sub.refl _ _ | refine Sub.trans Sub.drop ?_ | refine Sub.trans Sub.dropF ?_)) ?_
      unfold cmpV at h
      first | (rw [if_pos c25] at h; exact h) | (rw [if_neg (fun e => e c25), if_pos (by first | exact .inl (List.eq_nil_of_length_eq_zero (by omega)) | exact .inr (List.eq_nil_of_length_eq_zero (by omega)))] at h; exact h) | (rw [if_neg (fun e => e c25), if_neg (fun e => by rcases e with e | e <;> simp [e] at c31 c36)] at h; exact h)
    · refine AL.go (AO.move rfl rfl (AL.yes rfl rfl (AO.field rfl rfl ?_)))
      refine AL.yes rfl rfl (AO.loadB rfl rfl ?_)
      refine AL.yes rfl rfl (AO.len rfl rfl (fun hl35 => ?_) (hm := by repeat (first | exact mem0 | assumption | refine memS ?_)))
      refine AL.yes rfl rfl (AO.eql rfl rfl rfl (fun c36 => ?_) (fun c36 => ?_))
      · refine AL.go (AO.pickF rfl rfl rfl (AL.go (AO.assign rfl rfl (AL.nil (AK.seqN (AC.condT rfl (AC.seq ?_)))))))
        refine AC.region (AL.go (AO.field rfl rfl ?_))
        refine AL.go (AO.loadB rfl rfl ?_)
        refine AL.go (AO.len rfl rfl (fun hl40 => ?_) (hm := by repeat (first | exact mem0 | assumption | refine memS ?_)))
        refine AL.go (AO.field rfl rfl ?_)
        refine AL.go (AO.loadB rfl rfl ?_)
        refine AL.go (AO.len rfl rfl (fun hl43 => ?_) (hm := by repeat (first | exact mem0 | assumption | refine memS ?_)))
        refine AL.go (AO.call rfl rfl (cmpI_c _ _ ?_))
        refine AL.go (AO.assign rfl rfl (AL.nil (AK.seqN (AC.ret (AK.blkR (AK.seqR ?_))))))
        refine AK.ret (L' := L) (F' := F) Tryz.results27 rfl (by repeat (first | exact Sub.refl _ _ | refine Sub.trans Sub.drop ?_ | refine Sub.trans Sub.dropF ?_)) ?_
        unfold cmpV at h
        first | (rw [if_pos c25] at h; exact h) | (rw [if_neg (fun e => e c25), if_pos (by first | exact .inl (List.eq_nil_of_length_eq_zero (by omega)) | exact .inr (List.eq_nil_of_length_eq_zero (by omega)))] at h; exact h) | (rw [if_neg (fun e => e c25), if_neg (fun e => by rcases e with e | e <;> simp [e] at c31 c36)] at h; exact h)
      · refine AL.go (AO.pickF rfl rfl rfl (AL.go (AO.assign rfl rfl (AL.nil (AK.seqN (AC.condF rfl (AC.skip ?_)))))))
        refine AK.blkN (AK.seqN (AC.seq (AC.region (AL.go (AO.field rfl rfl ?_)))))
        refine AL.go (AO.loadB rfl rfl ?_)
        refine AL.go (AO.field rfl rfl ?_)
        refine AL.go (AO.loadB rfl rfl ?_)
        refine AL.go (AO.call rfl rfl (compareFunc_c v.pre u.pre hv.pre hu.pre (by repeat (first | exact mem0 | assumption | refine memS ?_)) (by repeat (first | exact mem0 | assumption | refine memS ?_)) ?_))
        refine AL.go (AO.assign rfl rfl (AL.nil (AK.seqN (AC.ret ?_))))
        refine AK.ret (L' := L) (F' := F) Tryz.results27 rfl (by repeat (first | exact Sub.refl _ _ | refine Sub.trans Sub.drop ?_ | refine Sub.trans Sub.dropF ?_)) ?_
        unfold cmpV at h
        first | (rw [if_pos c25] at h; exact h) | (rw [if_neg (fun e => e c25), if_pos (by first | exact .inl (List.eq_nil_of_length_eq_zero (by omega)) | exact .inr (List.eq_nil_of_length_eq_zero (by omega)))] at h; exact h) | (rw [if_neg (fun e => e c25), if_neg (fun e => by rcases e with e | e <;> simp [e] at c31 c36)] at h; exact h)
theorem cmp_c (v u : Ver) (hv : VerOk v) (hu : VerOk u) {a1 a2 a3 a4 : Option Addr} {k1 c1 k2 c2 k3 c3 k4 c4 : Nat} (m1 : fS v.pre a1 k1 c1 ∈ F) (m2 : fS v.build a2 k2 c2 ∈ F) (m3 : fS u.pre a3 k3 c3 ∈ F) (m4 : fS u.build a4 k4 c4 ∈ F)
    (hF : (rightV v && rightV u) = false → R (.tuple #[.int .i64 0, .int .i64 1]) L F) (hT : rightV v = true → rightV u = true → R (.tuple #[.int .i64 (Lib.compareInt (cmpV v u) 0), .int .i64 0]) L F) :
    ACalls Tryz.prog W0 12 #[vVer v a1 k1 c1 a2 k2 c2, vVer u a3 k3 c3 a4 k4 c4] L F R := by
  refine ACalls.body Tryz.func12 rfl Tryz.ntmps12 rfl ?_
  refine AC.seq (AC.region (AL.go (AO.box rfl rfl (fun b2 => ?_))))
  refine AL.go (AO.box rfl rfl (fun b3 => ?_))
  refine AL.go (AO.assign rfl rfl (AL.go (AO.assign rfl rfl (AL.nil (AK.seqN (AC.seq (AC.seq ?_)))))))
  refine AC.region ?_
  refine AL.go (AO.loadBA rfl rfl ?_)
  refine AL.go (AO.call rfl rfl (right_c v hv m1 m2 (fun c8 => ?_) (fun c8 => ?_)))
  · refine AL.go (AO.not rfl rfl (AL.go (AO.move rfl rfl ?_)))
    refine AL.yes rfl rfl (AO.loadBA rfl rfl ?_)
    refine AL.yes rfl rfl (AO.call rfl rfl (right_c u hu m3 m4 (fun c12 => ?_) (fun c12 => ?_)))
    · refine AL.yes rfl rfl (AO.not rfl rfl (AL.go (AO.pickF rfl rfl rfl (AL.nil (AK.seqN (AC.condF rfl (AC.skip ?_)))))))
      refine AK.seqN (AC.seq (AC.region ?_))
      refine AL.go (AO.loadBA rfl rfl ?_)
      refine AL.go (AO.loadBA rfl rfl ?_)
      refine AL.go (AO.call rfl rfl (compare_c v u hv hu m1 m3 ?_))
      refine AL.go (AO.assign rfl rfl (AL.nil (AK.seqN (AC.seq (AC.region (AL.go (AO.move rfl rfl ?_)))))))
      refine AL.go (AO.call rfl rfl (cmpI_c _ _ ?_))
      refine AL.go (AO.assign rfl rfl (AL.go (AO.assign rfl rfl (AL.nil (AK.seqN (AC.ret ?_))))))
      first | exact AK.ret2 (L' := L) (F' := F) Tryz.results12 rfl rfl (by repeat (first | exact Sub.refl _ _ | refine Sub.trans Sub.drop ?_ | refine Sub.trans Sub.dropF ?_)) (hF (by rw [c8]; rfl)) | exact AK.ret2 (L' := L) (F' := F) Tryz.results12 rfl rfl (by repeat (first | exact Sub.refl _ _ | refine Sub.trans Sub.drop ?_ | refine Sub.trans Sub.dropF ?_)) (hF (by rw [c12, Bool.and_false])) | exact AK.ret2 (L' := L) (F' := F) Tryz.results12 rfl rfl (by repeat (first | exact Sub.refl _ _ | refine Sub.trans Sub.drop ?_ | refine Sub.trans Sub.dropF ?_)) (hT c8 c12)
    · refine AL.yes rfl rfl (AO.not rfl rfl (AL.go (AO.pickF rfl rfl rfl (AL.nil (AK.seqN (AC.condT rfl (AC.seq ?_)))))))
      refine AC.region (AL.go (AO.assign rfl rfl (AL.go (AO.assign rfl rfl (AL.nil (AK.seqN (AC.ret ?_)))))))
      refine AK.seqR ?_
      first | exact AK.ret2 (L' := L) (F' := F) Tryz.results12 rfl rfl (by repeat (first | exact Sub.refl _ _ | refine Sub.trans Sub.drop ?_ | refine Sub.trans Sub.dropF ?_)) (hF (by rw [c8]; rfl)) | exact AK.ret2 (L' := L) (F' := F) Tryz.results12 rfl rfl (by repeat (first | exact Sub.refl _ _ | refine Sub.trans Sub.drop ?_ | refine Sub.trans Sub.dropF ?_)) (hF (by rw [c12, Bool.and_false])) | exact AK.ret2 (L' := L) (F' := F) Tryz.results12 rfl rfl (by repeat (first | exact Sub.refl _ _ | refine Sub.trans Sub.drop ?_ | refine Sub.trans Sub.dropF ?_)) (hT c8 c12)
  · refine AL.go (AO.not rfl rfl (AL.go (AO.move rfl rfl (AL.no rfl rfl rfl rfl (AL.no rfl rfl rfl rfl (AL.no rfl rfl rfl rfl (AL.go (AO.pickT rfl rfl rfl ?_))))))))
    refine AL.nil (AK.seqN (AC.condT rfl (AC.seq (AC.region (AL.go (AO.assign rfl rfl ?_))))))
    refine AL.go (AO.assign rfl rfl (AL.nil (AK.seqN (AC.ret (AK.seqR ?_)))))
    first | exact AK.ret2 (L' := L) (F' := F) Tryz.results12 rfl rfl (by repeat (first | exact Sub.refl _ _ | refine Sub.trans Sub.drop ?_ | refine Sub.trans Sub.dropF ?_)) (hF (by rw [c8]; rfl)) | exact AK.ret2 (L' := L) (F' := F) Tryz.results12 rfl rfl (by repeat (first | exact Sub.refl _ _ | refine Sub.trans Sub.drop ?_ | refine Sub.trans Sub.dropF ?_)) (hF (by rw [c12, Bool.and_false])) | exact AK.ret2 (L' := L) (F' := F) Tryz.results12 rfl rfl (by repeat (first | exact Sub.refl _ _ | refine Sub.trans Sub.drop ?_ | refine Sub.trans Sub.dropF ?_)) (hT c8 c12)
end
end Go.Sy
