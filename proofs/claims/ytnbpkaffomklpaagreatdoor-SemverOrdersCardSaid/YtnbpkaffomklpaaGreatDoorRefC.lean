/- What is the same, and a version's text as the document has it. -/
import Derived.Test.YtnbpkaffomklpaaGreatDoorRefB
import Derived.Test.YtnbpkaffomklpaaGreatDoorSemV
namespace Go.Sy
open Go Go.Proofs Go.RowKit

/-- Words behind a text, if there are some. -/
def joinA (a : List UInt8) (l : List (List UInt8)) : List UInt8 := if l = [] then [] else a ++ joinS l
theorem join_snoc : ∀ (x : List (List UInt8)) (y : List UInt8), x ≠ [] → joinS (x ++ [y]) = (joinS x ++ [46]) ++ y
  | [], _, h => absurd rfl h
  | [x], y, _ => by simp [joinS, Lib.join, List.intercalate, List.intersperse]
  | x :: z :: l, y, _ => by
    have ih := join_snoc (z :: l) y (by simp)
    have e : ∀ (x z : List UInt8) (l : List (List UInt8)), joinS (x :: z :: l) = x ++ 46 :: joinS (z :: l) := by intro x z l; simp [joinS, Lib.join, List.intercalate, List.intersperse]
    show joinS (x :: z :: (l ++ [y])) = _
    rw [e, e, show z :: (l ++ [y]) = (z :: l) ++ [y] from rfl, ih]
    simp
theorem ja0 {a : List UInt8} {l : List (List UInt8)} {q : Nat} (hq : q < l.length) (h : (q : Int) = 0) : a ++ l[q] = joinA a (l.take (q + 1)) := by
  have h0 : q = 0 := by omega
  subst h0
  rw [List.take_succ_eq_append_getElem hq]
  unfold joinA
  rw [if_neg (by simp)]
  simp [joinS, Lib.join, List.intercalate]
theorem ja1 {a : List UInt8} {l : List (List UInt8)} {q : Nat} (hq : q < l.length) (h : (q : Int) ≠ 0) : (joinA a (l.take q) ++ [46]) ++ l[q] = joinA a (l.take (q + 1)) := by
  have hn : l.take q ≠ [] := by
    intro e
    have := congrArg List.length e
    rw [List.length_take, List.length_nil] at this
    omega
  rw [List.take_succ_eq_append_getElem hq]
  have hne : l.take q ++ [l[q]] ≠ [] := fun e => by
    have := congrArg List.length e
    rw [List.length_append] at this
    simp at this
  unfold joinA
  rw [if_neg hn, if_neg hne, join_snoc _ _ hn]
  simp
theorem joinA_len {a : List UInt8} {l : List (List UInt8)} (ha : a.length ≤ 1) (hl : l.length ≤ 8) (hs : ∀ s ∈ l, s.length ≤ 40) (q : Nat) : (joinA a (l.take q)).length ≤ 329 := by
  have := join_len (l.take q) (fun s h => hs s (List.mem_of_mem_take h))
  have h2 : (l.take q).length ≤ 8 := by simp; omega
  unfold joinA
  split
  · simp
  · simp only [List.length_append]; omega
theorem right_words {v : Ver} (h : rightV v = true) : (∀ s ∈ v.pre, s.length ≤ 40) ∧ ∀ s ∈ v.build, s.length ≤ 40 := by
  simp only [rightV, mayS, Bool.and_eq_true, decide_eq_true_eq, Bool.not_eq_true'] at h
  obtain ⟨_, _, _, ⟨h1, h2⟩, h3, h4⟩ := h
  have hp : ∀ (l : List (List UInt8)) (st : Bool), l.any (oddM st) = false → ∀ s ∈ l, s.length ≤ 40 := by
    intro l st hl s hs
    have := List.any_eq_false.1 hl s hs
    simp [oddM] at this
    omega
  exact ⟨hp _ _ h2, hp _ _ h4⟩
theorem text_joinA (v : Ver) : textS v = (((((Lib.itoa v.major ++ [46]) ++ Lib.itoa v.minor) ++ [46]) ++ Lib.itoa v.patch) ++ joinA [45] v.pre) ++ joinA [43] v.build := rfl

attribute [local irreducible] AC AT AO AK AH ACalls Sub Res.cells Res.obj Res.nix Res.own Exit.then Exit.inBlock bodyPost Code.wp Next Post Kont
section
variable {W0 : World} {L : List Res} {F : List Fact} {R : Value → List Res → List Fact → Prop}
set_option maxRecDepth 100000
set_option maxHeartbeats 4000000
theorem equal_c (l m : List (List UInt8)) {a1 a2 : Option Addr} {k1 c1 k2 c2 : Nat} (m1 : fS l a1 k1 c1 ∈ F) (m2 : fS m a2 k2 c2 ∈ F) (hT : l = m → R (.bool true) L F) (hF : l ≠ m → R (.bool false) L F) :
    ACalls Tryz.prog W0 30 #[.slice a1 k1 c1, .slice a2 k2 c2] L F R := by
  refine ACalls.body Tryz.func30 rfl Tryz.ntmps30 rfl ?_
  refine AC.seq (AC.region (AL.go (AO.assign rfl rfl (AL.nil (AK.seqN (AC.seq ?_))))))
  refine AC.seq (AC.region (AL.go (AO.move rfl rfl ?_)))
  refine AL.go (AO.len rfl rfl (fun hl1 => ?_) (hm := m1))
  refine AL.go (AO.move rfl rfl ?_)
  refine AL.go (AO.len rfl rfl (fun hl2 => ?_) (hm := m2))
  refine AL.go (AO.neq rfl rfl rfl (fun c10 => ?_) (fun c10 => ?_))
  · refine AL.nil (AK.seqN (AC.condT rfl (AC.seq (AC.region (AL.go (AO.assign rfl rfl ?_))))))
    refine AL.nil (AK.seqN (AC.ret (AK.seqR ?_)))
    first | refine AK.ret Tryz.results30 rfl (by repeat (first | exact Sub.refl _ _ | refine Sub.trans Sub.drop ?_ | refine Sub.trans Sub.dropF ?_)) (hT ?_) | refine AK.ret Tryz.results30 rfl (by repeat (first | exact Sub.refl _ _ | refine Sub.trans Sub.drop ?_ | refine Sub.trans Sub.dropF ?_)) (hF ?_)
    first
    | exact ne_at hkl hkm c24
    | exact fun e => c10 (by rw [e])
    | exact all_of_take hok (by omega) (by omega)
  · refine AL.nil (AK.seqN (AC.condF rfl (AC.skip (AK.seqN (AC.seq ?_)))))
    refine AC.seq (AC.region (AL.go (AO.move rfl rfl ?_)))
    refine AL.go (AO.len rfl rfl (fun hl3 => ?_) (hm := m1))
    refine AL.go (AO.move rfl rfl (AL.nil (AK.seqN (AC.block ?_))))
    refine AC.loop (fun k => k ≤ l.length ∧ l.take k = m.take k) (fun k => [(0, .slice a1 k1 c1), (1, .slice a2 k2 c2), (12, .int .i64 l.length), (13, .int .i64 (k : Int))]) (fun _ => L) (fun _ => F) (fun k => l.length - k) 0 ⟨by omega, by simp⟩ (by repeat (first | exact SubR.nil | refine SubR.cons rfl ?_)) (Sub.refl _ _) ?_
    rintro k ⟨hk, hok⟩
    refine AC.seq (AC.region ?_)
    refine AL.go (AO.lss rfl rfl rfl (fun c14 => ?_) (fun c14 => ?_))
    · refine AL.nil (AK.seqN (AC.seq (AC.condT rfl (AC.skip (AK.seqN ?_)))))
      refine AC.seq (AC.block (AC.seq (AC.region (AL.go (AO.move rfl rfl (AL.go (AO.assign rfl rfl ?_)))))))
      refine AL.nil (AK.seqN (AC.seq ?_))
      refine AC.draw (fun _ => false) [] (by repeat (first | exact BxIn.nil | refine BxIn.cons (by repeat (first | exact has0 | apply hasS)) ?_)) rfl (fun hx hX => ?_)
      have hkl : k < l.length := by omega
      have hkm : k < m.length := by omega
      have hkk1 := (len_of_fact (hX _ m1)).1
      have hkk3 := (len_of_fact (hX _ m2)).1
      obtain ⟨p1, o1, rfl, at1⟩ := row_of_fact (hX _ m1) hkl
      obtain ⟨p2, o2, rfl, at2⟩ := row_of_fact (hX _ m2) hkm
      obtain ⟨v1, hv1, hc1⟩ := at1 0 _ rfl
      obtain ⟨v2, hv2, hc2⟩ := at2 0 _ rfl
      cases hc1
      cases hc2
      refine AH.takeW (i := 0) rfl (Y.move rfl) (by kernel_rfl) rfl rfl ?_
      refine AH.takeW (i := 1) rfl (Y.move rfl) (by kernel_rfl) rfl rfl ?_
      refine AH.takeW (i := 2) rfl (Y.indexAddr rfl rfl rfl (by omega)) (by kernel_rfl) rfl rfl ?_
      refine AH.takeS (i := 3) rfl (Y.loadF rfl (by assumption)) (by kernel_rfl) (by kernel_rfl) rfl rfl rfl ?_
      refine AH.takeW (i := 4) rfl (Y.move rfl) (by kernel_rfl) rfl rfl ?_
      refine AH.takeW (i := 5) rfl (Y.move rfl) (by kernel_rfl) rfl rfl ?_
      refine AH.takeW (i := 6) rfl (Y.indexAddr rfl rfl rfl (by omega)) (by kernel_rfl) rfl rfl ?_
      refine AH.takeS (i := 7) rfl (Y.loadF rfl (by assumption)) (by kernel_rfl) (by kernel_rfl) rfl rfl rfl ?_
      refine AH.takeB (i := 8) rfl (Y.neqS rfl rfl) (by kernel_rfl) rfl rfl (fun c24 => ?_) (fun c24 => ?_)
      · replace c24 := ne_of_nbeq c24
        refine AH.done (by kernel_rfl) ?_
        refine AK.seqN (AC.condT rfl (AC.seq (AC.region (AL.go (AO.assign rfl rfl (AL.nil ?_))))))
        refine AK.seqN (AC.ret (AK.blkR (AK.seqR (AK.seqR (AK.blkR ?_)))))
        refine AK.seqR ?_
        first | refine AK.ret Tryz.results30 rfl (by repeat (first | exact Sub.refl _ _ | refine Sub.trans Sub.drop ?_ | refine Sub.trans Sub.dropF ?_)) (hT ?_) | refine AK.ret Tryz.results30 rfl (by repeat (first | exact Sub.refl _ _ | refine Sub.trans Sub.drop ?_ | refine Sub.trans Sub.dropF ?_)) (hF ?_)
        first
        | exact ne_at hkl hkm c24
        | exact fun e => c10 (by rw [e])
        | exact all_of_take hok (by omega) (by omega)
      · replace c24 := eq_of_nbeqF c24
        refine AH.done (by kernel_rfl) ?_
        refine AK.seqN (AC.condF rfl (AC.skip (AK.blkN (AK.seqN (AC.region ?_)))))
        refine AL.go (AO.add rfl rfl rfl (by omega) (by omega) (AL.go (AO.move rfl rfl (AL.nil ?_))))
        refine AK.next (k + 1) ⟨by omega, take_step hok hkl hkm c24⟩ (by omega) (by repeat (first | exact SubR.nil | refine SubR.cons rfl ?_)) (by repeat (first | exact Sub.refl _ _ | refine Sub.trans Sub.dropF ?_))
    · refine AL.nil (AK.seqN (AC.seq (AC.condF rfl (AC.exit (AK.seqX ?_)))))
      refine AK.seqX (AK.blkX (AK.seqN (AC.seq (AC.region (AL.go (AO.assign rfl rfl ?_))))))
      refine AL.nil (AK.seqN (AC.ret ?_))
      first | refine AK.ret Tryz.results30 rfl (by repeat (first | exact Sub.refl _ _ | refine Sub.trans Sub.drop ?_ | refine Sub.trans Sub.dropF ?_)) (hT ?_) | refine AK.ret Tryz.results30 rfl (by repeat (first | exact Sub.refl _ _ | refine Sub.trans Sub.drop ?_ | refine Sub.trans Sub.dropF ?_)) (hF ?_)
      first
      | exact ne_at hkl hkm c24
      | exact fun e => c10 (by rw [e])
      | exact all_of_take hok (by omega) (by omega)
theorem like_c (v u : Ver) {a1 a2 a3 a4 : Option Addr} {k1 c1 k2 c2 k3 c3 k4 c4 : Nat} (m1 : fS v.pre a1 k1 c1 ∈ F) (m2 : fS v.build a2 k2 c2 ∈ F) (m3 : fS u.pre a3 k3 c3 ∈ F) (m4 : fS u.build a4 k4 c4 ∈ F)
    (hT : v = u → R (.bool true) L F) (hF : v ≠ u → R (.bool false) L F) : ACalls Tryz.prog W0 14 #[vVer v a1 k1 c1 a2 k2 c2, vVer u a3 k3 c3 a4 k4 c4] L F R := by
  refine ACalls.body Tryz.func14 rfl Tryz.ntmps14 rfl ?_
  refine AC.seq (AC.region (AL.go (AO.box rfl rfl (fun b2 => ?_))))
  refine AL.go (AO.box rfl rfl (fun b3 => ?_))
  refine AL.go (AO.assign rfl rfl (AL.nil (AK.seqN (AC.seq (AC.region (AL.go (AO.field rfl rfl ?_)))))))
  refine AL.go (AO.loadB rfl rfl ?_)
  refine AL.go (AO.field rfl rfl ?_)
  refine AL.go (AO.loadB rfl rfl ?_)
  refine AL.go (AO.eql rfl rfl rfl (fun c9 => ?_) (fun c9 => ?_))
  · refine AL.go (AO.move rfl rfl (AL.yes rfl rfl (AO.field rfl rfl ?_)))
    refine AL.yes rfl rfl (AO.loadB rfl rfl ?_)
    refine AL.yes rfl rfl (AO.field rfl rfl ?_)
    refine AL.yes rfl rfl (AO.loadB rfl rfl ?_)
    refine AL.yes rfl rfl (AO.eql rfl rfl rfl (fun c15 => ?_) (fun c15 => ?_))
    · refine AL.go (AO.pickT rfl rfl rfl (AL.go (AO.move rfl rfl (AL.yes rfl rfl (AO.field rfl rfl ?_)))))
      refine AL.yes rfl rfl (AO.loadB rfl rfl ?_)
      refine AL.yes rfl rfl (AO.field rfl rfl ?_)
      refine AL.yes rfl rfl (AO.loadB rfl rfl ?_)
      refine AL.yes rfl rfl (AO.eql rfl rfl rfl (fun c22 => ?_) (fun c22 => ?_))
      · refine AL.go (AO.pickT rfl rfl rfl (AL.go (AO.move rfl rfl (AL.yes rfl rfl (AO.field rfl rfl ?_)))))
        refine AL.yes rfl rfl (AO.loadB rfl rfl ?_)
        refine AL.yes rfl rfl (AO.field rfl rfl ?_)
        refine AL.yes rfl rfl (AO.loadB rfl rfl ?_)
        refine AL.yes rfl rfl (AO.call rfl rfl (equal_c v.pre u.pre (by repeat (first | exact mem0 | assumption | refine memS ?_)) (by repeat (first | exact mem0 | assumption | refine memS ?_)) (fun c29 => ?_) (fun c29 => ?_)))
        · refine AL.go (AO.pickT rfl rfl rfl (AL.go (AO.move rfl rfl (AL.yes rfl rfl (AO.field rfl rfl ?_)))))
          refine AL.yes rfl rfl (AO.loadB rfl rfl ?_)
          refine AL.yes rfl rfl (AO.field rfl rfl ?_)
          refine AL.yes rfl rfl (AO.loadB rfl rfl ?_)
          refine AL.yes rfl rfl (AO.call rfl rfl (equal_c v.build u.build (by repeat (first | exact mem0 | assumption | refine memS ?_)) (by repeat (first | exact mem0 | assumption | refine memS ?_)) (fun c36 => ?_) (fun c36 => ?_)))
          · refine AL.go (AO.pickT rfl rfl rfl (AL.go (AO.assign rfl rfl (AL.nil (AK.seqN (AC.ret ?_))))))
            first | refine AK.ret (L' := L) (F' := F) Tryz.results14 rfl (by repeat (first | exact Sub.refl _ _ | refine Sub.trans Sub.drop ?_ | refine Sub.trans Sub.dropF ?_)) (hT ?_) | refine AK.ret (L' := L) (F' := F) Tryz.results14 rfl (by repeat (first | exact Sub.refl _ _ | refine Sub.trans Sub.drop ?_ | refine Sub.trans Sub.dropF ?_)) (hF ?_)
            first
            | exact ver_ext c9 c15 c22 c29 c36
            | exact fun e => c9 (by rw [e])
            | exact fun e => c15 (by rw [e])
            | exact fun e => c22 (by rw [e])
            | exact fun e => c29 (by rw [e])
            | exact fun e => c36 (by rw [e])
          · refine AL.go (AO.pickT rfl rfl rfl (AL.go (AO.assign rfl rfl (AL.nil (AK.seqN (AC.ret ?_))))))
            first | refine AK.ret (L' := L) (F' := F) Tryz.results14 rfl (by repeat (first | exact Sub.refl _ _ | refine Sub.trans Sub.drop ?_ | refine Sub.trans Sub.dropF ?_)) (hT ?_) | refine AK.ret (L' := L) (F' := F) Tryz.results14 rfl (by repeat (first | exact Sub.refl _ _ | refine Sub.trans Sub.drop ?_ | refine Sub.trans Sub.dropF ?_)) (hF ?_)
            first
            | exact ver_ext c9 c15 c22 c29 c36
            | exact fun e => c9 (by rw [e])
            | exact fun e => c15 (by rw [e])
            | exact fun e => c22 (by rw [e])
            | exact fun e => c29 (by rw [e])
            | exact fun e => c36 (by rw [e])
        · refine AL.go (AO.pickT rfl rfl rfl (AL.go (AO.move rfl rfl (AL.no rfl rfl rfl rfl (AL.no rfl rfl rfl rfl (AL.no rfl rfl rfl rfl (AL.no rfl rfl rfl rfl ?_)))))))
          refine AL.no rfl rfl rfl rfl (AL.go (AO.pickF rfl rfl rfl (AL.go (AO.assign rfl rfl (AL.nil (AK.seqN (AC.ret ?_)))))))
          first | refine AK.ret (L' := L) (F' := F) Tryz.results14 rfl (by repeat (first | exact Sub.refl _ _ | refine Sub.trans Sub.drop ?_ | refine Sub.trans Sub.dropF ?_)) (hT ?_) | refine AK.ret (L' := L) (F' := F) Tryz.results14 rfl (by repeat (first | exact Sub.refl _ _ | refine Sub.trans Sub.drop ?_ | refine Sub.trans Sub.dropF ?_)) (hF ?_)
          first
          | exact ver_ext c9 c15 c22 c29 c36
          | exact fun e => c9 (by rw [e])
          | exact fun e => c15 (by rw [e])
          | exact fun e => c22 (by rw [e])
          | exact fun e => c29 (by rw [e])
          | exact fun e => c36 (by rw [e])
      · refine AL.go (AO.pickT rfl rfl rfl (AL.go (AO.move rfl rfl (AL.no rfl rfl rfl rfl (AL.no rfl rfl rfl rfl (AL.no rfl rfl rfl rfl (AL.no rfl rfl rfl rfl ?_)))))))
        refine AL.no rfl rfl rfl rfl (AL.go (AO.pickF rfl rfl rfl (AL.go (AO.move rfl rfl (AL.no rfl rfl rfl rfl (AL.no rfl rfl rfl rfl (AL.no rfl rfl rfl rfl ?_)))))))
        refine AL.no rfl rfl rfl rfl (AL.no rfl rfl rfl rfl (AL.go (AO.pickF rfl rfl rfl (AL.go (AO.assign rfl rfl (AL.nil (AK.seqN ?_)))))))
        refine AC.ret ?_
        first | refine AK.ret (L' := L) (F' := F) Tryz.results14 rfl (by repeat (first | exact Sub.refl _ _ | refine Sub.trans Sub.drop ?_ | refine Sub.trans Sub.dropF ?_)) (hT ?_) | refine AK.ret (L' := L) (F' := F) Tryz.results14 rfl (by repeat (first | exact Sub.refl _ _ | refine Sub.trans Sub.drop ?_ | refine Sub.trans Sub.dropF ?_)) (hF ?_)
        first
        | exact ver_ext c9 c15 c22 c29 c36
        | exact fun e => c9 (by rw [e])
        | exact fun e => c15 (by rw [e])
        | exact fun e => c22 (by rw [e])
        | exact fun e => c29 (by rw [e])
        | exact fun e => c36 (by rw [e])
    · refine AL.go (AO.pickT rfl rfl rfl (AL.go (AO.move rfl rfl (AL.no rfl rfl rfl rfl (AL.no rfl rfl rfl rfl (AL.no rfl rfl rfl rfl (AL.no rfl rfl rfl rfl ?_)))))))
      refine AL.no rfl rfl rfl rfl (AL.go (AO.pickF rfl rfl rfl (AL.go (AO.move rfl rfl (AL.no rfl rfl rfl rfl (AL.no rfl rfl rfl rfl (AL.no rfl rfl rfl rfl ?_)))))))
      refine AL.no rfl rfl rfl rfl (AL.no rfl rfl rfl rfl (AL.go (AO.pickF rfl rfl rfl (AL.go (AO.move rfl rfl (AL.no rfl rfl rfl rfl (AL.no rfl rfl rfl rfl ?_)))))))
      refine AL.no rfl rfl rfl rfl (AL.no rfl rfl rfl rfl (AL.no rfl rfl rfl rfl (AL.go (AO.pickF rfl rfl rfl (AL.go (AO.assign rfl rfl (AL.nil ?_)))))))
      refine AK.seqN (AC.ret ?_)
      first | refine AK.ret (L' := L) (F' := F) Tryz.results14 rfl (by repeat (first | exact Sub.refl _ _ | refine Sub.trans Sub.drop ?_ | refine Sub.trans Sub.dropF ?_)) (hT ?_) | refine AK.ret (L' := L) (F' := F) Tryz.results14 rfl (by repeat (first | exact Sub.refl _ _ | refine Sub.trans Sub.drop ?_ | refine Sub.trans Sub.dropF ?_)) (hF ?_)
      first
      | exact ver_ext c9 c15 c22 c29 c36
      | exact fun e => c9 (by rw [e])
      | exact fun e => c15 (by rw [e])
      | exact fun e => c22 (by rw [e])
      | exact fun e => c29 (by rw [e])
      | exact fun e => c36 (by rw [e])
  · refine AL.go (AO.move rfl rfl (AL.no rfl rfl rfl rfl (AL.no rfl rfl rfl rfl (AL.no rfl rfl rfl rfl (AL.no rfl rfl rfl rfl (AL.no rfl rfl rfl rfl ?_))))))
    refine AL.go (AO.pickF rfl rfl rfl (AL.go (AO.move rfl rfl (AL.no rfl rfl rfl rfl (AL.no rfl rfl rfl rfl (AL.no rfl rfl rfl rfl (AL.no rfl rfl rfl rfl ?_)))))))
    refine AL.no rfl rfl rfl rfl (AL.go (AO.pickF rfl rfl rfl (AL.go (AO.move rfl rfl (AL.no rfl rfl rfl rfl (AL.no rfl rfl rfl rfl (AL.no rfl rfl rfl rfl ?_)))))))
    refine AL.no rfl rfl rfl rfl (AL.no rfl rfl rfl rfl (AL.go (AO.pickF rfl rfl rfl (AL.go (AO.move rfl rfl (AL.no rfl rfl rfl rfl (AL.no rfl rfl rfl rfl ?_)))))))
    refine AL.no rfl rfl rfl rfl (AL.no rfl rfl rfl rfl (AL.no rfl rfl rfl rfl (AL.go (AO.pickF rfl rfl rfl (AL.go (AO.assign rfl rfl (AL.nil ?_)))))))
    refine AK.seqN (AC.ret ?_)
    first | refine AK.ret (L' := L) (F' := F) Tryz.results14 rfl (by repeat (first | exact Sub.refl _ _ | refine Sub.trans Sub.drop ?_ | refine Sub.trans Sub.dropF ?_)) (hT ?_) | refine AK.ret (L' := L) (F' := F) Tryz.results14 rfl (by repeat (first | exact Sub.refl _ _ | refine Sub.trans Sub.drop ?_ | refine Sub.trans Sub.dropF ?_)) (hF ?_)
    first
    | exact ver_ext c9 c15 c22 c29 c36
    | exact fun e => c9 (by rw [e])
    | exact fun e => c15 (by rw [e])
    | exact fun e => c22 (by rw [e])
    | exact fun e => c29 (by rw [e])
    | exact fun e => c36 (by rw [e])
theorem rjoin_c (a : List UInt8) (l : List (List UInt8)) (ha : a.length ≤ 1) (hl : l.length ≤ 8) (hs : ∀ s ∈ l, s.length ≤ 40) {a1 : Option Addr} {k1 c1 : Nat} (m1 : fS l a1 k1 c1 ∈ F) (h : R (S (joinA a l)) L F) :
    ACalls Tryz.prog W0 31 #[S a, .slice a1 k1 c1] L F R := by
  have hml : 10000 ≤ maxLen := by decide
  refine ACalls.body Tryz.func31 rfl Tryz.ntmps31 rfl ?_
  refine AC.seq (AC.region (AL.go (AO.assign rfl rfl (AL.nil (AK.seqN (AC.seq ?_))))))
  refine AC.region (AL.go (AO.assign rfl rfl (AL.nil (AK.seqN (AC.seq (AC.seq ?_))))))
  refine AC.region (AL.go (AO.move rfl rfl ?_))
  refine AL.go (AO.len rfl rfl (fun hl9 => ?_) (hm := by repeat (first | exact mem0 | assumption | refine memS ?_)))
  refine AL.go (AO.move rfl rfl (AL.nil (AK.seqN (AC.block ?_))))
  refine AC.loopC (fun (q : Nat) => q ≤ l.length) (fun q => [(0, S a), (5, S (joinA a (l.take q))), (8, .slice a1 k1 c1), (9, .int .i64 l.length), (10, .int .i64 (q : Int))]) (fun q => l.length - q) 0 (by omega) (by repeat (first | exact SubR.nil | refine SubR.cons rfl ?_)) ?_
  rintro q hq
  refine AC.seq (AC.region ?_)
  refine AL.go (AO.lss rfl rfl rfl (fun c11 => ?_) (fun c11 => ?_))
  · refine AL.nil (AK.seqN (AC.seq (AC.condT rfl (AC.skip (AK.seqN ?_)))))
    refine AC.seq (AC.block (AC.seq (AC.region (AL.go (AO.move rfl rfl ?_)))))
    have hql : q < l.length := by omega
    have hjl := joinA_len ha hl hs q
    have hsl := hs _ (List.getElem_mem hql)
    refine AL.go (AO.indexAddr rfl rfl rfl rfl (by repeat (first | exact mem0 | assumption | refine memS ?_)) hql (fun _ _ => ?_))
    refine AL.go (AO.loadF rfl rfl ?_)
    intros
    refine AL.go (AO.assign rfl rfl (AL.go (AO.assign rfl rfl (AL.nil (AK.seqN (AC.seq (AC.region ?_)))))))
    refine AL.go (AO.move rfl rfl ?_)
    refine AL.go (AO.eql rfl rfl rfl (fun c16 => ?_) (fun c16 => ?_))
    · refine AL.nil (AK.seqN (AC.condT rfl (AC.region (AL.go (AO.move rfl rfl (AL.go (AO.move rfl rfl ?_)))))))
      refine AL.go (AO.addS rfl rfl rfl (by first | omega | (simp; omega)) (AL.go (AO.assign rfl rfl (AL.nil (AK.blkN (AK.seqN (AC.region ?_)))))))
      refine AL.go (AO.add rfl rfl rfl (by omega) (by omega) (AL.go (AO.move rfl rfl (AL.nil ?_))))
      first | rw [ja0 hql c16] | rw [ja1 hql c16]
      refine AK.next (q + 1) (by omega) (by omega) (by repeat (first | exact SubR.nil | refine SubR.cons rfl ?_)) (by repeat (first | exact Sub.refl _ _ | refine Sub.trans Sub.dropF ?_))
    · refine AL.nil (AK.seqN (AC.condF rfl (AC.region (AL.go (AO.move rfl rfl (AL.go (AO.addS rfl rfl rfl (by first | omega | (simp; omega)) ?_)))))))
      refine AL.go (AO.move rfl rfl (AL.go (AO.addS rfl rfl rfl (by first | omega | (simp; omega)) (AL.go (AO.assign rfl rfl (AL.nil (AK.blkN (AK.seqN ?_))))))))
      refine AC.region (AL.go (AO.add rfl rfl rfl (by omega) (by omega) (AL.go (AO.move rfl rfl (AL.nil ?_)))))
      first | rw [ja0 hql c16] | rw [ja1 hql c16]
      refine AK.next (q + 1) (by omega) (by omega) (by repeat (first | exact SubR.nil | refine SubR.cons rfl ?_)) (by repeat (first | exact Sub.refl _ _ | refine Sub.trans Sub.dropF ?_))
  · refine AL.nil (AK.seqN (AC.seq (AC.condF rfl (AC.exit (AK.seqX ?_)))))
    refine AK.seqX (AK.blkX (AK.seqN (AC.seq (AC.region (AL.go (AO.move rfl rfl ?_))))))
    refine AL.go (AO.assign rfl rfl (AL.nil (AK.seqN (AC.ret ?_))))
    refine AK.ret (L' := L) (F' := F) Tryz.results31 rfl (by repeat (first | exact Sub.refl _ _ | refine Sub.trans Sub.drop ?_ | refine Sub.trans Sub.dropF ?_)) ?_
    have e : l.take q = l := List.take_of_length_le (by omega)
    rw [e]
    exact h
theorem rtext_c (g : Glob W0) (v : Ver) (hv : VerOk v) (hr : rightV v = true) {a1 a2 : Option Addr} {k1 c1 k2 c2 : Nat} (m1 : fS v.pre a1 k1 c1 ∈ F) (m2 : fS v.build a2 k2 c2 ∈ F) (h : R (S (textS v)) L F) :
    ACalls Tryz.prog W0 15 #[vVer v a1 k1 c1 a2 k2 c2] L F R := by
  obtain ⟨hb1, hb2, _, _⟩ := right_bounds hr
  obtain ⟨hw1, hw2⟩ := right_words hr
  have hr1 := hv.r1
  have hr2 := hv.r2
  have hr3 := hv.r3
  have hml : 10000 ≤ maxLen := by decide
  have hi1 := itoa_len hv.r1
  have hi2 := itoa_len hv.r2
  have hi3 := itoa_len hv.r3
  have hj1 := joinA_len (a := [45]) (by decide) hb1 hw1 8
  have hj2 := joinA_len (a := [43]) (by decide) hb2 hw2 8
  rw [List.take_of_length_le hb1] at hj1
  rw [List.take_of_length_le hb2] at hj2
  refine ACalls.body Tryz.func15 rfl Tryz.ntmps15 rfl ?_
  refine AC.seq (AC.region (AL.go (AO.box rfl rfl (fun b1 => ?_))))
  refine AL.go (AO.assign rfl rfl (AL.nil (AK.seqN (AC.seq ?_))))
  refine AC.draw (fun _ => false) [(b1, _, _)] (by repeat (first | exact BxIn.nil | refine BxIn.cons (by repeat (first | exact has0 | apply hasS)) ?_)) rfl (fun hx hX => ?_)
  refine AH.takeW (i := 0) rfl (Y.field rfl) (by kernel_rfl) rfl rfl ?_
  refine AH.takeS (i := 1) rfl (Y.loadB rfl (by repeat (first | exact List.Mem.head _ | refine List.Mem.tail _ ?_)) (by rfl)) (by kernel_rfl) (by kernel_rfl) rfl rfl rfl ?_
  refine AH.takeW (i := 4) rfl (Y.field rfl) (by kernel_rfl) rfl rfl ?_
  refine AH.takeS (i := 5) rfl (Y.loadB rfl (by repeat (first | exact List.Mem.head _ | refine List.Mem.tail _ ?_)) (by rfl)) (by kernel_rfl) (by kernel_rfl) rfl rfl rfl ?_
  refine AH.takeW (i := 9) rfl (Y.field rfl) (by kernel_rfl) rfl rfl ?_
  refine AH.takeS (i := 10) rfl (Y.loadB rfl (by repeat (first | exact List.Mem.head _ | refine List.Mem.tail _ ?_)) (by rfl)) (by kernel_rfl) (by kernel_rfl) rfl rfl rfl ?_
  refine AH.takeW (i := 13) rfl (Y.field rfl) (by kernel_rfl) rfl rfl ?_
  refine AH.takeS (i := 14) rfl (Y.loadB rfl (by repeat (first | exact List.Mem.head _ | refine List.Mem.tail _ ?_)) (by rfl)) (by kernel_rfl) (by kernel_rfl) rfl rfl rfl ?_
  refine AH.takeW (i := 17) rfl (Y.field rfl) (by kernel_rfl) rfl rfl ?_
  refine AH.takeS (i := 18) rfl (Y.loadB rfl (by repeat (first | exact List.Mem.head _ | refine List.Mem.tail _ ?_)) (by rfl)) (by kernel_rfl) (by kernel_rfl) rfl rfl rfl ?_
  refine AH.one (i := 2) (by kernel_rfl) rfl rfl (fun _ => ?_)
  refine AO.call rfl rfl (itoa_c g _ ‹_› ?_)
  refine AT.held (by repeat (first | exact BxIn.nil | refine BxIn.cons (by repeat (first | exact has0 | apply hasS)) ?_)) (by repeat (first | exact mem0 | refine memS ?_)) ?_
  refine AH.takeW (i := 3) rfl (Y.addS rfl rfl (by first | omega | (simp; omega))) (by kernel_rfl) rfl rfl ?_
  refine AH.one (i := 6) (by kernel_rfl) rfl rfl (fun _ => ?_)
  refine AO.call rfl rfl (itoa_c g _ ‹_› ?_)
  refine AT.held (by repeat (first | exact BxIn.nil | refine BxIn.cons (by repeat (first | exact has0 | apply hasS)) ?_)) (by repeat (first | exact mem0 | refine memS ?_)) ?_
  refine AH.takeW (i := 7) rfl (Y.addS rfl rfl (by first | omega | (simp; omega))) (by kernel_rfl) rfl rfl ?_
  refine AH.takeW (i := 8) rfl (Y.addS rfl rfl (by first | omega | (simp; omega))) (by kernel_rfl) rfl rfl ?_
  refine AH.one (i := 11) (by kernel_rfl) rfl rfl (fun _ => ?_)
  refine AO.call rfl rfl (itoa_c g _ ‹_› ?_)
  refine AT.held (by repeat (first | exact BxIn.nil | refine BxIn.cons (by repeat (first | exact has0 | apply hasS)) ?_)) (by repeat (first | exact mem0 | refine memS ?_)) ?_
  refine AH.takeW (i := 12) rfl (Y.addS rfl rfl (by first | omega | (simp; omega))) (by kernel_rfl) rfl rfl ?_
  refine AH.one (i := 15) (by kernel_rfl) rfl rfl (fun _ => ?_)
  refine AO.call rfl rfl (rjoin_c [45] v.pre (by decide) hb1 hw1 (by repeat (first | exact mem0 | assumption | refine memS ?_)) ?_)
  refine AT.held (by repeat (first | exact BxIn.nil | refine BxIn.cons (by repeat (first | exact has0 | apply hasS)) ?_)) (by repeat (first | exact mem0 | refine memS ?_)) ?_
  refine AH.takeW (i := 16) rfl (Y.addS rfl rfl (by first | omega | (simp; omega))) (by kernel_rfl) rfl rfl ?_
  refine AH.one (i := 19) (by kernel_rfl) rfl rfl (fun _ => ?_)
  refine AO.call rfl rfl (rjoin_c [43] v.build (by decide) hb2 hw2 (by repeat (first | exact mem0 | assumption | refine memS ?_)) ?_)
  refine AT.held (by repeat (first | exact BxIn.nil | refine BxIn.cons (by repeat (first | exact has0 | apply hasS)) ?_)) (by repeat (first | exact mem0 | refine memS ?_)) ?_
  refine AH.takeW (i := 20) rfl (Y.addS rfl rfl (by first | omega | (simp; omega))) (by kernel_rfl) rfl rfl ?_
  refine AH.takeW (i := 21) rfl (Y.assign rfl) (by kernel_rfl) rfl rfl ?_
  refine AH.done (by kernel_rfl) ?_
  refine AK.seqN (AC.ret ?_)
  exact AK.ret (L' := L) (F' := F) Tryz.results15 rfl (by repeat (first | exact Sub.refl _ _ | refine Sub.trans Sub.drop ?_ | refine Sub.trans Sub.dropF ?_)) h
end
end Go.Sy
