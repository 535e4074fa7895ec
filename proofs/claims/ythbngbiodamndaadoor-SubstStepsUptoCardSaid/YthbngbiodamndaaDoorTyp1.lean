/- Layer 10's data, and which types are alike. -/
import Derived.Test.YthbngbiodamndaaDoorSrc
namespace Go.Sy
open Go Go.Proofs

structure Ty where
  kind : Int
  name : List UInt8
  n : Int
  words : List (List UInt8)
  kids : List Int
deriving DecidableEq

abbrev eS (s : List UInt8) : List D := [.val (S s)]
abbrev eI (i : Int) : List D := [.val (.int .i64 i)]
abbrev eTy (t : Ty) : List D := [.val (.int .i64 t.kind), .val (S t.name), .val (.int .i64 t.n), .slc 1 (t.words.map eS), .slc 1 (t.kids.map eI)]
/-- A type, as a value. -/
abbrev vTy (t : Ty) (a1 : Option Addr) (k1 c1 : Nat) (a2 : Option Addr) (k2 c2 : Nat) : Value := .agg #[.int .i64 t.kind, S t.name, .int .i64 t.n, .slice a1 k1 c1, .slice a2 k2 c2]
abbrev fW (t : Ty) (a1 : Option Addr) (k1 c1 : Nat) : Fact := .slc (.slice a1 k1 c1) 1 (t.words.map eS)
abbrev fK (t : Ty) (a2 : Option Addr) (k2 c2 : Nat) : Fact := .slc (.slice a2 k2 c2) 1 (t.kids.map eI)

theorem take_step {α : Type} {l m : List α} {k : Nat} (h : l.take k = m.take k) (hl : k < l.length) (hm : k < m.length) (he : l[k] = m[k]) : l.take (k + 1) = m.take (k + 1) := by
  rw [List.take_succ_eq_append_getElem hl, List.take_succ_eq_append_getElem hm, h, he]
theorem ne_at {α : Type} {l m : List α} {k : Nat} (hl : k < l.length) (hm : k < m.length) (he : l[k] ≠ m[k]) : l ≠ m := fun e => he (by subst e; rfl)

theorem all_of_take {α : Type} {l m : List α} {k : Nat} (h : l.take k = m.take k) (hl : l.length ≤ k) (hm : m.length ≤ k) : l = m := by
  rwa [List.take_of_length_le hl, List.take_of_length_le hm] at h
theorem ty_ext {t u : Ty} (h1 : t.kind = u.kind) (h2 : t.name = u.name) (h3 : t.n = u.n) (h4 : t.words = u.words) (h5 : t.kids = u.kids) : t = u := by
  cases t; cases u; simp_all

attribute [local irreducible] AC AT AO AK AH ACalls Sub Res.cells Res.obj Res.nix Res.own Exit.then Exit.inBlock bodyPost Code.wp Next Post Kont
section
variable {W0 : World} {L : List Res} {F : List Fact} {R : Value → List Res → List Fact → Prop}
set_option maxRecDepth 100000
theorem ref_Like_c (t u : Ty) {a1 a2 a3 a4 : Option Addr} {k1 c1 k2 c2 k3 c3 k4 c4 : Nat} (hT : t = u → R (.bool true) L F) (hF : t ≠ u → R (.bool false) L F)
    (m1 : fW t a1 k1 c1 ∈ F) (m2 : fK t a2 k2 c2 ∈ F) (m3 : fW u a3 k3 c3 ∈ F) (m4 : fK u a4 k4 c4 ∈ F) :
    ACalls Tryd.prog W0 17 #[vTy t a1 k1 c1 a2 k2 c2, vTy u a3 k3 c3 a4 k4 c4] L F R := by
  refine ACalls.body Tryd.func17 rfl Tryd.ntmps17 rfl ?_
  refine AC.seq (AC.region (AL.go (AO.box rfl rfl (fun b2 => ?_))))
  refine AL.go (AO.box rfl rfl (fun b3 => ?_))
  refine AL.go (AO.assign rfl rfl (AL.nil (AK.seqN (AC.seq (AC.seq (AC.region ?_))))))
  refine AL.go (AO.field rfl rfl ?_)
  refine AL.go (AO.loadB rfl rfl ?_)
  refine AL.go (AO.field rfl rfl ?_)
  refine AL.go (AO.loadB rfl rfl ?_)
  refine AL.go (AO.neq rfl rfl rfl (fun c11 => ?_) (fun c11 => ?_))
  · refine AL.go (AO.move rfl rfl (AL.no rfl rfl rfl rfl (AL.no rfl rfl rfl rfl (AL.no rfl rfl rfl rfl (AL.no rfl rfl rfl rfl (AL.no rfl rfl rfl rfl ?_))))))
    refine AL.go (AO.pickT rfl rfl rfl (AL.go (AO.move rfl rfl (AL.no rfl rfl rfl rfl (AL.no rfl rfl rfl rfl (AL.no rfl rfl rfl rfl (AL.no rfl rfl rfl rfl ?_)))))))
    refine AL.no rfl rfl rfl rfl (AL.go (AO.pickT rfl rfl rfl (AL.go (AO.move rfl rfl (AL.no rfl rfl rfl rfl (AL.no rfl rfl rfl rfl (AL.no rfl rfl rfl rfl ?_)))))))
    refine AL.no rfl rfl rfl rfl (AL.no rfl rfl rfl rfl (AL.no rfl rfl rfl rfl (AL.no rfl rfl rfl rfl (AL.go (AO.pickT rfl rfl rfl (AL.go (AO.move rfl rfl ?_)))))))
    refine AL.no rfl rfl rfl rfl (AL.no rfl rfl rfl rfl (AL.no rfl rfl rfl rfl (AL.no rfl rfl rfl rfl (AL.no rfl rfl rfl rfl (AL.no rfl rfl rfl rfl ?_)))))
    refine AL.no rfl rfl rfl rfl (AL.go (AO.pickT rfl rfl rfl (AL.nil (AK.seqN (AC.condT rfl (AC.seq ?_))))))
    refine AC.region (AL.go (AO.assign rfl rfl (AL.nil (AK.seqN (AC.ret (AK.seqR ?_))))))
    first | refine AK.ret Tryd.results17 rfl (by repeat (first | exact Sub.refl _ _ | refine Sub.trans Sub.drop ?_ | refine Sub.trans Sub.dropF ?_)) (hT ?_) | refine AK.ret Tryd.results17 rfl (by repeat (first | exact Sub.refl _ _ | refine Sub.trans Sub.drop ?_ | refine Sub.trans Sub.dropF ?_)) (hF ?_)
    first
    | (intro e; subst e; exact absurd rfl ‹_›)
    | exact fun e => ne_at hkl hkm c60 (by rw [e])
    | exact fun e => ne_at hkl hkm c78 (by rw [e])
    | exact fun e => absurd (congrArg Ty.kind e) ‹_›
    | exact fun e => absurd (congrArg Ty.name e) ‹_›
    | exact fun e => absurd (congrArg Ty.n e) ‹_›
    | exact fun e => c33 (by rw [e])
    | exact fun e => c42 (by rw [e])
    | exact ty_ext c11 c17 c24 (all_of_take hok (by omega) (by omega)) (all_of_take hoq (by omega) (by omega))
  · refine AL.go (AO.move rfl rfl (AL.yes rfl rfl (AO.field rfl rfl ?_)))
    refine AL.yes rfl rfl (AO.loadB rfl rfl ?_)
    refine AL.yes rfl rfl (AO.field rfl rfl ?_)
    refine AL.yes rfl rfl (AO.loadB rfl rfl ?_)
    refine AL.yes rfl rfl (AO.neqS rfl rfl rfl (fun c17 => ?_) (fun c17 => ?_))
    · refine AL.go (AO.pickF rfl rfl rfl (AL.go (AO.move rfl rfl (AL.no rfl rfl rfl rfl (AL.no rfl rfl rfl rfl (AL.no rfl rfl rfl rfl (AL.no rfl rfl rfl rfl ?_)))))))
      refine AL.no rfl rfl rfl rfl (AL.go (AO.pickT rfl rfl rfl (AL.go (AO.move rfl rfl (AL.no rfl rfl rfl rfl (AL.no rfl rfl rfl rfl (AL.no rfl rfl rfl rfl ?_)))))))
      refine AL.no rfl rfl rfl rfl (AL.no rfl rfl rfl rfl (AL.no rfl rfl rfl rfl (AL.no rfl rfl rfl rfl (AL.go (AO.pickT rfl rfl rfl (AL.go (AO.move rfl rfl ?_)))))))
      refine AL.no rfl rfl rfl rfl (AL.no rfl rfl rfl rfl (AL.no rfl rfl rfl rfl (AL.no rfl rfl rfl rfl (AL.no rfl rfl rfl rfl (AL.no rfl rfl rfl rfl ?_)))))
      refine AL.no rfl rfl rfl rfl (AL.go (AO.pickT rfl rfl rfl (AL.nil (AK.seqN (AC.condT rfl (AC.seq ?_))))))
      refine AC.region (AL.go (AO.assign rfl rfl (AL.nil (AK.seqN (AC.ret (AK.seqR ?_))))))
      first | refine AK.ret Tryd.results17 rfl (by repeat (first | exact Sub.refl _ _ | refine Sub.trans Sub.drop ?_ | refine Sub.trans Sub.dropF ?_)) (hT ?_) | refine AK.ret Tryd.results17 rfl (by repeat (first | exact Sub.refl _ _ | refine Sub.trans Sub.drop ?_ | refine Sub.trans Sub.dropF ?_)) (hF ?_)
      first
      | (intro e; subst e; exact absurd rfl ‹_›)
      | exact fun e => ne_at hkl hkm c60 (by rw [e])
      | exact fun e => ne_at hkl hkm c78 (by rw [e])
      | exact fun e => absurd (congrArg Ty.kind e) ‹_›
      | exact fun e => absurd (congrArg Ty.name e) ‹_›
      | exact fun e => absurd (congrArg Ty.n e) ‹_›
      | exact fun e => c33 (by rw [e])
      | exact fun e => c42 (by rw [e])
      | exact ty_ext c11 c17 c24 (all_of_take hok (by omega) (by omega)) (all_of_take hoq (by omega) (by omega))
    · refine AL.go (AO.pickF rfl rfl rfl (AL.go (AO.move rfl rfl (AL.yes rfl rfl (AO.field rfl rfl ?_)))))
      refine AL.yes rfl rfl (AO.loadB rfl rfl ?_)
      refine AL.yes rfl rfl (AO.field rfl rfl ?_)
      refine AL.yes rfl rfl (AO.loadB rfl rfl ?_)
      refine AL.yes rfl rfl (AO.neq rfl rfl rfl (fun c24 => ?_) (fun c24 => ?_))
      · refine AL.go (AO.pickF rfl rfl rfl (AL.go (AO.move rfl rfl (AL.no rfl rfl rfl rfl (AL.no rfl rfl rfl rfl (AL.no rfl rfl rfl rfl (AL.no rfl rfl rfl rfl ?_)))))))
        refine AL.no rfl rfl rfl rfl (AL.no rfl rfl rfl rfl (AL.no rfl rfl rfl rfl (AL.go (AO.pickT rfl rfl rfl (AL.go (AO.move rfl rfl (AL.no rfl rfl rfl rfl ?_)))))))
        refine AL.no rfl rfl rfl rfl (AL.no rfl rfl rfl rfl (AL.no rfl rfl rfl rfl (AL.no rfl rfl rfl rfl (AL.no rfl rfl rfl rfl (AL.no rfl rfl rfl rfl ?_)))))
        refine AL.go (AO.pickT rfl rfl rfl (AL.nil (AK.seqN (AC.condT rfl (AC.seq (AC.region ?_))))))
        refine AL.go (AO.assign rfl rfl (AL.nil (AK.seqN (AC.ret (AK.seqR ?_)))))
        first | refine AK.ret Tryd.results17 rfl (by repeat (first | exact Sub.refl _ _ | refine Sub.trans Sub.drop ?_ | refine Sub.trans Sub.dropF ?_)) (hT ?_) | refine AK.ret Tryd.results17 rfl (by repeat (first | exact Sub.refl _ _ | refine Sub.trans Sub.drop ?_ | refine Sub.trans Sub.dropF ?_)) (hF ?_)
        first
        | (intro e; subst e; exact absurd rfl ‹_›)
        | exact fun e => ne_at hkl hkm c60 (by rw [e])
        | exact fun e => ne_at hkl hkm c78 (by rw [e])
        | exact fun e => absurd (congrArg Ty.kind e) ‹_›
        | exact fun e => absurd (congrArg Ty.name e) ‹_›
        | exact fun e => absurd (congrArg Ty.n e) ‹_›
        | exact fun e => c33 (by rw [e])
        | exact fun e => c42 (by rw [e])
        | exact ty_ext c11 c17 c24 (all_of_take hok (by omega) (by omega)) (all_of_take hoq (by omega) (by omega))
      · refine AL.go (AO.pickF rfl rfl rfl (AL.go (AO.move rfl rfl (AL.yes rfl rfl (AO.field rfl rfl ?_)))))
        refine AL.yes rfl rfl (AO.loadB rfl rfl ?_)
        refine AL.yes rfl rfl (AO.len rfl rfl (fun hl1_22 => ?_) (hm := m1))
        refine AL.yes rfl rfl (AO.field rfl rfl ?_)
        refine AL.yes rfl rfl (AO.loadB rfl rfl ?_)
        refine AL.yes rfl rfl (AO.len rfl rfl (fun hl1_25 => ?_) (hm := m3))
        refine AL.yes rfl rfl (AO.neq rfl rfl rfl (fun c33 => ?_) (fun c33 => ?_))
        · refine AL.go (AO.pickF rfl rfl rfl (AL.go (AO.move rfl rfl (AL.no rfl rfl rfl rfl (AL.no rfl rfl rfl rfl (AL.no rfl rfl rfl rfl (AL.no rfl rfl rfl rfl ?_)))))))
          refine AL.no rfl rfl rfl rfl (AL.no rfl rfl rfl rfl (AL.no rfl rfl rfl rfl (AL.go (AO.pickT rfl rfl rfl (AL.nil (AK.seqN ?_))))))
          refine AC.condT rfl (AC.seq (AC.region (AL.go (AO.assign rfl rfl (AL.nil (AK.seqN ?_))))))
          refine AC.ret (AK.seqR ?_)
          first | refine AK.ret Tryd.results17 rfl (by repeat (first | exact Sub.refl _ _ | refine Sub.trans Sub.drop ?_ | refine Sub.trans Sub.dropF ?_)) (hT ?_) | refine AK.ret Tryd.results17 rfl (by repeat (first | exact Sub.refl _ _ | refine Sub.trans Sub.drop ?_ | refine Sub.trans Sub.dropF ?_)) (hF ?_)
          first
          | (intro e; subst e; exact absurd rfl ‹_›)
          | exact fun e => ne_at hkl hkm c60 (by rw [e])
          | exact fun e => ne_at hkl hkm c78 (by rw [e])
          | exact fun e => absurd (congrArg Ty.kind e) ‹_›
          | exact fun e => absurd (congrArg Ty.name e) ‹_›
          | exact fun e => absurd (congrArg Ty.n e) ‹_›
          | exact fun e => c33 (by rw [e])
          | exact fun e => c42 (by rw [e])
          | exact ty_ext c11 c17 c24 (all_of_take hok (by omega) (by omega)) (all_of_take hoq (by omega) (by omega))
        · refine AL.go (AO.pickF rfl rfl rfl (AL.go (AO.move rfl rfl (AL.yes rfl rfl (AO.field rfl rfl ?_)))))
          refine AL.yes rfl rfl (AO.loadB rfl rfl ?_)
          refine AL.yes rfl rfl (AO.len rfl rfl (fun hl1_31 => ?_) (hm := m2))
          refine AL.yes rfl rfl (AO.field rfl rfl ?_)
          refine AL.yes rfl rfl (AO.loadB rfl rfl ?_)
          refine AL.yes rfl rfl (AO.len rfl rfl (fun hl1_34 => ?_) (hm := m4))
          refine AL.yes rfl rfl (AO.neq rfl rfl rfl (fun c42 => ?_) (fun c42 => ?_))
          · refine AL.go (AO.pickF rfl rfl rfl (AL.nil (AK.seqN (AC.condT rfl (AC.seq (AC.region ?_))))))
            refine AL.go (AO.assign rfl rfl (AL.nil (AK.seqN (AC.ret (AK.seqR ?_)))))
            first | refine AK.ret Tryd.results17 rfl (by repeat (first | exact Sub.refl _ _ | refine Sub.trans Sub.drop ?_ | refine Sub.trans Sub.dropF ?_)) (hT ?_) | refine AK.ret Tryd.results17 rfl (by repeat (first | exact Sub.refl _ _ | refine Sub.trans Sub.drop ?_ | refine Sub.trans Sub.dropF ?_)) (hF ?_)
            first
            | (intro e; subst e; exact absurd rfl ‹_›)
            | exact fun e => ne_at hkl hkm c60 (by rw [e])
            | exact fun e => ne_at hkl hkm c78 (by rw [e])
            | exact fun e => absurd (congrArg Ty.kind e) ‹_›
            | exact fun e => absurd (congrArg Ty.name e) ‹_›
            | exact fun e => absurd (congrArg Ty.n e) ‹_›
            | exact fun e => c33 (by rw [e])
            | exact fun e => c42 (by rw [e])
            | exact ty_ext c11 c17 c24 (all_of_take hok (by omega) (by omega)) (all_of_take hoq (by omega) (by omega))
          · refine AL.go (AO.pickF rfl rfl rfl (AL.nil (AK.seqN (AC.condF rfl (AC.skip (AK.seqN ?_))))))
            refine AC.seq (AC.seq (AC.region (AL.go (AO.field rfl rfl ?_))))
            refine AL.go (AO.loadB rfl rfl ?_)
            refine AL.go (AO.len rfl rfl (fun hl3_2 => ?_) (hm := m1))
            refine AL.go (AO.move rfl rfl (AL.nil (AK.seqN (AC.block ?_))))
            refine AC.loop (fun k => k ≤ t.words.length ∧ t.words.take k = u.words.take k) (fun k => [(2, .pointer (some ⟨b2, 0, none⟩)), (3, .pointer (some ⟨b3, 0, none⟩)), (46, .int .i64 t.words.length), (47, .int .i64 (k : Int))]) (fun _ => _) (fun _ => F) (fun k => t.words.length - k) 0 ⟨by omega, by simp⟩ (by repeat (first | exact SubR.nil | refine SubR.cons rfl ?_)) (Sub.refl _ _) ?_
            rintro k ⟨hk, hok⟩
            refine AC.seq (AC.region ?_)
            refine AL.go (AO.lss rfl rfl rfl (fun c48 => ?_) (fun c48 => ?_))
            · refine AL.nil (AK.seqN (AC.seq (AC.condT rfl (AC.skip (AK.seqN ?_)))))
              refine AC.seq (AC.block (AC.seq (AC.region (AL.go (AO.move rfl rfl (AL.go (AO.assign rfl rfl ?_)))))))
              refine AL.nil (AK.seqN (AC.seq ?_))
              refine AC.draw (fun _ => false) [(b2, _, _), (b3, _, _)] (by repeat (first | exact BxIn.nil | refine BxIn.cons (by repeat (first | exact has0 | assumption | apply hasS)) ?_)) rfl (fun hx hX => ?_)
              have hkl : k < t.words.length := by omega
              have hkm : k < u.words.length := by omega
              have hkk1 := (len_of_fact (hX _ m1)).1
              have hkk3 := (len_of_fact (hX _ m3)).1
              obtain ⟨p1, o1, rfl, at1⟩ := row_of_fact (hX _ m1) hkl
              obtain ⟨p2, o2, rfl, at2⟩ := row_of_fact (hX _ m3) hkm
              obtain ⟨v1, hv1, hc1⟩ := at1 0 _ rfl
              obtain ⟨v2, hv2, hc2⟩ := at2 0 _ rfl
              cases hc1
              cases hc2
              refine AH.takeW (i := 0) rfl (Y.field rfl) (by kernel_rfl) rfl rfl ?_
              refine AH.takeS (i := 1) rfl (Y.loadB rfl (by repeat (first | exact List.Mem.head _ | refine List.Mem.tail _ ?_)) (by rfl)) (by kernel_rfl) (by kernel_rfl) rfl rfl rfl ?_
              refine AH.takeW (i := 2) rfl (Y.move rfl) (by kernel_rfl) rfl rfl ?_
              refine AH.takeW (i := 3) rfl (Y.indexAddr rfl rfl rfl (by omega)) (by kernel_rfl) rfl rfl ?_
              refine AH.takeS (i := 4) rfl (Y.loadF rfl (by assumption)) (by kernel_rfl) (by kernel_rfl) rfl rfl rfl ?_
              refine AH.takeW (i := 5) rfl (Y.field rfl) (by kernel_rfl) rfl rfl ?_
              refine AH.takeS (i := 6) rfl (Y.loadB rfl (by repeat (first | exact List.Mem.head _ | refine List.Mem.tail _ ?_)) (by rfl)) (by kernel_rfl) (by kernel_rfl) rfl rfl rfl ?_
              refine AH.takeW (i := 7) rfl (Y.move rfl) (by kernel_rfl) rfl rfl ?_
              refine AH.takeW (i := 8) rfl (Y.indexAddr rfl rfl rfl (by omega)) (by kernel_rfl) rfl rfl ?_
              refine AH.takeS (i := 9) rfl (Y.loadF rfl (by assumption)) (by kernel_rfl) (by kernel_rfl) rfl rfl rfl ?_
              refine AH.takeB (i := 10) rfl (Y.neqS rfl rfl) (by kernel_rfl) rfl rfl (fun c60 => ?_) (fun c60 => ?_)
              · replace c60 := ne_of_nbeq c60
                refine AH.done (by kernel_rfl) ?_
                refine AK.seqN (AC.condT rfl (AC.seq (AC.region (AL.go (AO.assign rfl rfl (AL.nil ?_))))))
                refine AK.seqN (AC.ret (AK.blkR (AK.seqR (AK.seqR (AK.blkR ?_)))))
                refine AK.seqR ?_
                first | refine AK.ret Tryd.results17 rfl (by repeat (first | exact Sub.refl _ _ | refine Sub.trans Sub.drop ?_ | refine Sub.trans Sub.dropF ?_)) (hT ?_) | refine AK.ret Tryd.results17 rfl (by repeat (first | exact Sub.refl _ _ | refine Sub.trans Sub.drop ?_ | refine Sub.trans Sub.dropF ?_)) (hF ?_)
                first
                | (intro e; subst e; exact absurd rfl ‹_›)
                | exact fun e => ne_at hkl hkm c60 (by rw [e])
                | exact fun e => ne_at hkl hkm c78 (by rw [e])
                | exact fun e => absurd (congrArg Ty.kind e) ‹_›
                | exact fun e => absurd (congrArg Ty.name e) ‹_›
                | exact fun e => absurd (congrArg Ty.n e) ‹_›
                | exact fun e => c33 (by rw [e])
                | exact fun e => c42 (by rw [e])
                | exact ty_ext c11 c17 c24 (all_of_take hok (by omega) (by omega)) (all_of_take hoq (by omega) (by omega))
              · replace c60 := eq_of_nbeqF c60
                refine AH.done (by kernel_rfl) ?_
                refine AK.seqN (AC.condF rfl (AC.skip (AK.blkN (AK.seqN (AC.region ?_)))))
                refine AL.go (AO.add rfl rfl rfl (by omega) (by omega) (AL.go (AO.move rfl rfl (AL.nil ?_))))
                refine AK.next (k + 1) ⟨by omega, take_step hok hkl hkm c60⟩ (by omega) (by repeat (first | exact SubR.nil | refine SubR.cons rfl ?_)) (by repeat (first | exact Sub.refl _ _ | refine Sub.trans Sub.dropF ?_))
            · refine AL.nil (AK.seqN (AC.seq (AC.condF rfl (AC.exit (AK.seqX ?_)))))
              refine AK.seqX (AK.blkX (AK.seqN (AC.seq (AC.seq (AC.region ?_)))))
              refine AL.go (AO.field rfl rfl ?_)
              refine AL.go (AO.loadB rfl rfl ?_)
              refine AL.go (AO.len rfl rfl (fun hl9_2 => ?_) (hm := m2))
              refine AL.go (AO.move rfl rfl (AL.nil (AK.seqN (AC.block ?_))))
              refine AC.loop (fun k => k ≤ t.kids.length ∧ t.kids.take k = u.kids.take k) (fun k => [(2, .pointer (some ⟨b2, 0, none⟩)), (3, .pointer (some ⟨b3, 0, none⟩)), (64, .int .i64 t.kids.length), (65, .int .i64 (k : Int))]) (fun _ => _) (fun _ => F) (fun k => t.kids.length - k) 0 ⟨by omega, by simp⟩ (by repeat (first | exact SubR.nil | refine SubR.cons rfl ?_)) (Sub.refl _ _) ?_
              rintro q ⟨hq, hoq⟩
              refine AC.seq (AC.region ?_)
              refine AL.go (AO.lss rfl rfl rfl (fun c66 => ?_) (fun c66 => ?_))
              · refine AL.nil (AK.seqN (AC.seq (AC.condT rfl (AC.skip (AK.seqN ?_)))))
                refine AC.seq (AC.block (AC.seq (AC.region (AL.go (AO.move rfl rfl (AL.go (AO.assign rfl rfl ?_)))))))
                refine AL.nil (AK.seqN (AC.seq ?_))
                refine AC.draw (fun _ => false) [(b2, _, _), (b3, _, _)] (by repeat (first | exact BxIn.nil | refine BxIn.cons (by repeat (first | exact has0 | assumption | apply hasS)) ?_)) rfl (fun hx hX => ?_)
                have hkl : q < t.kids.length := by omega
                have hkm : q < u.kids.length := by omega
                have hkk1 := (len_of_fact (hX _ m2)).1
                have hkk3 := (len_of_fact (hX _ m4)).1
                obtain ⟨p1, o1, rfl, at1⟩ := row_of_fact (hX _ m2) hkl
                obtain ⟨p2, o2, rfl, at2⟩ := row_of_fact (hX _ m4) hkm
                obtain ⟨v1, hv1, hc1⟩ := at1 0 _ rfl
                obtain ⟨v2, hv2, hc2⟩ := at2 0 _ rfl
                cases hc1
                cases hc2
                refine AH.takeW (i := 0) rfl (Y.field rfl) (by kernel_rfl) rfl rfl ?_
                refine AH.takeS (i := 1) rfl (Y.loadB rfl (by repeat (first | exact List.Mem.head _ | refine List.Mem.tail _ ?_)) (by rfl)) (by kernel_rfl) (by kernel_rfl) rfl rfl rfl ?_
                refine AH.takeW (i := 2) rfl (Y.move rfl) (by kernel_rfl) rfl rfl ?_
                refine AH.takeW (i := 3) rfl (Y.indexAddr rfl rfl rfl (by omega)) (by kernel_rfl) rfl rfl ?_
                refine AH.takeS (i := 4) rfl (Y.loadF rfl (by assumption)) (by kernel_rfl) (by kernel_rfl) rfl rfl rfl ?_
                refine AH.takeW (i := 5) rfl (Y.field rfl) (by kernel_rfl) rfl rfl ?_
                refine AH.takeS (i := 6) rfl (Y.loadB rfl (by repeat (first | exact List.Mem.head _ | refine List.Mem.tail _ ?_)) (by rfl)) (by kernel_rfl) (by kernel_rfl) rfl rfl rfl ?_
                refine AH.takeW (i := 7) rfl (Y.move rfl) (by kernel_rfl) rfl rfl ?_
                refine AH.takeW (i := 8) rfl (Y.indexAddr rfl rfl rfl (by omega)) (by kernel_rfl) rfl rfl ?_
                refine AH.takeS (i := 9) rfl (Y.loadF rfl (by assumption)) (by kernel_rfl) (by kernel_rfl) rfl rfl rfl ?_
                refine AH.takeB (i := 10) rfl (Y.neq rfl rfl) (by kernel_rfl) rfl rfl (fun c78 => ?_) (fun c78 => ?_)
                · replace c78 := ne_of_bne c78
                  refine AH.done (by kernel_rfl) ?_
                  refine AK.seqN (AC.condT rfl (AC.seq (AC.region (AL.go (AO.assign rfl rfl (AL.nil ?_))))))
                  refine AK.seqN (AC.ret (AK.blkR (AK.seqR (AK.seqR (AK.blkR ?_)))))
                  refine AK.seqR ?_
                  first | refine AK.ret Tryd.results17 rfl (by repeat (first | exact Sub.refl _ _ | refine Sub.trans Sub.drop ?_ | refine Sub.trans Sub.dropF ?_)) (hT ?_) | refine AK.ret Tryd.results17 rfl (by repeat (first | exact Sub.refl _ _ | refine Sub.trans Sub.drop ?_ | refine Sub.trans Sub.dropF ?_)) (hF ?_)
                  first
                  | (intro e; subst e; exact absurd rfl ‹_›)
                  | exact fun e => ne_at hkl hkm c60 (by rw [e])
                  | exact fun e => ne_at hkl hkm c78 (by rw [e])
                  | exact fun e => absurd (congrArg Ty.kind e) ‹_›
                  | exact fun e => absurd (congrArg Ty.name e) ‹_›
                  | exact fun e => absurd (congrArg Ty.n e) ‹_›
                  | exact fun e => c33 (by rw [e])
                  | exact fun e => c42 (by rw [e])
                  | exact ty_ext c11 c17 c24 (all_of_take hok (by omega) (by omega)) (all_of_take hoq (by omega) (by omega))
                · replace c78 := eq_of_bneF c78
                  refine AH.done (by kernel_rfl) ?_
                  refine AK.seqN (AC.condF rfl (AC.skip (AK.blkN (AK.seqN (AC.region ?_)))))
                  refine AL.go (AO.add rfl rfl rfl (by omega) (by omega) (AL.go (AO.move rfl rfl (AL.nil ?_))))
                  refine AK.next (q + 1) ⟨by omega, take_step hoq hkl hkm c78⟩ (by omega) (by repeat (first | exact SubR.nil | refine SubR.cons rfl ?_)) (by repeat (first | exact Sub.refl _ _ | refine Sub.trans Sub.dropF ?_))
              · refine AL.nil (AK.seqN (AC.seq (AC.condF rfl (AC.exit (AK.seqX ?_)))))
                refine AK.seqX (AK.blkX (AK.seqN (AC.seq (AC.region (AL.go (AO.assign rfl rfl ?_))))))
                refine AL.nil (AK.seqN (AC.ret ?_))
                first | refine AK.ret Tryd.results17 rfl (by repeat (first | exact Sub.refl _ _ | refine Sub.trans Sub.drop ?_ | refine Sub.trans Sub.dropF ?_)) (hT ?_) | refine AK.ret Tryd.results17 rfl (by repeat (first | exact Sub.refl _ _ | refine Sub.trans Sub.drop ?_ | refine Sub.trans Sub.dropF ?_)) (hF ?_)
                first
                | (intro e; subst e; exact absurd rfl ‹_›)
                | exact fun e => ne_at hkl hkm c60 (by rw [e])
                | exact fun e => ne_at hkl hkm c78 (by rw [e])
                | exact fun e => absurd (congrArg Ty.kind e) ‹_›
                | exact fun e => absurd (congrArg Ty.name e) ‹_›
                | exact fun e => absurd (congrArg Ty.n e) ‹_›
                | exact fun e => c33 (by rw [e])
                | exact fun e => c42 (by rw [e])
                | exact ty_ext c11 c17 c24 (all_of_take hok (by omega) (by omega)) (all_of_take hoq (by omega) (by omega))

/-- The cells of a type that stays. -/
theorem ty_cells {hx : H} {b o : Nat} {t : Ty} (hat : AtR hx b o (eTy t)) : ∃ a1 k1 c1 a2 k2 c2, (∀ (j : Nat) (v : Value), [Value.int .i64 t.kind, S t.name, .int .i64 t.n, .slice a1 k1 c1, .slice a2 k2 c2][j]? = some v → hx b (o + j) = some v) ∧ (fW t a1 k1 c1).holds hx ∧ (fK t a2 k2 c2).holds hx := by
  obtain ⟨vs, fs, _, h1, h2, a1, k1, c1, a2, k2, c2, rfl, rfl⟩ := absorb_of (eTy t) o hat (fun vs fs => ∃ a1 k1 c1 a2 k2 c2, vs = [Value.int .i64 t.kind, S t.name, .int .i64 t.n, .slice a1 k1 c1, .slice a2 k2 c2] ∧ fs = [fW t a1 k1 c1, fK t a2 k2 c2]) (by
    intro a1 k1 c1 a2 k2 c2
    exact ⟨a1, k1, c1, a2, k2, c2, rfl, rfl⟩)
  exact ⟨a1, k1, c1, a2, k2, c2, h1, h2 _ (by simp), h2 _ (by simp)⟩

abbrev fL (l : List Ty) (a : Option Addr) (k c : Nat) : Fact := .slc (.slice a k c) 5 (l.map eTy)

theorem ref_Arenas_c (l m : List Ty) {a1 a2 : Option Addr} {k1 c1 k2 c2 : Nat} (hT : l = m → R (.bool true) L F) (hF : l ≠ m → R (.bool false) L F)
    (m1 : fL l a1 k1 c1 ∈ F) (m2 : fL m a2 k2 c2 ∈ F) : ACalls Tryd.prog W0 9 #[.slice a1 k1 c1, .slice a2 k2 c2] L F R := by
  refine ACalls.body Tryd.func9 rfl Tryd.ntmps9 rfl ?_
  refine AC.seq (AC.region (AL.go (AO.assign rfl rfl (AL.nil (AK.seqN (AC.seq ?_))))))
  refine AC.seq (AC.region (AL.go (AO.move rfl rfl ?_)))
  refine AL.go (AO.len rfl rfl (fun hl1 => ?_) (hm := m1))
  refine AL.go (AO.move rfl rfl ?_)
  refine AL.go (AO.len rfl rfl (fun hl2 => ?_) (hm := m2))
  refine AL.go (AO.neq rfl rfl rfl (fun c10 => ?_) (fun c10 => ?_))
  · refine AL.nil (AK.seqN (AC.condT rfl (AC.seq (AC.region (AL.go (AO.assign rfl rfl ?_))))))
    refine AL.nil (AK.seqN (AC.ret (AK.seqR ?_)))
    first | refine AK.ret Tryd.results9 rfl (by repeat (first | exact Sub.refl _ _ | refine Sub.trans Sub.drop ?_ | refine Sub.trans Sub.dropF ?_)) (hT ?_) | refine AK.ret Tryd.results9 rfl (by repeat (first | exact Sub.refl _ _ | refine Sub.trans Sub.drop ?_ | refine Sub.trans Sub.dropF ?_)) (hF ?_)
    first
    | exact fun e => ne_at hkl hkm c24 (by rw [e])
    | exact fun e => c10 (by rw [e])
    | exact all_of_take hok (by omega) (by omega)
  · refine AL.nil (AK.seqN (AC.condF rfl (AC.skip (AK.seqN (AC.seq ?_)))))
    refine AC.seq (AC.region (AL.go (AO.move rfl rfl ?_)))
    refine AL.go (AO.len rfl rfl (fun hl3 => ?_) (hm := m1))
    refine AL.go (AO.move rfl rfl (AL.nil (AK.seqN (AC.block ?_))))
    refine AC.loop (fun k => k ≤ l.length ∧ l.take k = m.take k) (fun k => [(0, .slice a1 k1 c1), (1, .slice a2 k2 c2), (12, .int .i64 l.length), (13, .int .i64 (k : Int))]) (fun _ => L) (fun _ => F) (fun k => l.length - k) 0 ⟨by omega, by simp⟩ (by repeat (first | exact SubR.nil | refine SubR.cons rfl ?_)) (Sub.refl _ _) ?_
    rintro k ⟨hk, hok⟩
    refine AC.seq (AC.region ?_)
    refine AL.go (AO.lss rfl rfl rfl (fun c14 => ?_) (fun c14 => ?_))
    · refine AL.nil (AK.seqN (AC.seq (AC.condT rfl (AC.skip (AK.seqN ?_)))))
      refine AC.seq (AC.block (AC.seq (AC.region (AL.go (AO.move rfl rfl (AL.go (AO.assign rfl rfl ?_)))))))
      refine AL.nil (AK.seqN (AC.seq ?_))
      refine AC.draw (fun _ => false) [] (by repeat (first | exact BxIn.nil | refine BxIn.cons (by repeat (first | exact has0 | assumption | apply hasS)) ?_)) rfl (fun hx hX => ?_)
      have hkl : k < l.length := by omega
      have hkm : k < m.length := by omega
      have hkk1 := (len_of_fact (hX _ m1)).1
      have hkk3 := (len_of_fact (hX _ m2)).1
      obtain ⟨p1, o1, rfl, at1⟩ := row_of_fact (hX _ m1) hkl
      obtain ⟨p2, o2, rfl, at2⟩ := row_of_fact (hX _ m2) hkm
      obtain ⟨w1, x1, y1, w2, x2, y2, hv1, hw1, hw2⟩ := ty_cells at1
      obtain ⟨w3, x3, y3, w4, x4, y4, hv2, hw3, hw4⟩ := ty_cells at2
      refine AH.fact hw1 (by repeat (first | exact mem0 | assumption | refine memS ?_)) (AH.fact hw2 (by repeat (first | exact mem0 | assumption | refine memS ?_)) (AH.fact hw3 (by repeat (first | exact mem0 | assumption | refine memS ?_)) (AH.fact hw4 (by repeat (first | exact mem0 | assumption | refine memS ?_)) ?_)))
      refine AH.takeW (i := 0) rfl (Y.move rfl) (by kernel_rfl) rfl rfl ?_
      refine AH.takeW (i := 1) rfl (Y.move rfl) (by kernel_rfl) rfl rfl ?_
      refine AH.takeW (i := 2) rfl (Y.indexAddr rfl rfl rfl (by omega)) (by kernel_rfl) rfl rfl ?_
      refine AH.takeS (i := 3) rfl (Y.loadFA rfl rfl hv1) (by kernel_rfl) (by kernel_rfl) rfl rfl rfl ?_
      refine AH.takeW (i := 4) rfl (Y.move rfl) (by kernel_rfl) rfl rfl ?_
      refine AH.takeW (i := 5) rfl (Y.move rfl) (by kernel_rfl) rfl rfl ?_
      refine AH.takeW (i := 6) rfl (Y.indexAddr rfl rfl rfl (by omega)) (by kernel_rfl) rfl rfl ?_
      refine AH.takeS (i := 7) rfl (Y.loadFA rfl rfl hv2) (by kernel_rfl) (by kernel_rfl) rfl rfl rfl ?_
      refine AH.one (i := 8) (by kernel_rfl) rfl rfl (fun _ => ?_)
      refine AO.call rfl rfl (ref_Like_c l[k] m[k] (fun c24 => ?_) (fun c24 => ?_) (by repeat (first | exact mem0 | assumption | refine memS ?_)) (by repeat (first | exact mem0 | assumption | refine memS ?_)) (by repeat (first | exact mem0 | assumption | refine memS ?_)) (by repeat (first | exact mem0 | assumption | refine memS ?_)))
      all_goals refine AT.held (by repeat (first | exact BxIn.nil | refine BxIn.cons (by repeat (first | exact has0 | assumption | apply hasS)) ?_)) (by repeat (first | exact mem0 | refine memS ?_)) ?_
      · refine AH.takeW (i := 9) rfl (Y.not rfl) (by kernel_rfl) rfl rfl ?_
        refine AH.done (by kernel_rfl) ?_
        refine AK.seqN (AC.condF rfl (AC.skip (AK.blkN (AK.seqN (AC.region ?_)))))
        refine AL.go (AO.add rfl rfl rfl (by omega) (by omega) (AL.go (AO.move rfl rfl (AL.nil ?_))))
        refine AK.next (k + 1) ⟨by omega, take_step hok hkl hkm c24⟩ (by omega) (by repeat (first | exact SubR.nil | refine SubR.cons rfl ?_)) (by repeat (first | exact Sub.refl _ _ | refine Sub.trans Sub.dropF ?_))
      · refine AH.takeW (i := 9) rfl (Y.not rfl) (by kernel_rfl) rfl rfl ?_
        refine AH.done (by kernel_rfl) ?_
        refine AK.seqN (AC.condT rfl (AC.seq (AC.region (AL.go (AO.assign rfl rfl (AL.nil ?_))))))
        refine AK.seqN (AC.ret (AK.blkR (AK.seqR (AK.seqR (AK.blkR ?_)))))
        refine AK.seqR ?_
        first | refine AK.ret Tryd.results9 rfl (by repeat (first | exact Sub.refl _ _ | refine Sub.trans Sub.drop ?_ | refine Sub.trans Sub.dropF ?_)) (hT ?_) | refine AK.ret Tryd.results9 rfl (by repeat (first | exact Sub.refl _ _ | refine Sub.trans Sub.drop ?_ | refine Sub.trans Sub.dropF ?_)) (hF ?_)
        first
        | exact fun e => ne_at hkl hkm c24 (by rw [e])
        | exact fun e => c10 (by rw [e])
        | exact all_of_take hok (by omega) (by omega)
    · refine AL.nil (AK.seqN (AC.seq (AC.condF rfl (AC.exit (AK.seqX ?_)))))
      refine AK.seqX (AK.blkX (AK.seqN (AC.seq (AC.region (AL.go (AO.assign rfl rfl ?_))))))
      refine AL.nil (AK.seqN (AC.ret ?_))
      first | refine AK.ret Tryd.results9 rfl (by repeat (first | exact Sub.refl _ _ | refine Sub.trans Sub.drop ?_ | refine Sub.trans Sub.dropF ?_)) (hT ?_) | refine AK.ret Tryd.results9 rfl (by repeat (first | exact Sub.refl _ _ | refine Sub.trans Sub.drop ?_ | refine Sub.trans Sub.dropF ?_)) (hF ?_)
      first
      | exact fun e => ne_at hkl hkm c24 (by rw [e])
      | exact fun e => c10 (by rw [e])
      | exact all_of_take hok (by omega) (by omega)
end
end Go.Sy
