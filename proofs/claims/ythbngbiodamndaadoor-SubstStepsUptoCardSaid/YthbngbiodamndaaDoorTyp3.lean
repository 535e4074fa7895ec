/- What may be a type, as the program asks it: the walks. -/
import Derived.Test.YthbngbiodamndaaDoorTyp2
namespace Go.Sy
open Go Go.Proofs Go.RowKit

theorem trimp_eq (s : List UInt8) : Lib.trimPrefix s [43] = fieldN s := by
  unfold Lib.trimPrefix fieldN
  cases s with
  | nil => rfl
  | cons x r =>
    by_cases h : x = 43
    · subst h; simp [Lib.hasPrefix]
    · have : Lib.hasPrefix (x :: r) [43] = false := by simp [Lib.hasPrefix, List.isPrefixOf, Ne.symm h]
      rw [this]
      simp
      split
      · rename_i e; exact absurd (List.cons.inj e).1 h
      · rfl
/-- What the names seen so far are. -/
def SeenIs (ws : List (List UInt8)) (q : Nat) (m : List UInt8 → Option Bool) : Prop := ∀ x, m x = some true ↔ x ≠ [95] ∧ ∃ (j : Nat) (hj : j < ws.length), j < q ∧ fieldN ws[j] = x
theorem SeenIs.zero (ws : List (List UInt8)) : SeenIs ws 0 (fun _ => none) := fun x => ⟨fun h => by simp at h, fun ⟨_, j, _, h, _⟩ => absurd h (by omega)⟩
theorem SeenIs.step {ws : List (List UInt8)} {q : Nat} {m : List UInt8 → Option Bool} (h : SeenIs ws q m) (hq : q < ws.length) {b : Bool} (hb : b = true ↔ fieldN ws[q] ≠ [95]) : SeenIs ws (q + 1) (upd m (fieldN ws[q]) b) := by
  intro x
  by_cases hx : x = fieldN ws[q]
  · subst hx
    rw [upd_self, Option.some.injEq, hb]
    exact ⟨fun h1 => ⟨h1, q, hq, by omega, rfl⟩, fun h1 => h1.1⟩
  · rw [upd_ne _ hx, h x]
    constructor
    · rintro ⟨h1, j, hj, h2, h3⟩; exact ⟨h1, j, hj, by omega, h3⟩
    · rintro ⟨h1, j, hj, h2, h3⟩
      refine ⟨h1, j, hj, ?_, h3⟩
      rcases Nat.lt_succ_iff_lt_or_eq.1 h2 with k | rfl
      · exact k
      · exact absurd h3.symm hx
theorem field_step {ws : List (List UInt8)} {q : Nat} {m : List UInt8 → Option Bool} (hs : SeenIs ws q m) (hok : ∀ i (hi : i < ws.length), i < q → fieldAt ws i hi) (hq : q < ws.length) (h1 : isName (fieldN ws[q]) = true) (h2 : m (fieldN ws[q]) ≠ some true) : ∀ i (hi : i < ws.length), i < q + 1 → fieldAt ws i hi := by
  intro i hi hiq
  rcases Nat.lt_succ_iff_lt_or_eq.1 hiq with k | rfl
  · exact hok i hi k
  · refine ⟨h1, fun j hj e => ?_⟩
    refine Classical.byContradiction (fun hne => h2 ((hs _).2 ⟨hne, j, by omega, hj, e⟩))
theorem field_seen {ws : List (List UInt8)} {q : Nat} {m : List UInt8 → Option Bool} (hs : SeenIs ws q m) (hq : q < ws.length) (h2 : m (fieldN ws[q]) = some true) : ¬ fieldsP ws := by
  intro hf
  obtain ⟨hne, j, hj, hjq, e⟩ := (hs _).1 h2
  exact hne ((hf q hq).2 j hjq e)

attribute [local irreducible] AC AT AO AK AH ACalls Sub Res.cells Res.obj Res.nix Res.own Res.map Exit.then Exit.inBlock bodyPost Code.wp Next Post Kont
section
variable {W0 : World} {L : List Res} {F : List Fact} {R : Value → List Res → List Fact → Prop}
set_option maxRecDepth 100000
set_option maxHeartbeats 4000000
theorem trimp_c (s : List UInt8) (h : R (S (fieldN s)) L F) : ACalls Tryd.prog W0 63 #[S s, S [43]] L F R := by
  refine ACalls.lib0 (fun w _ => ?_) h
  have := Tryd.strings_TrimPrefix ⟨s.toArray⟩ ⟨#[43]⟩ w
  have e : Lib.trimPrefix (⟨s.toArray⟩ : ByteArray).data.toList (⟨#[43]⟩ : ByteArray).data.toList = fieldN s := trimp_eq s
  rw [e] at this
  exact this
theorem pmark_c (s : List UInt8) (hT : markP s → R (.bool true) L F) (hF : ¬ markP s → R (.bool false) L F) : ACalls Tryd.prog W0 65 #[S s] L F R := by
  refine ACalls.body Tryd.func65 rfl Tryd.ntmps65 rfl ?_
  refine AC.seq (AC.region (AL.go (AO.assign rfl rfl (AL.nil (AK.seqN (AC.seq ?_))))))
  refine AC.region (AL.go (AO.move rfl rfl ?_))
  refine AL.go (AO.eqlS rfl rfl rfl (fun c4 => ?_) (fun c4 => ?_))
  · refine AL.go (AO.move rfl rfl (AL.no rfl rfl rfl rfl (AL.no rfl rfl rfl rfl (AL.go (AO.pickT rfl rfl rfl (AL.go (AO.assign rfl rfl (AL.nil ?_))))))))
    refine AK.seqN (AC.ret ?_)
    first | exact AK.ret Tryd.results65 rfl (Sub.refl _ _) (hT (Or.inl c4)) | exact AK.ret Tryd.results65 rfl (Sub.refl _ _) (hT (Or.inr c7)) | exact AK.ret Tryd.results65 rfl (Sub.refl _ _) (hF (fun e => e.elim c4 c7))
  · refine AL.go (AO.move rfl rfl (AL.yes rfl rfl (AO.move rfl rfl ?_)))
    refine AL.yes rfl rfl (AO.eqlS rfl rfl rfl (fun c7 => ?_) (fun c7 => ?_))
    · refine AL.go (AO.pickF rfl rfl rfl (AL.go (AO.assign rfl rfl (AL.nil (AK.seqN (AC.ret ?_))))))
      first | exact AK.ret Tryd.results65 rfl (Sub.refl _ _) (hT (Or.inl c4)) | exact AK.ret Tryd.results65 rfl (Sub.refl _ _) (hT (Or.inr c7)) | exact AK.ret Tryd.results65 rfl (Sub.refl _ _) (hF (fun e => e.elim c4 c7))
    · refine AL.go (AO.pickF rfl rfl rfl (AL.go (AO.assign rfl rfl (AL.nil (AK.seqN (AC.ret ?_))))))
      first | exact AK.ret Tryd.results65 rfl (Sub.refl _ _) (hT (Or.inl c4)) | exact AK.ret Tryd.results65 rfl (Sub.refl _ _) (hT (Or.inr c7)) | exact AK.ret Tryd.results65 rfl (Sub.refl _ _) (hF (fun e => e.elim c4 c7))
theorem untyped_c (i : Int) (hT : 14 ≤ i ∧ i ≤ 19 → R (.bool true) L F) (hF : ¬(14 ≤ i ∧ i ≤ 19) → R (.bool false) L F) : ACalls Tryd.prog W0 66 #[.int .i64 i] L F R := by
  refine ACalls.body Tryd.func66 rfl Tryd.ntmps66 rfl ?_
  refine AC.seq (AC.region (AL.go (AO.assign rfl rfl (AL.nil (AK.seqN (AC.seq ?_))))))
  refine AC.region (AL.go (AO.move rfl rfl ?_))
  refine AL.go (AO.geq rfl rfl rfl (fun c4 => ?_) (fun c4 => ?_))
  · refine AL.go (AO.move rfl rfl (AL.yes rfl rfl (AO.move rfl rfl ?_)))
    refine AL.yes rfl rfl (AO.leq rfl rfl rfl (fun c7 => ?_) (fun c7 => ?_))
    · refine AL.go (AO.pickT rfl rfl rfl (AL.go (AO.assign rfl rfl (AL.nil (AK.seqN (AC.ret ?_))))))
      first | refine AK.ret Tryd.results66 rfl (Sub.refl _ _) (hT ?_) | refine AK.ret Tryd.results66 rfl (Sub.refl _ _) (hF ?_)
      omega
    · refine AL.go (AO.pickT rfl rfl rfl (AL.go (AO.assign rfl rfl (AL.nil (AK.seqN (AC.ret ?_))))))
      first | refine AK.ret Tryd.results66 rfl (Sub.refl _ _) (hT ?_) | refine AK.ret Tryd.results66 rfl (Sub.refl _ _) (hF ?_)
      omega
  · refine AL.go (AO.move rfl rfl (AL.no rfl rfl rfl rfl (AL.no rfl rfl rfl rfl (AL.go (AO.pickF rfl rfl rfl (AL.go (AO.assign rfl rfl (AL.nil ?_))))))))
    refine AK.seqN (AC.ret ?_)
    first | refine AK.ret Tryd.results66 rfl (Sub.refl _ _) (hT ?_) | refine AK.ret Tryd.results66 rfl (Sub.refl _ _) (hF ?_)
    omega
theorem bare_c (t : Ty) {a1 a2 : Option Addr} {k1 c1 k2 c2 : Nat} (m1 : fW t a1 k1 c1 ∈ F) (hT : t.name = [] ∧ t.words = [] → R (.bool true) L F) (hF : ¬(t.name = [] ∧ t.words = []) → R (.bool false) L F) :
    ACalls Tryd.prog W0 44 #[vTy t a1 k1 c1 a2 k2 c2] L F R := by
  refine ACalls.body Tryd.func44 rfl Tryd.ntmps44 rfl ?_
  refine AC.seq (AC.region (AL.go (AO.box rfl rfl (fun b1 => ?_))))
  refine AL.go (AO.assign rfl rfl (AL.nil (AK.seqN (AC.seq (AC.region (AL.go (AO.field rfl rfl ?_)))))))
  refine AL.go (AO.loadB rfl rfl ?_)
  refine AL.go (AO.eqlS rfl rfl rfl (fun c5 => ?_) (fun c5 => ?_))
  · refine AL.go (AO.move rfl rfl (AL.yes rfl rfl (AO.field rfl rfl ?_)))
    refine AL.yes rfl rfl (AO.loadB rfl rfl ?_)
    refine AL.yes rfl rfl (AO.len rfl rfl (fun hl9 => ?_) (hm := by repeat (first | exact mem0 | assumption | refine memS ?_)))
    refine AL.yes rfl rfl (AO.eql rfl rfl rfl (fun c10 => ?_) (fun c10 => ?_))
    · refine AL.go (AO.pickT rfl rfl rfl (AL.go (AO.assign rfl rfl (AL.nil (AK.seqN (AC.ret ?_))))))
      first | refine AK.ret (L' := L) (F' := F) Tryd.results44 rfl (by repeat (first | exact Sub.refl _ _ | refine Sub.trans Sub.drop ?_ | refine Sub.trans Sub.dropF ?_)) (hT ?_) | refine AK.ret (L' := L) (F' := F) Tryd.results44 rfl (by repeat (first | exact Sub.refl _ _ | refine Sub.trans Sub.drop ?_ | refine Sub.trans Sub.dropF ?_)) (hF ?_)
      first
      | exact ⟨c5, List.eq_nil_of_length_eq_zero (Int.ofNat.inj c10)⟩
      | exact fun e => c10 (by rw [e.2]; rfl)
      | exact fun e => c5 e.1
    · refine AL.go (AO.pickT rfl rfl rfl (AL.go (AO.assign rfl rfl (AL.nil (AK.seqN (AC.ret ?_))))))
      first | refine AK.ret (L' := L) (F' := F) Tryd.results44 rfl (by repeat (first | exact Sub.refl _ _ | refine Sub.trans Sub.drop ?_ | refine Sub.trans Sub.dropF ?_)) (hT ?_) | refine AK.ret (L' := L) (F' := F) Tryd.results44 rfl (by repeat (first | exact Sub.refl _ _ | refine Sub.trans Sub.drop ?_ | refine Sub.trans Sub.dropF ?_)) (hF ?_)
      first
      | exact ⟨c5, List.eq_nil_of_length_eq_zero (Int.ofNat.inj c10)⟩
      | exact fun e => c10 (by rw [e.2]; rfl)
      | exact fun e => c5 e.1
  · refine AL.go (AO.move rfl rfl (AL.no rfl rfl rfl rfl (AL.no rfl rfl rfl rfl (AL.no rfl rfl rfl rfl (AL.no rfl rfl rfl rfl (AL.go (AO.pickF rfl rfl rfl ?_)))))))
    refine AL.go (AO.assign rfl rfl (AL.nil (AK.seqN (AC.ret ?_))))
    first | refine AK.ret (L' := L) (F' := F) Tryd.results44 rfl (by repeat (first | exact Sub.refl _ _ | refine Sub.trans Sub.drop ?_ | refine Sub.trans Sub.dropF ?_)) (hT ?_) | refine AK.ret (L' := L) (F' := F) Tryd.results44 rfl (by repeat (first | exact Sub.refl _ _ | refine Sub.trans Sub.drop ?_ | refine Sub.trans Sub.dropF ?_)) (hF ?_)
    first
    | exact ⟨c5, List.eq_nil_of_length_eq_zero (Int.ofNat.inj c10)⟩
    | exact fun e => c10 (by rw [e.2]; rfl)
    | exact fun e => c5 e.1
theorem fields_c (t : Ty) {a1 a2 : Option Addr} {k1 c1 k2 c2 : Nat} (m1 : fW t a1 k1 c1 ∈ F) (m2 : fK t a2 k2 c2 ∈ F) (hT : fieldsP t.words ∧ t.name = [] ∧ t.n = 0 ∧ t.words.length = t.kids.length → R (.bool true) L F)
    (hF : ¬(fieldsP t.words ∧ t.name = [] ∧ t.n = 0 ∧ t.words.length = t.kids.length) → R (.bool false) L F) : ACalls Tryd.prog W0 45 #[vTy t a1 k1 c1 a2 k2 c2] L F R := by
  refine ACalls.body Tryd.func45 rfl Tryd.ntmps45 rfl ?_
  refine AC.seq (AC.region (AL.go (AO.box rfl rfl (fun b1 => ?_))))
  refine AL.go (AO.assign rfl rfl (AL.nil (AK.seqN (AC.seq (AC.region ?_)))))
  refine AL.go (AO.makeMap S Value.bool rfl (fun b7 => ?_))
  refine AL.go (AO.assign rfl rfl (AL.nil (AK.seqN (AC.seq (AC.seq (AC.region ?_))))))
  refine AL.go (AO.field rfl rfl ?_)
  refine AL.go (AO.loadB rfl rfl ?_)
  refine AL.go (AO.len rfl rfl (fun hl10 => ?_) (hm := by repeat (first | exact mem0 | assumption | refine memS ?_)))
  refine AL.go (AO.move rfl rfl (AL.nil (AK.seqN (AC.block ?_))))
  refine AC.loop (fun (i : Nat × (List UInt8 → Option Bool)) => i.1 ≤ t.words.length ∧ SeenIs t.words i.1 i.2 ∧ ∀ j (hj : j < t.words.length), j < i.1 → fieldAt t.words j hj) (fun i => [(1, .pointer (some ⟨b1, 0, none⟩)), (3, .map (some b7)), (9, .slice a1 k1 c1), (10, .int .i64 t.words.length), (11, .int .i64 (i.1 : Int))]) (fun i => Res.map b7 S Value.bool i.2 :: _) (fun _ => F) (fun i => t.words.length - i.1) (0, fun _ => none) ⟨by omega, SeenIs.zero _, by omega⟩ (by repeat (first | exact SubR.nil | refine SubR.cons rfl ?_)) (Sub.refl _ _) ?_
  rintro ⟨q, m⟩ ⟨hq, hseen, hok⟩
  simp only at hq hseen hok ⊢
  refine AC.seq (AC.region ?_)
  refine AL.go (AO.lss rfl rfl rfl (fun c12 => ?_) (fun c12 => ?_))
  · refine AL.nil (AK.seqN (AC.seq (AC.condT rfl (AC.skip (AK.seqN ?_)))))
    refine AC.seq (AC.block (AC.seq (AC.region ?_)))
    have hql : q < t.words.length := by omega
    refine AL.go (AO.indexAddr rfl rfl rfl rfl (by repeat (first | exact mem0 | assumption | refine memS ?_)) hql (fun _ _ => ?_))
    refine AL.go (AO.loadF rfl rfl ?_)
    intros
    refine AL.go (AO.assign rfl rfl (AL.nil (AK.seqN (AC.seq (AC.region (AL.go (AO.move rfl rfl ?_)))))))
    refine AL.go (AO.call rfl rfl (trimp_c t.words[q] ?_))
    refine AL.go (AO.assign rfl rfl (AL.nil (AK.seqN (AC.seq (AC.seq (AC.region ?_))))))
    refine AL.go (AO.move rfl rfl ?_)
    refine AL.go (AO.call rfl rfl (src_Name_c (fieldN t.words[q]) (fun c18 => ?_) (fun c18 => ?_)))
    · refine AL.go (AO.not rfl rfl (AL.go (AO.move rfl rfl (AL.yes rfl rfl (AO.move rfl rfl (AL.yes rfl rfl (AO.move rfl rfl ?_)))))))
      refine AL.yes rfl rfl (AO.lookupB (kenc := S) (m := m) (i := 0) (fieldN t.words[q]) rfl rfl rfl (by rfl) (fun c23 => ?_) (fun c23 => ?_))
      · refine AL.go (AO.pickF rfl rfl rfl (AL.nil (AK.seqN (AC.condT rfl (AC.seq (AC.region ?_))))))
        refine AL.go (AO.assign rfl rfl (AL.nil (AK.seqN (AC.ret (AK.seqR (AK.blkR ?_))))))
        refine AK.seqR (AK.seqR (AK.blkR (AK.seqR ?_)))
        first | refine AK.ret (L' := L) (F' := F) Tryd.results45 rfl (by repeat (first | exact Sub.refl _ _ | refine Sub.trans Sub.drop ?_ | refine Sub.trans Sub.dropF ?_)) (hT ?_) | refine AK.ret (L' := L) (F' := F) Tryd.results45 rfl (by repeat (first | exact Sub.refl _ _ | refine Sub.trans Sub.drop ?_ | refine Sub.trans Sub.dropF ?_)) (hF ?_)
        first
        | exact ⟨fun i hi => hok i hi (by omega), c32, c36, by omega⟩
        | exact fun e => field_seen hseen hql c23 e.1
        | exact fun e => absurd (e.1 q hql).1 (by rw [c18]; decide)
        | exact fun e => c32 e.2.1
        | exact fun e => c36 e.2.2.1
        | exact fun e => c45 (by rw [e.2.2.2])
      · refine AL.go (AO.pickF rfl rfl rfl (AL.nil (AK.seqN (AC.condF rfl (AC.skip (AK.seqN ?_))))))
        refine AC.region (AL.go (AO.move rfl rfl (AL.go (AO.move rfl rfl (AL.go (AO.move rfl rfl ?_))))))
        refine AL.go (AO.neqS rfl rfl rfl (fun c28 => ?_) (fun c28 => ?_))
        · refine AL.go (AO.mapUpdate (kenc := S) (venc := Value.bool) (m := m) (i := 0) (fieldN t.words[q]) true rfl rfl rfl (by rfl) ?_)
          refine AL.nil (AK.blkN (AK.seqN (AC.region (AL.go (AO.add rfl rfl rfl (by omega) (by omega) (AL.go (AO.move rfl rfl ?_)))))))
          refine AL.nil ?_
          first | refine AK.next (q + 1, upd m (fieldN t.words[q]) true) ⟨by simp only; omega, hseen.step hql ⟨fun _ => c28, fun _ => rfl⟩, field_step hseen hok hql c18 c23⟩ (by simp only; omega) (by repeat (first | exact SubR.nil | refine SubR.cons rfl ?_)) (by repeat (first | exact Sub.refl _ _ | refine Sub.trans Sub.dropF ?_)) | refine AK.next (q + 1, upd m (fieldN t.words[q]) false) ⟨by simp only; omega, hseen.step hql ⟨fun e => absurd e (by decide), fun e => absurd c28 e⟩, field_step hseen hok hql c18 c23⟩ (by simp only; omega) (by repeat (first | exact SubR.nil | refine SubR.cons rfl ?_)) (by repeat (first | exact Sub.refl _ _ | refine Sub.trans Sub.dropF ?_))
        · refine AL.go (AO.mapUpdate (kenc := S) (venc := Value.bool) (m := m) (i := 0) (fieldN t.words[q]) false rfl rfl rfl (by rfl) ?_)
          refine AL.nil (AK.blkN (AK.seqN (AC.region (AL.go (AO.add rfl rfl rfl (by omega) (by omega) (AL.go (AO.move rfl rfl ?_)))))))
          refine AL.nil ?_
          first | refine AK.next (q + 1, upd m (fieldN t.words[q]) true) ⟨by simp only; omega, hseen.step hql ⟨fun _ => c28, fun _ => rfl⟩, field_step hseen hok hql c18 c23⟩ (by simp only; omega) (by repeat (first | exact SubR.nil | refine SubR.cons rfl ?_)) (by repeat (first | exact Sub.refl _ _ | refine Sub.trans Sub.dropF ?_)) | refine AK.next (q + 1, upd m (fieldN t.words[q]) false) ⟨by simp only; omega, hseen.step hql ⟨fun e => absurd e (by decide), fun e => absurd c28 e⟩, field_step hseen hok hql c18 c23⟩ (by simp only; omega) (by repeat (first | exact SubR.nil | refine SubR.cons rfl ?_)) (by repeat (first | exact Sub.refl _ _ | refine Sub.trans Sub.dropF ?_))
    · refine AL.go (AO.not rfl rfl (AL.go (AO.move rfl rfl (AL.no rfl rfl rfl rfl (AL.no rfl rfl rfl rfl (AL.no rfl rfl rfl rfl (AL.go (AO.pickT rfl rfl rfl ?_))))))))
      refine AL.nil (AK.seqN (AC.condT rfl (AC.seq (AC.region (AL.go (AO.assign rfl rfl ?_))))))
      refine AL.nil (AK.seqN (AC.ret (AK.seqR (AK.blkR (AK.seqR ?_)))))
      refine AK.seqR (AK.blkR (AK.seqR ?_))
      first | refine AK.ret (L' := L) (F' := F) Tryd.results45 rfl (by repeat (first | exact Sub.refl _ _ | refine Sub.trans Sub.drop ?_ | refine Sub.trans Sub.dropF ?_)) (hT ?_) | refine AK.ret (L' := L) (F' := F) Tryd.results45 rfl (by repeat (first | exact Sub.refl _ _ | refine Sub.trans Sub.drop ?_ | refine Sub.trans Sub.dropF ?_)) (hF ?_)
      first
      | exact ⟨fun i hi => hok i hi (by omega), c32, c36, by omega⟩
      | exact fun e => field_seen hseen hql c23 e.1
      | exact fun e => absurd (e.1 q hql).1 (by rw [c18]; decide)
      | exact fun e => c32 e.2.1
      | exact fun e => c36 e.2.2.1
      | exact fun e => c45 (by rw [e.2.2.2])
  · refine AL.nil (AK.seqN (AC.seq (AC.condF rfl (AC.exit (AK.seqX ?_)))))
    refine AK.seqX (AK.blkX (AK.seqN (AC.seq (AC.region (AL.go (AO.field rfl rfl ?_))))))
    refine AL.go (AO.loadB rfl rfl ?_)
    refine AL.go (AO.eqlS rfl rfl rfl (fun c32 => ?_) (fun c32 => ?_))
    · refine AL.go (AO.move rfl rfl (AL.yes rfl rfl (AO.field rfl rfl ?_)))
      refine AL.yes rfl rfl (AO.loadB rfl rfl ?_)
      refine AL.yes rfl rfl (AO.eql rfl rfl rfl (fun c36 => ?_) (fun c36 => ?_))
      · refine AL.go (AO.pickT rfl rfl rfl (AL.go (AO.move rfl rfl (AL.yes rfl rfl (AO.field rfl rfl ?_)))))
        refine AL.yes rfl rfl (AO.loadB rfl rfl ?_)
        refine AL.yes rfl rfl (AO.len rfl rfl (fun hl41 => ?_) (hm := by repeat (first | exact mem0 | assumption | refine memS ?_)))
        refine AL.yes rfl rfl (AO.field rfl rfl ?_)
        refine AL.yes rfl rfl (AO.loadB rfl rfl ?_)
        refine AL.yes rfl rfl (AO.len rfl rfl (fun hl44 => ?_) (hm := by repeat (first | exact mem0 | assumption | refine memS ?_)))
        refine AL.yes rfl rfl (AO.eql rfl rfl rfl (fun c45 => ?_) (fun c45 => ?_))
        · refine AL.go (AO.pickT rfl rfl rfl (AL.go (AO.assign rfl rfl (AL.nil (AK.seqN (AC.ret ?_))))))
          first | refine AK.ret (L' := L) (F' := F) Tryd.results45 rfl (by repeat (first | exact Sub.refl _ _ | refine Sub.trans Sub.drop ?_ | refine Sub.trans Sub.dropF ?_)) (hT ?_) | refine AK.ret (L' := L) (F' := F) Tryd.results45 rfl (by repeat (first | exact Sub.refl _ _ | refine Sub.trans Sub.drop ?_ | refine Sub.trans Sub.dropF ?_)) (hF ?_)
          first
          | exact ⟨fun i hi => hok i hi (by omega), c32, c36, by omega⟩
          | exact fun e => field_seen hseen hql c23 e.1
          | exact fun e => absurd (e.1 q hql).1 (by rw [c18]; decide)
          | exact fun e => c32 e.2.1
          | exact fun e => c36 e.2.2.1
          | exact fun e => c45 (by rw [e.2.2.2])
        · refine AL.go (AO.pickT rfl rfl rfl (AL.go (AO.assign rfl rfl (AL.nil (AK.seqN (AC.ret ?_))))))
          first | refine AK.ret (L' := L) (F' := F) Tryd.results45 rfl (by repeat (first | exact Sub.refl _ _ | refine Sub.trans Sub.drop ?_ | refine Sub.trans Sub.dropF ?_)) (hT ?_) | refine AK.ret (L' := L) (F' := F) Tryd.results45 rfl (by repeat (first | exact Sub.refl _ _ | refine Sub.trans Sub.drop ?_ | refine Sub.trans Sub.dropF ?_)) (hF ?_)
          first
          | exact ⟨fun i hi => hok i hi (by omega), c32, c36, by omega⟩
          | exact fun e => field_seen hseen hql c23 e.1
          | exact fun e => absurd (e.1 q hql).1 (by rw [c18]; decide)
          | exact fun e => c32 e.2.1
          | exact fun e => c36 e.2.2.1
          | exact fun e => c45 (by rw [e.2.2.2])
      · refine AL.go (AO.pickT rfl rfl rfl (AL.go (AO.move rfl rfl (AL.no rfl rfl rfl rfl (AL.no rfl rfl rfl rfl (AL.no rfl rfl rfl rfl (AL.no rfl rfl rfl rfl ?_)))))))
        refine AL.no rfl rfl rfl rfl (AL.no rfl rfl rfl rfl (AL.no rfl rfl rfl rfl (AL.go (AO.pickF rfl rfl rfl (AL.go (AO.assign rfl rfl (AL.nil ?_)))))))
        refine AK.seqN (AC.ret ?_)
        first | refine AK.ret (L' := L) (F' := F) Tryd.results45 rfl (by repeat (first | exact Sub.refl _ _ | refine Sub.trans Sub.drop ?_ | refine Sub.trans Sub.dropF ?_)) (hT ?_) | refine AK.ret (L' := L) (F' := F) Tryd.results45 rfl (by repeat (first | exact Sub.refl _ _ | refine Sub.trans Sub.drop ?_ | refine Sub.trans Sub.dropF ?_)) (hF ?_)
        first
        | exact ⟨fun i hi => hok i hi (by omega), c32, c36, by omega⟩
        | exact fun e => field_seen hseen hql c23 e.1
        | exact fun e => absurd (e.1 q hql).1 (by rw [c18]; decide)
        | exact fun e => c32 e.2.1
        | exact fun e => c36 e.2.2.1
        | exact fun e => c45 (by rw [e.2.2.2])
    · refine AL.go (AO.move rfl rfl (AL.no rfl rfl rfl rfl (AL.no rfl rfl rfl rfl (AL.no rfl rfl rfl rfl (AL.go (AO.pickF rfl rfl rfl (AL.go (AO.move rfl rfl ?_))))))))
      refine AL.no rfl rfl rfl rfl (AL.no rfl rfl rfl rfl (AL.no rfl rfl rfl rfl (AL.no rfl rfl rfl rfl (AL.no rfl rfl rfl rfl (AL.no rfl rfl rfl rfl ?_)))))
      refine AL.no rfl rfl rfl rfl (AL.go (AO.pickF rfl rfl rfl (AL.go (AO.assign rfl rfl (AL.nil (AK.seqN (AC.ret ?_)))))))
      first | refine AK.ret (L' := L) (F' := F) Tryd.results45 rfl (by repeat (first | exact Sub.refl _ _ | refine Sub.trans Sub.drop ?_ | refine Sub.trans Sub.dropF ?_)) (hT ?_) | refine AK.ret (L' := L) (F' := F) Tryd.results45 rfl (by repeat (first | exact Sub.refl _ _ | refine Sub.trans Sub.drop ?_ | refine Sub.trans Sub.dropF ?_)) (hF ?_)
      first
      | exact ⟨fun i hi => hok i hi (by omega), c32, c36, by omega⟩
      | exact fun e => field_seen hseen hql c23 e.1
      | exact fun e => absurd (e.1 q hql).1 (by rw [c18]; decide)
      | exact fun e => c32 e.2.1
      | exact fun e => c36 e.2.2.1
      | exact fun e => c45 (by rw [e.2.2.2])
theorem named_c (g : Glob W0) (s : List UInt8) (hs : s.length < 4294967281) (hT : namedP s → R (.bool true) L F) (hF : ¬ namedP s → R (.bool false) L F) : ACalls Tryd.prog W0 47 #[S s] L F R := by
  refine ACalls.body Tryd.func47 rfl Tryd.ntmps47 rfl ?_
  refine AC.seq (AC.region (AL.go (AO.assign rfl rfl (AL.nil (AK.seqN (AC.seq ?_))))))
  refine AC.region (AL.go (AO.move rfl rfl ?_))
  refine AL.go (AO.call rfl rfl (cut_c g s 46 hs ?_))
  cases c8 : (cutD 46 s).2.2
  rotate_left
  · refine AL.go (AO.move rfl rfl (AL.go (AO.extract rfl rfl rfl (AL.go (AO.extract rfl rfl rfl (AL.go (AO.extract rfl rfl rfl (AL.go (AO.assign rfl rfl (AL.go (AO.assign rfl rfl ?_)))))))))))
    refine AL.go (AO.assign rfl rfl (AL.nil (AK.seqN (AC.seq (AC.region (AL.go (AO.move rfl rfl ?_)))))))
    refine AL.go (AO.move rfl rfl (AL.yes rfl rfl (AO.move rfl rfl ?_)))
    refine AL.yes rfl rfl (AO.call rfl rfl (src_Name_c _ (fun c15 => ?_) (fun c15 => ?_)))
    · refine AL.go (AO.pickT rfl rfl rfl (AL.go (AO.move rfl rfl (AL.yes rfl rfl (AO.move rfl rfl ?_)))))
      refine AL.yes rfl rfl (AO.call rfl rfl (src_Name_c _ (fun c19 => ?_) (fun c19 => ?_)))
      · refine AL.go (AO.pickT rfl rfl rfl (AL.go (AO.assign rfl rfl (AL.nil (AK.seqN (AC.ret ?_))))))
        first | refine AK.ret Tryd.results47 rfl (Sub.refl _ _) (hT ?_) | refine AK.ret Tryd.results47 rfl (Sub.refl _ _) (hF ?_)
        first
        | exact ⟨c8, c15, c19⟩
        | exact fun e => absurd e.2.2 (by rw [c19]; decide)
        | exact fun e => absurd e.2.1 (by rw [c15]; decide)
        | exact fun e => absurd e.1 (by rw [c8]; decide)
      · refine AL.go (AO.pickT rfl rfl rfl (AL.go (AO.assign rfl rfl (AL.nil (AK.seqN (AC.ret ?_))))))
        first | refine AK.ret Tryd.results47 rfl (Sub.refl _ _) (hT ?_) | refine AK.ret Tryd.results47 rfl (Sub.refl _ _) (hF ?_)
        first
        | exact ⟨c8, c15, c19⟩
        | exact fun e => absurd e.2.2 (by rw [c19]; decide)
        | exact fun e => absurd e.2.1 (by rw [c15]; decide)
        | exact fun e => absurd e.1 (by rw [c8]; decide)
    · refine AL.go (AO.pickT rfl rfl rfl (AL.go (AO.move rfl rfl (AL.no rfl rfl rfl rfl (AL.no rfl rfl rfl rfl (AL.go (AO.pickF rfl rfl rfl (AL.go (AO.assign rfl rfl ?_)))))))))
      refine AL.nil (AK.seqN (AC.ret ?_))
      first | refine AK.ret Tryd.results47 rfl (Sub.refl _ _) (hT ?_) | refine AK.ret Tryd.results47 rfl (Sub.refl _ _) (hF ?_)
      first
      | exact ⟨c8, c15, c19⟩
      | exact fun e => absurd e.2.2 (by rw [c19]; decide)
      | exact fun e => absurd e.2.1 (by rw [c15]; decide)
      | exact fun e => absurd e.1 (by rw [c8]; decide)
  · refine AL.go (AO.move rfl rfl (AL.go (AO.extract rfl rfl rfl (AL.go (AO.extract rfl rfl rfl (AL.go (AO.extract rfl rfl rfl (AL.go (AO.assign rfl rfl (AL.go (AO.assign rfl rfl ?_)))))))))))
    refine AL.go (AO.assign rfl rfl (AL.nil (AK.seqN (AC.seq (AC.region (AL.go (AO.move rfl rfl ?_)))))))
    refine AL.go (AO.move rfl rfl (AL.no rfl rfl rfl rfl (AL.no rfl rfl rfl rfl (AL.go (AO.pickF rfl rfl rfl (AL.go (AO.move rfl rfl (AL.no rfl rfl rfl rfl ?_))))))))
    refine AL.no rfl rfl rfl rfl (AL.go (AO.pickF rfl rfl rfl (AL.go (AO.assign rfl rfl (AL.nil (AK.seqN (AC.ret ?_)))))))
    first | refine AK.ret Tryd.results47 rfl (Sub.refl _ _) (hT ?_) | refine AK.ret Tryd.results47 rfl (Sub.refl _ _) (hF ?_)
    first
    | exact ⟨c8, c15, c19⟩
    | exact fun e => absurd e.2.2 (by rw [c19]; decide)
    | exact fun e => absurd e.2.1 (by rw [c15]; decide)
    | exact fun e => absurd e.1 (by rw [c8]; decide)
end
end Go.Sy
