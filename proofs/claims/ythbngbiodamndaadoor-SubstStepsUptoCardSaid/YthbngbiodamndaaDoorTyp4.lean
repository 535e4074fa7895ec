/- What may be a type, for a row of others, as the program asks it: the walks. -/
import Derived.Test.YthbngbiodamndaaDoorTyp3
namespace Go.Sy
open Go Go.Proofs Go.RowKit

theorem kind_get {l : List Ty} {k : Int} {j : Nat} (hk : k = (j : Int)) (hj : j < l.length) : kindAt l k = l[j].kind := by
  subst hk; unfold kindAt; simp [List.getElem?_eq_getElem hj]
theorem kid_get {t : Ty} {i : Nat} (hi : i < t.kids.length) : kidAt t i = t.kids[i] := by unfold kidAt; simp [List.getD, List.getElem?_eq_getElem hi]
theorem word_get {ws : List (List UInt8)} {i : Nat} (hi : i < ws.length) : ws.getD i [] = ws[i] := by simp [List.getD, List.getElem?_eq_getElem hi]
theorem kid_nat {l : List Ty} {t : Ty} (h : kidsP l t) {i : Nat} (hi : i < t.kids.length) : t.kids[i] = ((t.kids[i].toNat : Nat) : Int) ∧ t.kids[i].toNat < l.length := by
  have := h _ (List.getElem_mem hi)
  omega
theorem kids_yes {l : List Ty} {t : Ty} (h : ∀ j (hj : j < t.kids.length), ¬(t.kids[j] < 0 ∨ t.kids[j] ≥ l.length)) : kidsP l t := by
  intro k hk
  obtain ⟨j, hj, rfl⟩ := List.getElem_of_mem hk
  have := h j hj
  omega
theorem nil_of {α : Type} {l : List α} (h : (l.length : Int) = 0) : l = [] := List.eq_nil_of_length_eq_zero (by omega)

theorem bytes_tri : ∀ a b : List UInt8, (Op.bytesLess a b || a == b) = false → Op.bytesLess b a = true
  | [], [], h => by simp at h
  | [], _ :: _, h => by simp [Op.bytesLess] at h
  | _ :: _, [], _ => by simp [Op.bytesLess]
  | x :: a, y :: b, h => by
    have ih := bytes_tri a b
    have hl : ∀ (x y : UInt8) (a b : List UInt8), Op.bytesLess (x :: a) (y :: b) = true ↔ x < y ∨ x = y ∧ Op.bytesLess a b = true := by
      intro x y a b; simp [Op.bytesLess]
    rw [Bool.or_eq_false_iff] at h
    have h1 : ¬ (x < y ∨ x = y ∧ Op.bytesLess a b = true) := fun e => by rw [(hl x y a b).2 e] at h; exact absurd h.1 (by decide)
    rw [hl]
    by_cases e : x = y
    · subst e
      right
      refine ⟨rfl, ih ?_⟩
      have e1 : Op.bytesLess a b = false := by
        cases hb : Op.bytesLess a b with
        | false => rfl
        | true => exact absurd (Or.inr ⟨rfl, hb⟩) h1
      have e2 : (a == b) = false := by
        have := h.2
        simpa using this
      rw [e1, e2]; rfl
    · left
      have h2 : ¬ x < y := fun k => h1 (Or.inl k)
      rw [UInt8.lt_iff_toNat_lt] at h2 ⊢
      have h3 : x.toNat ≠ y.toNat := fun k => e (UInt8.toNat_inj.1 k)
      omega
theorem bytes_asym : ∀ a b : List UInt8, Op.bytesLess b a = true → (Op.bytesLess a b || a == b) = false
  | [], [], h => by simp [Op.bytesLess] at h
  | [], _ :: _, h => by simp [Op.bytesLess] at h
  | _ :: _, [], _ => by simp [Op.bytesLess]
  | x :: a, y :: b, h => by
    have ih := bytes_asym a b
    have hl : ∀ (x y : UInt8) (a b : List UInt8), Op.bytesLess (x :: a) (y :: b) = true ↔ x < y ∨ x = y ∧ Op.bytesLess a b = true := by
      intro x y a b; simp [Op.bytesLess]
    rw [hl] at h
    rcases h with h | ⟨rfl, h⟩
    · have hlt := UInt8.lt_iff_toNat_lt.1 h
      have e1 : Op.bytesLess (x :: a) (y :: b) = false := by
        cases hb : Op.bytesLess (x :: a) (y :: b) with
        | false => rfl
        | true =>
          rcases (hl x y a b).1 hb with k | ⟨k, _⟩
          · have := UInt8.lt_iff_toNat_lt.1 k; omega
          · subst k; omega
      have e2 : (x :: a == y :: b) = false := by
        have : x ≠ y := fun k => by subst k; omega
        simp [this]
      rw [e1, e2]; rfl
    · have := ih h
      rw [Bool.or_eq_false_iff] at this ⊢
      refine ⟨?_, ?_⟩
      · cases hb : Op.bytesLess (y :: a) (y :: b) with
        | false => rfl
        | true =>
          rcases (hl y y a b).1 hb with k | ⟨_, k⟩
          · have := UInt8.lt_iff_toNat_lt.1 k; omega
          · rw [this.1] at k; exact absurd k (by decide)
      · simpa using this.2
theorem leq_nil {w : List UInt8} (h : (Op.bytesLess w [] || w == []) = true) : w = [] := by
  cases w with
  | nil => rfl
  | cons x r => simp [Op.bytesLess] at h
theorem name_nil : isName [] = false := by decide
theorem mark_nil : ¬ markP [] := fun e => e.elim (fun k => by simp at k) (fun k => by simp at k)

attribute [local irreducible] AC AT AO AK AH ACalls Sub Res.cells Res.obj Res.nix Res.own Res.map Exit.then Exit.inBlock bodyPost Code.wp Next Post Kont
section
variable {W0 : World} {L : List Res} {F : List Fact} {R : Value → List Res → List Fact → Prop}
set_option maxRecDepth 100000
set_option maxHeartbeats 4000000
/-- What a function value tells of a number. -/
def TellsI (P : Program) (W0 : World) (L : List Res) (F : List Fact) (g : FuncId) (cs : List Value) (p : Int → Prop) : Prop :=
  ∀ (s : Int) (F' : List Fact) (_ : ∀ f ∈ F, f ∈ F') (R : Value → List Res → List Fact → Prop), (p s → R (.bool true) L F') → (¬ p s → R (.bool false) L F') → ACalls P W0 g ([Value.int .i64 s] ++ cs).toArray L F' R
theorem indexFuncI_c (l : List Int) {a : Option Addr} {k c : Nat} (m1 : Fact.slc (.slice a k c) 1 (l.map eI) ∈ F) (g : FuncId) [FnT Tryd.prog g] (cs : List Value) (p : Int → Prop) (hg : TellsI Tryd.prog W0 L F g cs p)
    (hT : ∀ (j : Nat) (hj : j < l.length), p l[j] → R (.int .i64 (j : Int)) L F) (hF : (∀ j (hj : j < l.length), ¬ p l[j]) → R (.int .i64 (-1)) L F) : ACalls Tryd.prog W0 55 #[.slice a k c, .func (.func g) #[] cs.toArray] L F R := by
  refine ACalls.body Tryd.func55 rfl Tryd.ntmps55 rfl ?_
  refine AC.seq (AC.region (AL.go (AO.assign rfl rfl (AL.nil (AK.seqN (AC.seq ?_))))))
  refine AC.seq (AC.region (AL.go (AO.move rfl rfl ?_)))
  refine AL.go (AO.len rfl rfl (fun hl7 => ?_) (hm := by repeat (first | exact mem0 | assumption | refine memS ?_)))
  refine AL.go (AO.move rfl rfl (AL.nil (AK.seqN (AC.block ?_))))
  refine AC.loopC (fun (q : Nat) => q ≤ l.length ∧ ∀ j (hj : j < l.length), j < q → ¬ p l[j]) (fun q => [(0, .slice a k c), (1, .func (.func g) #[] cs.toArray), (7, .int .i64 l.length), (8, .int .i64 (q : Int))]) (fun q => l.length - q) 0 ⟨by omega, by omega⟩ (by repeat (first | exact SubR.nil | refine SubR.cons rfl ?_)) ?_
  rintro q ⟨hq, hok⟩
  refine AC.seq (AC.region ?_)
  refine AL.go (AO.lss rfl rfl rfl (fun c9 => ?_) (fun c9 => ?_))
  · refine AL.nil (AK.seqN (AC.seq (AC.condT rfl (AC.skip (AK.seqN ?_)))))
    refine AC.seq (AC.block (AC.seq (AC.region (AL.go (AO.move rfl rfl (AL.go (AO.assign rfl rfl ?_)))))))
    refine AL.nil (AK.seqN (AC.seq (AC.region (AL.go (AO.move rfl rfl (AL.go (AO.move rfl rfl ?_)))))))
    refine AL.go (AO.move rfl rfl ?_)
    have hql : q < l.length := by omega
    refine AL.go (AO.indexAddr rfl rfl rfl rfl (by repeat (first | exact mem0 | assumption | refine memS ?_)) hql (fun _ _ => ?_))
    refine AL.go (AO.loadF rfl rfl ?_)
    intros
    refine AL.go (AO.callC rfl rfl rfl (hg l[q] _ (fun f hf => List.mem_cons_of_mem _ hf) _ (fun c16 => ?_) (fun c16 => ?_)))
    · refine AL.nil (AK.seqN (AC.condT rfl (AC.seq (AC.region (AL.go (AO.move rfl rfl ?_))))))
      refine AL.go (AO.assign rfl rfl (AL.nil (AK.seqN (AC.ret (AK.blkR (AK.seqR ?_))))))
      refine AK.seqR (AK.blkR (AK.seqR ?_))
      first | exact AK.ret (L' := L) (F' := F) Tryd.results55 rfl (by repeat (first | exact Sub.refl _ _ | refine Sub.trans Sub.dropF ?_)) (hT q hql c16) | exact AK.ret (L' := L) (F' := F) Tryd.results55 rfl (by repeat (first | exact Sub.refl _ _ | refine Sub.trans Sub.dropF ?_)) (hF (fun j hj => hok j hj (by omega)))
    · refine AL.nil (AK.seqN (AC.condF rfl (AC.skip (AK.blkN (AK.seqN ?_)))))
      refine AC.region (AL.go (AO.add rfl rfl rfl (by omega) (by omega) (AL.go (AO.move rfl rfl (AL.nil ?_)))))
      refine AK.next (q + 1) ⟨by omega, fun j hj hjq => ?_⟩ (by omega) (by repeat (first | exact SubR.nil | refine SubR.cons rfl ?_)) (by repeat (first | exact Sub.refl _ _ | refine Sub.trans Sub.dropF ?_))
      rcases Nat.lt_succ_iff_lt_or_eq.1 hjq with k9 | rfl
      · exact hok j hj k9
      · exact c16
  · refine AL.nil (AK.seqN (AC.seq (AC.condF rfl (AC.exit (AK.seqX ?_)))))
    refine AK.seqX (AK.blkX (AK.seqN (AC.seq (AC.region (AL.go (AO.assign rfl rfl ?_))))))
    refine AL.nil (AK.seqN (AC.ret ?_))
    first | exact AK.ret (L' := L) (F' := F) Tryd.results55 rfl (by repeat (first | exact Sub.refl _ _ | refine Sub.trans Sub.dropF ?_)) (hT q hql c16) | exact AK.ret (L' := L) (F' := F) Tryd.results55 rfl (by repeat (first | exact Sub.refl _ _ | refine Sub.trans Sub.dropF ?_)) (hF (fun j hj => hok j hj (by omega)))
theorem containsFuncI_c (l : List Int) {a : Option Addr} {k c : Nat} (m1 : Fact.slc (.slice a k c) 1 (l.map eI) ∈ F) (g : FuncId) [FnT Tryd.prog g] (cs : List Value) (p : Int → Prop) (hg : TellsI Tryd.prog W0 L F g cs p)
    (hT : (¬ ∀ j (hj : j < l.length), ¬ p l[j]) → R (.bool true) L F) (hF : (∀ j (hj : j < l.length), ¬ p l[j]) → R (.bool false) L F) : ACalls Tryd.prog W0 37 #[.slice a k c, .func (.func g) #[] cs.toArray] L F R := by
  refine ACalls.body Tryd.func37 rfl Tryd.ntmps37 rfl ?_
  refine AC.seq (AC.region (AL.go (AO.assign rfl rfl (AL.nil (AK.seqN (AC.seq ?_))))))
  refine AC.region (AL.go (AO.move rfl rfl (AL.go (AO.move rfl rfl ?_))))
  refine AL.go (AO.call rfl rfl (indexFuncI_c l m1 g cs p hg (fun j7 hj7 c7 => ?_) (fun c7 => ?_)))
  · refine AL.go (AO.geq rfl rfl rfl (fun c8 => ?_) (fun c8 => absurd c8 (by omega)))
    refine AL.go (AO.assign rfl rfl (AL.nil (AK.seqN (AC.ret ?_))))
    first | exact AK.ret (L' := L) (F' := F) Tryd.results37 rfl (by repeat (first | exact Sub.refl _ _ | refine Sub.trans Sub.dropF ?_)) (hT (fun e => e j7 hj7 c7)) | exact AK.ret (L' := L) (F' := F) Tryd.results37 rfl (by repeat (first | exact Sub.refl _ _ | refine Sub.trans Sub.dropF ?_)) (hF c7)
  · refine AL.go (AO.geq rfl rfl rfl (fun c8 => absurd c8 (by omega)) (fun c8 => ?_))
    refine AL.go (AO.assign rfl rfl (AL.nil (AK.seqN (AC.ret ?_))))
    first | exact AK.ret (L' := L) (F' := F) Tryd.results37 rfl (by repeat (first | exact Sub.refl _ _ | refine Sub.trans Sub.dropF ?_)) (hT (fun e => e j7 hj7 c7)) | exact AK.ret (L' := L) (F' := F) Tryd.results37 rfl (by repeat (first | exact Sub.refl _ _ | refine Sub.trans Sub.dropF ?_)) (hF c7)
theorem made1_c (l : List Ty) (s : Int) {a3 : Option Addr} {k3 c3 b i : Nat} {ty : TypeId} (m3 : fL l a3 k3 c3 ∈ F) (hb : L[i]? = some (Res.cells b #[.slice a3 k3 c3] ty)) (hT : s < 0 ∨ s ≥ l.length → R (.bool true) L F) (hF : ¬(s < 0 ∨ s ≥ l.length) → R (.bool false) L F) :
    ACalls Tryd.prog W0 43 #[.int .i64 s, .pointer (some ⟨b, 0, none⟩)] L F R := by
  refine ACalls.body Tryd.func43 rfl Tryd.ntmps43 rfl ?_
  refine AC.seq (AC.region (AL.go (AO.assign rfl rfl (AL.nil (AK.seqN (AC.seq ?_))))))
  refine AC.region (AL.go (AO.move rfl rfl ?_))
  refine AL.go (AO.lss rfl rfl rfl (fun c5 => ?_) (fun c5 => ?_))
  · refine AL.go (AO.move rfl rfl (AL.no rfl rfl rfl rfl (AL.no rfl rfl rfl rfl (AL.no rfl rfl rfl rfl (AL.no rfl rfl rfl rfl (AL.go (AO.pickT rfl rfl rfl ?_)))))))
    refine AL.go (AO.assign rfl rfl (AL.nil (AK.seqN (AC.ret ?_))))
    first | exact AK.ret (L' := L) (F' := F) Tryd.results43 rfl (by repeat (first | exact Sub.refl _ _ | refine Sub.trans Sub.dropF ?_)) (hT (Or.inl c5)) | exact AK.ret (L' := L) (F' := F) Tryd.results43 rfl (by repeat (first | exact Sub.refl _ _ | refine Sub.trans Sub.dropF ?_)) (hT (Or.inr c10)) | exact AK.ret (L' := L) (F' := F) Tryd.results43 rfl (by repeat (first | exact Sub.refl _ _ | refine Sub.trans Sub.dropF ?_)) (hF (by omega))
  · refine AL.go (AO.move rfl rfl (AL.yes rfl rfl (AO.move rfl rfl ?_)))
    refine AL.yes rfl rfl (AO.loadB (cs := [.slice a3 k3 c3]) rfl rfl ?_ (hi := hb) (hv := rfl))
    refine AL.yes rfl rfl (AO.len rfl rfl (fun hl9 => ?_) (hm := m3))
    refine AL.yes rfl rfl (AO.geq rfl rfl rfl (fun c10 => ?_) (fun c10 => ?_))
    · refine AL.go (AO.pickF rfl rfl rfl (AL.go (AO.assign rfl rfl (AL.nil (AK.seqN (AC.ret ?_))))))
      first | exact AK.ret (L' := L) (F' := F) Tryd.results43 rfl (by repeat (first | exact Sub.refl _ _ | refine Sub.trans Sub.dropF ?_)) (hT (Or.inl c5)) | exact AK.ret (L' := L) (F' := F) Tryd.results43 rfl (by repeat (first | exact Sub.refl _ _ | refine Sub.trans Sub.dropF ?_)) (hT (Or.inr c10)) | exact AK.ret (L' := L) (F' := F) Tryd.results43 rfl (by repeat (first | exact Sub.refl _ _ | refine Sub.trans Sub.dropF ?_)) (hF (by omega))
    · refine AL.go (AO.pickF rfl rfl rfl (AL.go (AO.assign rfl rfl (AL.nil (AK.seqN (AC.ret ?_))))))
      first | exact AK.ret (L' := L) (F' := F) Tryd.results43 rfl (by repeat (first | exact Sub.refl _ _ | refine Sub.trans Sub.dropF ?_)) (hT (Or.inl c5)) | exact AK.ret (L' := L) (F' := F) Tryd.results43 rfl (by repeat (first | exact Sub.refl _ _ | refine Sub.trans Sub.dropF ?_)) (hT (Or.inr c10)) | exact AK.ret (L' := L) (F' := F) Tryd.results43 rfl (by repeat (first | exact Sub.refl _ _ | refine Sub.trans Sub.dropF ?_)) (hF (by omega))
theorem elems_c (l : List Ty) (t : Ty) (hk : kidsP l t) {a1 a2 a3 : Option Addr} {k1 c1 k2 c2 k3 c3 : Nat} (m1 : fW t a1 k1 c1 ∈ F) (m2 : fK t a2 k2 c2 ∈ F) (m3 : fL l a3 k3 c3 ∈ F)
    (hT : elemsP l t ∧ t.name = [] → R (.bool true) L F) (hF : ¬(elemsP l t ∧ t.name = []) → R (.bool false) L F) : ACalls Tryd.prog W0 46 #[.slice a3 k3 c3, vTy t a1 k1 c1 a2 k2 c2] L F R := by
  refine ACalls.body Tryd.func46 rfl Tryd.ntmps46 rfl ?_
  refine AC.seq (AC.region (AL.go (AO.box rfl rfl (fun b3 => ?_))))
  refine AL.go (AO.assign rfl rfl (AL.nil (AK.seqN (AC.seq (AC.seq (AC.region ?_))))))
  refine AL.go (AO.field rfl rfl ?_)
  refine AL.go (AO.loadB rfl rfl ?_)
  refine AL.go (AO.neqS rfl rfl rfl (fun c12 => ?_) (fun c12 => ?_))
  · refine AL.go (AO.move rfl rfl (AL.no rfl rfl rfl rfl (AL.no rfl rfl rfl rfl (AL.no rfl rfl rfl rfl (AL.go (AO.pickT rfl rfl rfl (AL.go (AO.move rfl rfl ?_))))))))
    refine AL.no rfl rfl rfl rfl (AL.no rfl rfl rfl rfl (AL.no rfl rfl rfl rfl (AL.go (AO.pickT rfl rfl rfl (AL.go (AO.move rfl rfl (AL.no rfl rfl rfl rfl ?_)))))))
    refine AL.no rfl rfl rfl rfl (AL.no rfl rfl rfl rfl (AL.no rfl rfl rfl rfl (AL.no rfl rfl rfl rfl (AL.no rfl rfl rfl rfl (AL.no rfl rfl rfl rfl ?_)))))
    refine AL.go (AO.pickT rfl rfl rfl (AL.nil (AK.seqN (AC.condT rfl (AC.seq (AC.region ?_))))))
    refine AL.go (AO.assign rfl rfl (AL.nil (AK.seqN (AC.ret (AK.seqR ?_)))))
    first | refine AK.ret (L' := L) (F' := F) Tryd.results46 rfl (by repeat (first | exact Sub.refl _ _ | refine Sub.trans Sub.drop ?_ | refine Sub.trans Sub.dropF ?_)) (hT ?_) | refine AK.ret (L' := L) (F' := F) Tryd.results46 rfl (by repeat (first | exact Sub.refl _ _ | refine Sub.trans Sub.drop ?_ | refine Sub.trans Sub.dropF ?_)) (hF ?_)
    first
    | exact ⟨⟨by omega, c16, c21, fun i hi => hok i hi (by omega)⟩, c12⟩
    | exact fun e => c12 e.2
    | exact fun e => absurd e.1.2.1 (by omega)
    | exact fun e => absurd e.1.2.2.1 (by omega)
    | exact fun e => c30 (by rw [e.1.1])
    | (intro e
       have he := e.1.2.2.2 q hql
       unfold elemAtP at he
       rw [hK, hKid, hKidP, hPrev] at he
       rcases he with ⟨h1, h2, h3, h4, h5, h6⟩ | ⟨h1, h2, h3, h4⟩
       first | exact c58 h1 | exact h3 c88 | exact h4 c93 | exact h5 c101 | (have := h6 (by omega) c63; omega) | omega
       first | exact h1 c58 | exact absurd h2 (by rw [c105]; decide) | exact (h4 (by omega)).1 c109 | exact c119 h3 | exact absurd c114 (by rw [bytes_asym _ _ (h4 (by omega)).2]; decide) | (rw [leq_nil c114] at h2; exact absurd h2 (by decide)) | omega)
  · refine AL.go (AO.move rfl rfl (AL.yes rfl rfl (AO.field rfl rfl ?_)))
    refine AL.yes rfl rfl (AO.loadB rfl rfl ?_)
    refine AL.yes rfl rfl (AO.lss rfl rfl rfl (fun c16 => ?_) (fun c16 => ?_))
    · refine AL.go (AO.pickF rfl rfl rfl (AL.go (AO.move rfl rfl (AL.no rfl rfl rfl rfl (AL.no rfl rfl rfl rfl (AL.no rfl rfl rfl rfl (AL.go (AO.pickT rfl rfl rfl ?_))))))))
      refine AL.go (AO.move rfl rfl (AL.no rfl rfl rfl rfl (AL.no rfl rfl rfl rfl (AL.no rfl rfl rfl rfl (AL.no rfl rfl rfl rfl (AL.no rfl rfl rfl rfl ?_))))))
      refine AL.no rfl rfl rfl rfl (AL.no rfl rfl rfl rfl (AL.go (AO.pickT rfl rfl rfl (AL.nil (AK.seqN (AC.condT rfl ?_))))))
      refine AC.seq (AC.region (AL.go (AO.assign rfl rfl (AL.nil (AK.seqN (AC.ret ?_))))))
      refine AK.seqR ?_
      first | refine AK.ret (L' := L) (F' := F) Tryd.results46 rfl (by repeat (first | exact Sub.refl _ _ | refine Sub.trans Sub.drop ?_ | refine Sub.trans Sub.dropF ?_)) (hT ?_) | refine AK.ret (L' := L) (F' := F) Tryd.results46 rfl (by repeat (first | exact Sub.refl _ _ | refine Sub.trans Sub.drop ?_ | refine Sub.trans Sub.dropF ?_)) (hF ?_)
      first
      | exact ⟨⟨by omega, c16, c21, fun i hi => hok i hi (by omega)⟩, c12⟩
      | exact fun e => c12 e.2
      | exact fun e => absurd e.1.2.1 (by omega)
      | exact fun e => absurd e.1.2.2.1 (by omega)
      | exact fun e => c30 (by rw [e.1.1])
      | (intro e
         have he := e.1.2.2.2 q hql
         unfold elemAtP at he
         rw [hK, hKid, hKidP, hPrev] at he
         rcases he with ⟨h1, h2, h3, h4, h5, h6⟩ | ⟨h1, h2, h3, h4⟩
         first | exact c58 h1 | exact h3 c88 | exact h4 c93 | exact h5 c101 | (have := h6 (by omega) c63; omega) | omega
         first | exact h1 c58 | exact absurd h2 (by rw [c105]; decide) | exact (h4 (by omega)).1 c109 | exact c119 h3 | exact absurd c114 (by rw [bytes_asym _ _ (h4 (by omega)).2]; decide) | (rw [leq_nil c114] at h2; exact absurd h2 (by decide)) | omega)
    · refine AL.go (AO.pickF rfl rfl rfl (AL.go (AO.move rfl rfl (AL.yes rfl rfl (AO.field rfl rfl ?_)))))
      refine AL.yes rfl rfl (AO.loadB rfl rfl ?_)
      refine AL.yes rfl rfl (AO.gtr rfl rfl rfl (fun c21 => ?_) (fun c21 => ?_))
      · refine AL.go (AO.pickF rfl rfl rfl (AL.go (AO.move rfl rfl (AL.no rfl rfl rfl rfl (AL.no rfl rfl rfl rfl (AL.no rfl rfl rfl rfl (AL.no rfl rfl rfl rfl ?_)))))))
        refine AL.no rfl rfl rfl rfl (AL.no rfl rfl rfl rfl (AL.no rfl rfl rfl rfl (AL.go (AO.pickT rfl rfl rfl (AL.nil (AK.seqN ?_))))))
        refine AC.condT rfl (AC.seq (AC.region (AL.go (AO.assign rfl rfl (AL.nil (AK.seqN ?_))))))
        refine AC.ret (AK.seqR ?_)
        first | refine AK.ret (L' := L) (F' := F) Tryd.results46 rfl (by repeat (first | exact Sub.refl _ _ | refine Sub.trans Sub.drop ?_ | refine Sub.trans Sub.dropF ?_)) (hT ?_) | refine AK.ret (L' := L) (F' := F) Tryd.results46 rfl (by repeat (first | exact Sub.refl _ _ | refine Sub.trans Sub.drop ?_ | refine Sub.trans Sub.dropF ?_)) (hF ?_)
        first
        | exact ⟨⟨by omega, c16, c21, fun i hi => hok i hi (by omega)⟩, c12⟩
        | exact fun e => c12 e.2
        | exact fun e => absurd e.1.2.1 (by omega)
        | exact fun e => absurd e.1.2.2.1 (by omega)
        | exact fun e => c30 (by rw [e.1.1])
        | (intro e
           have he := e.1.2.2.2 q hql
           unfold elemAtP at he
           rw [hK, hKid, hKidP, hPrev] at he
           rcases he with ⟨h1, h2, h3, h4, h5, h6⟩ | ⟨h1, h2, h3, h4⟩
           first | exact c58 h1 | exact h3 c88 | exact h4 c93 | exact h5 c101 | (have := h6 (by omega) c63; omega) | omega
           first | exact h1 c58 | exact absurd h2 (by rw [c105]; decide) | exact (h4 (by omega)).1 c109 | exact c119 h3 | exact absurd c114 (by rw [bytes_asym _ _ (h4 (by omega)).2]; decide) | (rw [leq_nil c114] at h2; exact absurd h2 (by decide)) | omega)
      · refine AL.go (AO.pickF rfl rfl rfl (AL.go (AO.move rfl rfl (AL.yes rfl rfl (AO.field rfl rfl ?_)))))
        refine AL.yes rfl rfl (AO.loadB rfl rfl ?_)
        refine AL.yes rfl rfl (AO.len rfl rfl (fun hl26 => ?_) (hm := by repeat (first | exact mem0 | assumption | refine memS ?_)))
        refine AL.yes rfl rfl (AO.field rfl rfl ?_)
        refine AL.yes rfl rfl (AO.loadB rfl rfl ?_)
        refine AL.yes rfl rfl (AO.len rfl rfl (fun hl29 => ?_) (hm := by repeat (first | exact mem0 | assumption | refine memS ?_)))
        refine AL.yes rfl rfl (AO.neq rfl rfl rfl (fun c30 => ?_) (fun c30 => ?_))
        · refine AL.go (AO.pickF rfl rfl rfl (AL.nil (AK.seqN (AC.condT rfl (AC.seq (AC.region ?_))))))
          refine AL.go (AO.assign rfl rfl (AL.nil (AK.seqN (AC.ret (AK.seqR ?_)))))
          first | refine AK.ret (L' := L) (F' := F) Tryd.results46 rfl (by repeat (first | exact Sub.refl _ _ | refine Sub.trans Sub.drop ?_ | refine Sub.trans Sub.dropF ?_)) (hT ?_) | refine AK.ret (L' := L) (F' := F) Tryd.results46 rfl (by repeat (first | exact Sub.refl _ _ | refine Sub.trans Sub.drop ?_ | refine Sub.trans Sub.dropF ?_)) (hF ?_)
          first
          | exact ⟨⟨by omega, c16, c21, fun i hi => hok i hi (by omega)⟩, c12⟩
          | exact fun e => c12 e.2
          | exact fun e => absurd e.1.2.1 (by omega)
          | exact fun e => absurd e.1.2.2.1 (by omega)
          | exact fun e => c30 (by rw [e.1.1])
          | (intro e
             have he := e.1.2.2.2 q hql
             unfold elemAtP at he
             rw [hK, hKid, hKidP, hPrev] at he
             rcases he with ⟨h1, h2, h3, h4, h5, h6⟩ | ⟨h1, h2, h3, h4⟩
             first | exact c58 h1 | exact h3 c88 | exact h4 c93 | exact h5 c101 | (have := h6 (by omega) c63; omega) | omega
             first | exact h1 c58 | exact absurd h2 (by rw [c105]; decide) | exact (h4 (by omega)).1 c109 | exact c119 h3 | exact absurd c114 (by rw [bytes_asym _ _ (h4 (by omega)).2]; decide) | (rw [leq_nil c114] at h2; exact absurd h2 (by decide)) | omega)
        · refine AL.go (AO.pickF rfl rfl rfl (AL.nil (AK.seqN (AC.condF rfl (AC.skip (AK.seqN ?_))))))
          refine AC.seq (AC.seq (AC.region (AL.go (AO.field rfl rfl ?_))))
          refine AL.go (AO.loadB rfl rfl ?_)
          refine AL.go (AO.len rfl rfl (fun hl34 => ?_) (hm := by repeat (first | exact mem0 | assumption | refine memS ?_)))
          refine AL.go (AO.move rfl rfl (AL.nil (AK.seqN (AC.block ?_))))
          refine AC.loopC (fun (q : Nat) => q ≤ t.words.length ∧ ∀ j (hj : j < t.words.length), j < q → elemAtP l t j hj) (fun q => [(0, .slice a3 k3 c3), (3, .pointer (some ⟨b3, 0, none⟩)), (33, .slice a1 k1 c1), (34, .int .i64 t.words.length), (35, .int .i64 (q : Int))]) (fun q => t.words.length - q) 0 ⟨by omega, by omega⟩ (by repeat (first | exact SubR.nil | refine SubR.cons rfl ?_)) ?_
          rintro q ⟨hq, hok⟩
          refine AC.seq (AC.region ?_)
          refine AL.go (AO.lss rfl rfl rfl (fun c36 => ?_) (fun c36 => ?_))
          · refine AL.nil (AK.seqN (AC.seq (AC.condT rfl (AC.skip (AK.seqN ?_)))))
            refine AC.seq (AC.block (AC.seq (AC.region (AL.go (AO.move rfl rfl ?_)))))
            have hql : q < t.words.length := by omega
            have hqk : q < t.kids.length := by omega
            obtain ⟨hkn, hkl⟩ := kid_nat hk hqk
            refine AL.go (AO.indexAddr rfl rfl rfl rfl (by repeat (first | exact mem0 | assumption | refine memS ?_)) hql (fun _ _ => ?_))
            refine AL.go (AO.loadF rfl rfl ?_)
            intros
            refine AL.go (AO.assign rfl rfl (AL.go (AO.assign rfl rfl (AL.nil (AK.seqN (AC.seq (AC.region ?_)))))))
            refine AL.go (AO.move rfl rfl (AL.go (AO.field rfl rfl ?_)))
            refine AL.go (AO.loadB rfl rfl ?_)
            refine AL.go (AO.move rfl rfl ?_)
            refine AL.go (AO.indexAddr rfl rfl rfl rfl (by repeat (first | exact mem0 | assumption | refine memS ?_)) hqk (fun _ _ => ?_))
            refine AL.go (AO.loadF rfl rfl ?_)
            intros
            have hKid := kid_get hqk
            have hK : kindAt l (kidAt t q) = l[t.kids[q].toNat].kind := by rw [hKid]; exact kind_get hkn hkl
            have hKidP := kid_get (t := t) (i := q - 1) (by omega)
            have hPrev := word_get (ws := t.words) (i := q - 1) (by omega)
            refine AL.go (AO.indexAddr (k := t.kids[q].toNat) rfl rfl rfl hkn (by repeat (first | exact mem0 | assumption | refine memS ?_)) hkl (fun _ _ => ?_))
            refine AL.go (AO.loadFA rfl rfl ?_)
            intro a47 k47 z47 d47 e47 f47
            refine AL.go (AO.alloc rfl (fun b7 => ?_))
            refine AL.go (AO.storeBA rfl rfl rfl rfl ?_)
            refine AL.nil (AK.seqN (AC.seq (AC.region (AL.go (AO.assign rfl rfl (AL.nil ?_))))))
            refine AK.seqN (AC.seq (AC.seq (AC.region (AL.go (AO.move rfl rfl ?_)))))
            refine AL.go (AO.gtr rfl rfl rfl (fun c49 => ?_) (fun c49 => ?_))
            · refine AL.nil (AK.seqN (AC.condT rfl (AC.region (AL.go (AO.field rfl rfl ?_)))))
              refine AL.go (AO.loadB rfl rfl ?_)
              refine AL.go (AO.move rfl rfl (AL.go (AO.sub rfl rfl rfl (by omega) (by omega) ?_)))
              refine AL.go (AO.indexAddr (k := q - 1) rfl rfl rfl (by omega) (by repeat (first | exact mem0 | assumption | refine memS ?_)) (by omega) (fun _ _ => ?_))
              refine AL.go (AO.loadF rfl rfl ?_)
              intros
              refine AL.go (AO.assign rfl rfl (AL.nil (AK.seqN (AC.block (AC.seq (AC.region ?_))))))
              refine AL.go (AO.move rfl rfl ?_)
              refine AL.go (AO.call rfl rfl (pmark_c t.words[q] (fun c58 => ?_) (fun c58 => ?_)))
              · refine AL.go (AO.assign rfl rfl (AL.nil (AK.seqN (AC.condT rfl (AC.seq ?_)))))
                refine AC.draw (fun _ => false) [(b3, _, _)] (by repeat (first | exact BxIn.nil | refine BxIn.cons (by repeat (first | exact has0 | assumption | apply hasS)) ?_)) rfl (fun hx hX => ?_)
                have hkk := (len_of_fact (hX (fK t a2 k2 c2) (by repeat (first | exact m2 | refine memS ?_)))).1
                obtain ⟨p2, o2, rfl, atq⟩ := row_of_fact (hX (fK t a2 k2 c2) (by repeat (first | exact m2 | refine memS ?_))) hqk
                obtain ⟨vq, hvq, hcq⟩ := atq 0 _ rfl
                cases hcq
                refine AH.takeW (i := 0) rfl (Y.move rfl) (by kernel_rfl) rfl rfl ?_
                refine AH.takeB (i := 1) rfl (Y.gtr rfl rfl) (by kernel_rfl) rfl rfl (fun c60 => ?_) (fun c60 => absurd (of_decide_eq_false c60) (by omega))
                refine AH.takeW (i := 2) rfl (Y.move rfl) (by kernel_rfl) rfl rfl ?_
                refine AH.takeW (i := 3) rfl (Y.move rfl) (by kernel_rfl) rfl rfl ?_
                refine AH.one (i := 4) (by kernel_rfl) rfl rfl (fun _ => ?_)
                refine AO.call rfl rfl (pmark_c t.words[q - 1] (fun c63 => ?_) (fun c63 => ?_))
                all_goals refine AT.held (by repeat (first | exact BxIn.nil | refine BxIn.cons (by repeat (first | exact has0 | assumption | apply hasS)) ?_)) (by repeat (first | exact mem0 | refine memS ?_)) ?_
                · refine AH.takeW (i := 5) rfl (Y.pickT rfl rfl) (by kernel_rfl) rfl rfl ?_
                  refine AH.takeW (i := 6) rfl (Y.move rfl) (by kernel_rfl) rfl rfl ?_
                  refine AH.takeW (i := 7) rfl (Y.field rfl) (by kernel_rfl) rfl rfl ?_
                  refine AH.takeS (i := 8) rfl (Y.loadB rfl (by repeat (first | exact List.Mem.head _ | refine List.Mem.tail _ ?_)) (by rfl)) (by kernel_rfl) (by kernel_rfl) rfl rfl rfl ?_
                  refine AH.takeW (i := 9) rfl (Y.move rfl) (by kernel_rfl) rfl rfl ?_
                  refine AH.takeW (i := 10) rfl (Y.sub rfl rfl (by omega) (by omega)) (by kernel_rfl) rfl rfl ?_
                  obtain ⟨p3, o3, e3, atp⟩ := row_of_fact (i := q - 1) (hX (fK t (some ⟨p2, o2, none⟩) k2 c2) (by repeat (first | exact m2 | refine memS ?_))) (by omega)
                  cases e3
                  obtain ⟨vp, hvp, hcp⟩ := atp 0 _ rfl
                  cases hcp
                  refine AH.takeW (i := 11) rfl (Y.indexAddr (k := q - 1) rfl rfl (by omega) (by omega)) (by kernel_rfl) rfl rfl ?_
                  refine AH.takeS (i := 12) rfl (Y.loadF rfl (by assumption)) (by kernel_rfl) (by kernel_rfl) rfl rfl rfl ?_
                  refine AH.takeW (i := 13) rfl (Y.field rfl) (by kernel_rfl) rfl rfl ?_
                  refine AH.takeS (i := 14) rfl (Y.loadB rfl (by repeat (first | exact List.Mem.head _ | refine List.Mem.tail _ ?_)) (by rfl)) (by kernel_rfl) (by kernel_rfl) rfl rfl rfl ?_
                  refine AH.takeW (i := 15) rfl (Y.move rfl) (by kernel_rfl) rfl rfl ?_
                  refine AH.takeW (i := 16) rfl (Y.indexAddr rfl rfl rfl (by omega)) (by kernel_rfl) rfl rfl ?_
                  refine AH.takeS (i := 17) rfl (Y.loadF rfl (by assumption)) (by kernel_rfl) (by kernel_rfl) rfl rfl rfl ?_
                  refine AH.takeB (i := 18) rfl (Y.geq rfl rfl) (by kernel_rfl) rfl rfl (fun c77 => ?_) (fun c77 => ?_)
                  · replace c77 := of_decide_eq_true c77
                    refine AH.takeW (i := 19) rfl (Y.pickT rfl rfl) (by kernel_rfl) rfl rfl ?_
                    refine AH.takeW (i := 20) rfl (Y.assign rfl) (by kernel_rfl) rfl rfl ?_
                    refine AH.done (by kernel_rfl) ?_
                    refine AK.seqN (AC.seq (AC.region (AL.go (AO.move rfl rfl (AL.go (AO.move rfl rfl (AL.no rfl rfl rfl rfl ?_)))))))
                    refine AL.no rfl rfl rfl rfl (AL.no rfl rfl rfl rfl (AL.go (AO.pickT rfl rfl rfl (AL.go (AO.move rfl rfl (AL.no rfl rfl rfl rfl (AL.no rfl rfl rfl rfl ?_)))))))
                    refine AL.no rfl rfl rfl rfl (AL.go (AO.pickT rfl rfl rfl (AL.go (AO.move rfl rfl (AL.no rfl rfl rfl rfl (AL.no rfl rfl rfl rfl (AL.no rfl rfl rfl rfl ?_)))))))
                    refine AL.go (AO.pickT rfl rfl rfl (AL.go (AO.move rfl rfl (AL.no rfl rfl rfl rfl (AL.no rfl rfl rfl rfl (AL.no rfl rfl rfl rfl (AL.no rfl rfl rfl rfl ?_)))))))
                    refine AL.no rfl rfl rfl rfl (AL.no rfl rfl rfl rfl (AL.go (AO.pickT rfl rfl rfl (AL.nil (AK.seqN (AC.condT rfl ?_))))))
                    refine AC.seq (AC.region (AL.go (AO.assign rfl rfl (AL.nil (AK.seqN (AC.ret ?_))))))
                    refine AK.blkR (AK.blkR (AK.seqR (AK.seqR (AK.blkR (AK.seqR ?_)))))
                    first | refine AK.ret (L' := L) (F' := F) Tryd.results46 rfl (by repeat (first | exact Sub.refl _ _ | refine Sub.trans Sub.drop ?_ | refine Sub.trans Sub.dropF ?_)) (hT ?_) | refine AK.ret (L' := L) (F' := F) Tryd.results46 rfl (by repeat (first | exact Sub.refl _ _ | refine Sub.trans Sub.drop ?_ | refine Sub.trans Sub.dropF ?_)) (hF ?_)
                    first
                    | exact ⟨⟨by omega, c16, c21, fun i hi => hok i hi (by omega)⟩, c12⟩
                    | exact fun e => c12 e.2
                    | exact fun e => absurd e.1.2.1 (by omega)
                    | exact fun e => absurd e.1.2.2.1 (by omega)
                    | exact fun e => c30 (by rw [e.1.1])
                    | (intro e
                       have he := e.1.2.2.2 q hql
                       unfold elemAtP at he
                       rw [hK, hKid, hKidP, hPrev] at he
                       rcases he with ⟨h1, h2, h3, h4, h5, h6⟩ | ⟨h1, h2, h3, h4⟩
                       first | exact c58 h1 | exact h3 c88 | exact h4 c93 | exact h5 c101 | (have := h6 (by omega) c63; omega) | omega
                       first | exact h1 c58 | exact absurd h2 (by rw [c105]; decide) | exact (h4 (by omega)).1 c109 | exact c119 h3 | exact absurd c114 (by rw [bytes_asym _ _ (h4 (by omega)).2]; decide) | (rw [leq_nil c114] at h2; exact absurd h2 (by decide)) | omega)
                  · replace c77 := of_decide_eq_false c77
                    refine AH.takeW (i := 19) rfl (Y.pickT rfl rfl) (by kernel_rfl) rfl rfl ?_
                    refine AH.takeW (i := 20) rfl (Y.assign rfl) (by kernel_rfl) rfl rfl ?_
                    refine AH.done (by kernel_rfl) ?_
                    refine AK.seqN (AC.seq (AC.region (AL.go (AO.move rfl rfl (AL.go (AO.move rfl rfl (AL.yes rfl rfl (AO.field rfl rfl ?_))))))))
                    refine AL.yes rfl rfl (AO.loadB rfl rfl ?_)
                    refine AL.yes rfl rfl (AO.lss rfl rfl rfl (fun c83 => ?_) (fun c83 => ?_))
                    · refine AL.go (AO.pickF rfl rfl rfl (AL.go (AO.move rfl rfl (AL.no rfl rfl rfl rfl (AL.no rfl rfl rfl rfl (AL.no rfl rfl rfl rfl (AL.go (AO.pickT rfl rfl rfl ?_))))))))
                      refine AL.go (AO.move rfl rfl (AL.no rfl rfl rfl rfl (AL.no rfl rfl rfl rfl (AL.no rfl rfl rfl rfl (AL.go (AO.pickT rfl rfl rfl (AL.go (AO.move rfl rfl ?_))))))))
                      refine AL.no rfl rfl rfl rfl (AL.no rfl rfl rfl rfl (AL.no rfl rfl rfl rfl (AL.no rfl rfl rfl rfl (AL.no rfl rfl rfl rfl (AL.no rfl rfl rfl rfl ?_)))))
                      refine AL.go (AO.pickT rfl rfl rfl (AL.nil (AK.seqN (AC.condT rfl (AC.seq (AC.region ?_))))))
                      refine AL.go (AO.assign rfl rfl (AL.nil (AK.seqN (AC.ret (AK.blkR (AK.blkR ?_))))))
                      refine AK.seqR (AK.seqR (AK.blkR (AK.seqR ?_)))
                      first | refine AK.ret (L' := L) (F' := F) Tryd.results46 rfl (by repeat (first | exact Sub.refl _ _ | refine Sub.trans Sub.drop ?_ | refine Sub.trans Sub.dropF ?_)) (hT ?_) | refine AK.ret (L' := L) (F' := F) Tryd.results46 rfl (by repeat (first | exact Sub.refl _ _ | refine Sub.trans Sub.drop ?_ | refine Sub.trans Sub.dropF ?_)) (hF ?_)
                      first
                      | exact ⟨⟨by omega, c16, c21, fun i hi => hok i hi (by omega)⟩, c12⟩
                      | exact fun e => c12 e.2
                      | exact fun e => absurd e.1.2.1 (by omega)
                      | exact fun e => absurd e.1.2.2.1 (by omega)
                      | exact fun e => c30 (by rw [e.1.1])
                      | (intro e
                         have he := e.1.2.2.2 q hql
                         unfold elemAtP at he
                         rw [hK, hKid, hKidP, hPrev] at he
                         rcases he with ⟨h1, h2, h3, h4, h5, h6⟩ | ⟨h1, h2, h3, h4⟩
                         first | exact c58 h1 | exact h3 c88 | exact h4 c93 | exact h5 c101 | (have := h6 (by omega) c63; omega) | omega
                         first | exact h1 c58 | exact absurd h2 (by rw [c105]; decide) | exact (h4 (by omega)).1 c109 | exact c119 h3 | exact absurd c114 (by rw [bytes_asym _ _ (h4 (by omega)).2]; decide) | (rw [leq_nil c114] at h2; exact absurd h2 (by decide)) | omega)
                    · refine AL.go (AO.pickF rfl rfl rfl (AL.go (AO.move rfl rfl (AL.yes rfl rfl (AO.field rfl rfl ?_)))))
                      refine AL.yes rfl rfl (AO.loadB rfl rfl ?_)
                      refine AL.yes rfl rfl (AO.eql rfl rfl rfl (fun c88 => ?_) (fun c88 => ?_))
                      · refine AL.go (AO.pickF rfl rfl rfl (AL.go (AO.move rfl rfl (AL.no rfl rfl rfl rfl (AL.no rfl rfl rfl rfl (AL.no rfl rfl rfl rfl (AL.go (AO.pickT rfl rfl rfl ?_))))))))
                        refine AL.go (AO.move rfl rfl (AL.no rfl rfl rfl rfl (AL.no rfl rfl rfl rfl (AL.no rfl rfl rfl rfl (AL.no rfl rfl rfl rfl (AL.no rfl rfl rfl rfl ?_))))))
                        refine AL.no rfl rfl rfl rfl (AL.go (AO.pickT rfl rfl rfl (AL.nil (AK.seqN (AC.condT rfl (AC.seq ?_))))))
                        refine AC.region (AL.go (AO.assign rfl rfl (AL.nil (AK.seqN (AC.ret (AK.blkR ?_))))))
                        refine AK.blkR (AK.seqR (AK.seqR (AK.blkR (AK.seqR ?_))))
                        first | refine AK.ret (L' := L) (F' := F) Tryd.results46 rfl (by repeat (first | exact Sub.refl _ _ | refine Sub.trans Sub.drop ?_ | refine Sub.trans Sub.dropF ?_)) (hT ?_) | refine AK.ret (L' := L) (F' := F) Tryd.results46 rfl (by repeat (first | exact Sub.refl _ _ | refine Sub.trans Sub.drop ?_ | refine Sub.trans Sub.dropF ?_)) (hF ?_)
                        first
                        | exact ⟨⟨by omega, c16, c21, fun i hi => hok i hi (by omega)⟩, c12⟩
                        | exact fun e => c12 e.2
                        | exact fun e => absurd e.1.2.1 (by omega)
                        | exact fun e => absurd e.1.2.2.1 (by omega)
                        | exact fun e => c30 (by rw [e.1.1])
                        | (intro e
                           have he := e.1.2.2.2 q hql
                           unfold elemAtP at he
                           rw [hK, hKid, hKidP, hPrev] at he
                           rcases he with ⟨h1, h2, h3, h4, h5, h6⟩ | ⟨h1, h2, h3, h4⟩
                           first | exact c58 h1 | exact h3 c88 | exact h4 c93 | exact h5 c101 | (have := h6 (by omega) c63; omega) | omega
                           first | exact h1 c58 | exact absurd h2 (by rw [c105]; decide) | exact (h4 (by omega)).1 c109 | exact c119 h3 | exact absurd c114 (by rw [bytes_asym _ _ (h4 (by omega)).2]; decide) | (rw [leq_nil c114] at h2; exact absurd h2 (by decide)) | omega)
                      · refine AL.go (AO.pickF rfl rfl rfl (AL.go (AO.move rfl rfl (AL.yes rfl rfl (AO.field rfl rfl ?_)))))
                        refine AL.yes rfl rfl (AO.loadB rfl rfl ?_)
                        refine AL.yes rfl rfl (AO.eql rfl rfl rfl (fun c93 => ?_) (fun c93 => ?_))
                        · refine AL.go (AO.pickF rfl rfl rfl (AL.go (AO.move rfl rfl (AL.no rfl rfl rfl rfl (AL.no rfl rfl rfl rfl (AL.no rfl rfl rfl rfl (AL.no rfl rfl rfl rfl ?_)))))))
                          refine AL.no rfl rfl rfl rfl (AL.no rfl rfl rfl rfl (AL.go (AO.pickT rfl rfl rfl (AL.nil (AK.seqN (AC.condT rfl ?_))))))
                          refine AC.seq (AC.region (AL.go (AO.assign rfl rfl (AL.nil (AK.seqN (AC.ret ?_))))))
                          refine AK.blkR (AK.blkR (AK.seqR (AK.seqR (AK.blkR (AK.seqR ?_)))))
                          first | refine AK.ret (L' := L) (F' := F) Tryd.results46 rfl (by repeat (first | exact Sub.refl _ _ | refine Sub.trans Sub.drop ?_ | refine Sub.trans Sub.dropF ?_)) (hT ?_) | refine AK.ret (L' := L) (F' := F) Tryd.results46 rfl (by repeat (first | exact Sub.refl _ _ | refine Sub.trans Sub.drop ?_ | refine Sub.trans Sub.dropF ?_)) (hF ?_)
                          first
                          | exact ⟨⟨by omega, c16, c21, fun i hi => hok i hi (by omega)⟩, c12⟩
                          | exact fun e => c12 e.2
                          | exact fun e => absurd e.1.2.1 (by omega)
                          | exact fun e => absurd e.1.2.2.1 (by omega)
                          | exact fun e => c30 (by rw [e.1.1])
                          | (intro e
                             have he := e.1.2.2.2 q hql
                             unfold elemAtP at he
                             rw [hK, hKid, hKidP, hPrev] at he
                             rcases he with ⟨h1, h2, h3, h4, h5, h6⟩ | ⟨h1, h2, h3, h4⟩
                             first | exact c58 h1 | exact h3 c88 | exact h4 c93 | exact h5 c101 | (have := h6 (by omega) c63; omega) | omega
                             first | exact h1 c58 | exact absurd h2 (by rw [c105]; decide) | exact (h4 (by omega)).1 c109 | exact c119 h3 | exact absurd c114 (by rw [bytes_asym _ _ (h4 (by omega)).2]; decide) | (rw [leq_nil c114] at h2; exact absurd h2 (by decide)) | omega)
                        · refine AL.go (AO.pickF rfl rfl rfl (AL.go (AO.move rfl rfl (AL.yes rfl rfl (AO.field rfl rfl ?_)))))
                          refine AL.yes rfl rfl (AO.loadB rfl rfl ?_)
                          refine AL.yes rfl rfl (AO.move rfl rfl ?_)
                          refine AL.yes rfl rfl (AO.indexAddr rfl rfl rfl rfl (by repeat (first | exact mem0 | assumption | refine memS ?_)) (by first | omega | (simp; omega)) (fun _ _ => ?_))
                          refine AL.yes rfl rfl (AO.loadF rfl rfl ?_)
                          intros
                          refine AL.yes rfl rfl (AO.call rfl rfl (untyped_c t.kids[q] (fun c101 => ?_) (fun c101 => ?_)))
                          · refine AL.go (AO.pickF rfl rfl rfl (AL.nil (AK.seqN (AC.condT rfl (AC.seq (AC.region ?_))))))
                            refine AL.go (AO.assign rfl rfl (AL.nil (AK.seqN (AC.ret (AK.blkR (AK.blkR ?_))))))
                            refine AK.seqR (AK.seqR (AK.blkR (AK.seqR ?_)))
                            first | refine AK.ret (L' := L) (F' := F) Tryd.results46 rfl (by repeat (first | exact Sub.refl _ _ | refine Sub.trans Sub.drop ?_ | refine Sub.trans Sub.dropF ?_)) (hT ?_) | refine AK.ret (L' := L) (F' := F) Tryd.results46 rfl (by repeat (first | exact Sub.refl _ _ | refine Sub.trans Sub.drop ?_ | refine Sub.trans Sub.dropF ?_)) (hF ?_)
                            first
                            | exact ⟨⟨by omega, c16, c21, fun i hi => hok i hi (by omega)⟩, c12⟩
                            | exact fun e => c12 e.2
                            | exact fun e => absurd e.1.2.1 (by omega)
                            | exact fun e => absurd e.1.2.2.1 (by omega)
                            | exact fun e => c30 (by rw [e.1.1])
                            | (intro e
                               have he := e.1.2.2.2 q hql
                               unfold elemAtP at he
                               rw [hK, hKid, hKidP, hPrev] at he
                               rcases he with ⟨h1, h2, h3, h4, h5, h6⟩ | ⟨h1, h2, h3, h4⟩
                               first | exact c58 h1 | exact h3 c88 | exact h4 c93 | exact h5 c101 | (have := h6 (by omega) c63; omega) | omega
                               first | exact h1 c58 | exact absurd h2 (by rw [c105]; decide) | exact (h4 (by omega)).1 c109 | exact c119 h3 | exact absurd c114 (by rw [bytes_asym _ _ (h4 (by omega)).2]; decide) | (rw [leq_nil c114] at h2; exact absurd h2 (by decide)) | omega)
                          · refine AL.go (AO.pickF rfl rfl rfl (AL.nil (AK.seqN (AC.condF rfl (AC.skip (AK.blkN ?_))))))
                            refine AK.blkN (AK.seqN (AC.region (AL.go (AO.add rfl rfl rfl (by omega) (by omega) (AL.go (AO.move rfl rfl (AL.nil ?_)))))))
                            refine AK.next (q + 1) ⟨by omega, ?_⟩ (by omega) (by repeat (first | exact SubR.nil | refine SubR.cons rfl ?_)) (Sub.drop.trans (by repeat (first | exact Sub.refl _ _ | refine Sub.trans Sub.dropF ?_)))
                            intro j hj hjq
                            rcases Nat.lt_succ_iff_lt_or_eq.1 hjq with k9 | rfl
                            · exact hok j hj k9
                            · unfold elemAtP
                              rw [hK, hKid, hKidP, hPrev]
                              first
                              | exact Or.inl ⟨c58, c83, c88, c93, c101, fun _ _ => Int.not_le.1 c77⟩
                              | exact Or.inl ⟨c58, c83, c88, c93, c101, fun _ h1 => absurd h1 c63⟩
                              | exact Or.inl ⟨c58, c83, c88, c93, c101, fun h0 _ => absurd h0 (by omega)⟩
                              | exact Or.inr ⟨c58, c105, c119, fun _ => ⟨c109, bytes_tri _ _ c114⟩⟩
                              | exact Or.inr ⟨c58, c105, c119, fun h0 => absurd h0 (by omega)⟩
                · refine AH.takeW (i := 5) rfl (Y.pickT rfl rfl) (by kernel_rfl) rfl rfl ?_
                  refine AH.takeW (i := 6) rfl (Y.move rfl) (by kernel_rfl) rfl rfl ?_
                  refine AH.skip (i := 7) rfl (by kernel_rfl) rfl rfl ?_
                  refine AH.skip (i := 8) rfl (by kernel_rfl) rfl rfl ?_
                  refine AH.skip (i := 9) rfl (by kernel_rfl) rfl rfl ?_
                  refine AH.skip (i := 10) rfl (by kernel_rfl) rfl rfl ?_
                  refine AH.skip (i := 11) rfl (by kernel_rfl) rfl rfl ?_
                  refine AH.skip (i := 12) rfl (by kernel_rfl) rfl rfl ?_
                  refine AH.skip (i := 13) rfl (by kernel_rfl) rfl rfl ?_
                  refine AH.skip (i := 14) rfl (by kernel_rfl) rfl rfl ?_
                  refine AH.skip (i := 15) rfl (by kernel_rfl) rfl rfl ?_
                  refine AH.skip (i := 16) rfl (by kernel_rfl) rfl rfl ?_
                  refine AH.skip (i := 17) rfl (by kernel_rfl) rfl rfl ?_
                  refine AH.skip (i := 18) rfl (by kernel_rfl) rfl rfl ?_
                  refine AH.takeW (i := 19) rfl (Y.pickF rfl rfl) (by kernel_rfl) rfl rfl ?_
                  refine AH.takeW (i := 20) rfl (Y.assign rfl) (by kernel_rfl) rfl rfl ?_
                  refine AH.done (by kernel_rfl) ?_
                  refine AK.seqN (AC.seq (AC.region (AL.go (AO.move rfl rfl (AL.go (AO.move rfl rfl (AL.yes rfl rfl (AO.field rfl rfl ?_))))))))
                  refine AL.yes rfl rfl (AO.loadB rfl rfl ?_)
                  refine AL.yes rfl rfl (AO.lss rfl rfl rfl (fun c83 => ?_) (fun c83 => ?_))
                  · refine AL.go (AO.pickF rfl rfl rfl (AL.go (AO.move rfl rfl (AL.no rfl rfl rfl rfl (AL.no rfl rfl rfl rfl (AL.no rfl rfl rfl rfl (AL.go (AO.pickT rfl rfl rfl ?_))))))))
                    refine AL.go (AO.move rfl rfl (AL.no rfl rfl rfl rfl (AL.no rfl rfl rfl rfl (AL.no rfl rfl rfl rfl (AL.go (AO.pickT rfl rfl rfl (AL.go (AO.move rfl rfl ?_))))))))
                    refine AL.no rfl rfl rfl rfl (AL.no rfl rfl rfl rfl (AL.no rfl rfl rfl rfl (AL.no rfl rfl rfl rfl (AL.no rfl rfl rfl rfl (AL.no rfl rfl rfl rfl ?_)))))
                    refine AL.go (AO.pickT rfl rfl rfl (AL.nil (AK.seqN (AC.condT rfl (AC.seq (AC.region ?_))))))
                    refine AL.go (AO.assign rfl rfl (AL.nil (AK.seqN (AC.ret (AK.blkR (AK.blkR ?_))))))
                    refine AK.seqR (AK.seqR (AK.blkR (AK.seqR ?_)))
                    first | refine AK.ret (L' := L) (F' := F) Tryd.results46 rfl (by repeat (first | exact Sub.refl _ _ | refine Sub.trans Sub.drop ?_ | refine Sub.trans Sub.dropF ?_)) (hT ?_) | refine AK.ret (L' := L) (F' := F) Tryd.results46 rfl (by repeat (first | exact Sub.refl _ _ | refine Sub.trans Sub.drop ?_ | refine Sub.trans Sub.dropF ?_)) (hF ?_)
                    first
                    | exact ⟨⟨by omega, c16, c21, fun i hi => hok i hi (by omega)⟩, c12⟩
                    | exact fun e => c12 e.2
                    | exact fun e => absurd e.1.2.1 (by omega)
                    | exact fun e => absurd e.1.2.2.1 (by omega)
                    | exact fun e => c30 (by rw [e.1.1])
                    | (intro e
                       have he := e.1.2.2.2 q hql
                       unfold elemAtP at he
                       rw [hK, hKid, hKidP, hPrev] at he
                       rcases he with ⟨h1, h2, h3, h4, h5, h6⟩ | ⟨h1, h2, h3, h4⟩
                       first | exact c58 h1 | exact h3 c88 | exact h4 c93 | exact h5 c101 | (have := h6 (by omega) c63; omega) | omega
                       first | exact h1 c58 | exact absurd h2 (by rw [c105]; decide) | exact (h4 (by omega)).1 c109 | exact c119 h3 | exact absurd c114 (by rw [bytes_asym _ _ (h4 (by omega)).2]; decide) | (rw [leq_nil c114] at h2; exact absurd h2 (by decide)) | omega)
                  · refine AL.go (AO.pickF rfl rfl rfl (AL.go (AO.move rfl rfl (AL.yes rfl rfl (AO.field rfl rfl ?_)))))
                    refine AL.yes rfl rfl (AO.loadB rfl rfl ?_)
                    refine AL.yes rfl rfl (AO.eql rfl rfl rfl (fun c88 => ?_) (fun c88 => ?_))
                    · refine AL.go (AO.pickF rfl rfl rfl (AL.go (AO.move rfl rfl (AL.no rfl rfl rfl rfl (AL.no rfl rfl rfl rfl (AL.no rfl rfl rfl rfl (AL.go (AO.pickT rfl rfl rfl ?_))))))))
                      refine AL.go (AO.move rfl rfl (AL.no rfl rfl rfl rfl (AL.no rfl rfl rfl rfl (AL.no rfl rfl rfl rfl (AL.no rfl rfl rfl rfl (AL.no rfl rfl rfl rfl ?_))))))
                      refine AL.no rfl rfl rfl rfl (AL.go (AO.pickT rfl rfl rfl (AL.nil (AK.seqN (AC.condT rfl (AC.seq ?_))))))
                      refine AC.region (AL.go (AO.assign rfl rfl (AL.nil (AK.seqN (AC.ret (AK.blkR ?_))))))
                      refine AK.blkR (AK.seqR (AK.seqR (AK.blkR (AK.seqR ?_))))
                      first | refine AK.ret (L' := L) (F' := F) Tryd.results46 rfl (by repeat (first | exact Sub.refl _ _ | refine Sub.trans Sub.drop ?_ | refine Sub.trans Sub.dropF ?_)) (hT ?_) | refine AK.ret (L' := L) (F' := F) Tryd.results46 rfl (by repeat (first | exact Sub.refl _ _ | refine Sub.trans Sub.drop ?_ | refine Sub.trans Sub.dropF ?_)) (hF ?_)
                      first
                      | exact ⟨⟨by omega, c16, c21, fun i hi => hok i hi (by omega)⟩, c12⟩
                      | exact fun e => c12 e.2
                      | exact fun e => absurd e.1.2.1 (by omega)
                      | exact fun e => absurd e.1.2.2.1 (by omega)
                      | exact fun e => c30 (by rw [e.1.1])
                      | (intro e
                         have he := e.1.2.2.2 q hql
                         unfold elemAtP at he
                         rw [hK, hKid, hKidP, hPrev] at he
                         rcases he with ⟨h1, h2, h3, h4, h5, h6⟩ | ⟨h1, h2, h3, h4⟩
                         first | exact c58 h1 | exact h3 c88 | exact h4 c93 | exact h5 c101 | (have := h6 (by omega) c63; omega) | omega
                         first | exact h1 c58 | exact absurd h2 (by rw [c105]; decide) | exact (h4 (by omega)).1 c109 | exact c119 h3 | exact absurd c114 (by rw [bytes_asym _ _ (h4 (by omega)).2]; decide) | (rw [leq_nil c114] at h2; exact absurd h2 (by decide)) | omega)
                    · refine AL.go (AO.pickF rfl rfl rfl (AL.go (AO.move rfl rfl (AL.yes rfl rfl (AO.field rfl rfl ?_)))))
                      refine AL.yes rfl rfl (AO.loadB rfl rfl ?_)
                      refine AL.yes rfl rfl (AO.eql rfl rfl rfl (fun c93 => ?_) (fun c93 => ?_))
                      · refine AL.go (AO.pickF rfl rfl rfl (AL.go (AO.move rfl rfl (AL.no rfl rfl rfl rfl (AL.no rfl rfl rfl rfl (AL.no rfl rfl rfl rfl (AL.no rfl rfl rfl rfl ?_)))))))
                        refine AL.no rfl rfl rfl rfl (AL.no rfl rfl rfl rfl (AL.go (AO.pickT rfl rfl rfl (AL.nil (AK.seqN (AC.condT rfl ?_))))))
                        refine AC.seq (AC.region (AL.go (AO.assign rfl rfl (AL.nil (AK.seqN (AC.ret ?_))))))
                        refine AK.blkR (AK.blkR (AK.seqR (AK.seqR (AK.blkR (AK.seqR ?_)))))
                        first | refine AK.ret (L' := L) (F' := F) Tryd.results46 rfl (by repeat (first | exact Sub.refl _ _ | refine Sub.trans Sub.drop ?_ | refine Sub.trans Sub.dropF ?_)) (hT ?_) | refine AK.ret (L' := L) (F' := F) Tryd.results46 rfl (by repeat (first | exact Sub.refl _ _ | refine Sub.trans Sub.drop ?_ | refine Sub.trans Sub.dropF ?_)) (hF ?_)
                        first
                        | exact ⟨⟨by omega, c16, c21, fun i hi => hok i hi (by omega)⟩, c12⟩
                        | exact fun e => c12 e.2
                        | exact fun e => absurd e.1.2.1 (by omega)
                        | exact fun e => absurd e.1.2.2.1 (by omega)
                        | exact fun e => c30 (by rw [e.1.1])
                        | (intro e
                           have he := e.1.2.2.2 q hql
                           unfold elemAtP at he
                           rw [hK, hKid, hKidP, hPrev] at he
                           rcases he with ⟨h1, h2, h3, h4, h5, h6⟩ | ⟨h1, h2, h3, h4⟩
                           first | exact c58 h1 | exact h3 c88 | exact h4 c93 | exact h5 c101 | (have := h6 (by omega) c63; omega) | omega
                           first | exact h1 c58 | exact absurd h2 (by rw [c105]; decide) | exact (h4 (by omega)).1 c109 | exact c119 h3 | exact absurd c114 (by rw [bytes_asym _ _ (h4 (by omega)).2]; decide) | (rw [leq_nil c114] at h2; exact absurd h2 (by decide)) | omega)
                      · refine AL.go (AO.pickF rfl rfl rfl (AL.go (AO.move rfl rfl (AL.yes rfl rfl (AO.field rfl rfl ?_)))))
                        refine AL.yes rfl rfl (AO.loadB rfl rfl ?_)
                        refine AL.yes rfl rfl (AO.move rfl rfl ?_)
                        refine AL.yes rfl rfl (AO.indexAddr rfl rfl rfl rfl (by repeat (first | exact mem0 | assumption | refine memS ?_)) (by first | omega | (simp; omega)) (fun _ _ => ?_))
                        refine AL.yes rfl rfl (AO.loadF rfl rfl ?_)
                        intros
                        refine AL.yes rfl rfl (AO.call rfl rfl (untyped_c t.kids[q] (fun c101 => ?_) (fun c101 => ?_)))
                        · refine AL.go (AO.pickF rfl rfl rfl (AL.nil (AK.seqN (AC.condT rfl (AC.seq (AC.region ?_))))))
                          refine AL.go (AO.assign rfl rfl (AL.nil (AK.seqN (AC.ret (AK.blkR (AK.blkR ?_))))))
                          refine AK.seqR (AK.seqR (AK.blkR (AK.seqR ?_)))
                          first | refine AK.ret (L' := L) (F' := F) Tryd.results46 rfl (by repeat (first | exact Sub.refl _ _ | refine Sub.trans Sub.drop ?_ | refine Sub.trans Sub.dropF ?_)) (hT ?_) | refine AK.ret (L' := L) (F' := F) Tryd.results46 rfl (by repeat (first | exact Sub.refl _ _ | refine Sub.trans Sub.drop ?_ | refine Sub.trans Sub.dropF ?_)) (hF ?_)
                          first
                          | exact ⟨⟨by omega, c16, c21, fun i hi => hok i hi (by omega)⟩, c12⟩
                          | exact fun e => c12 e.2
                          | exact fun e => absurd e.1.2.1 (by omega)
                          | exact fun e => absurd e.1.2.2.1 (by omega)
                          | exact fun e => c30 (by rw [e.1.1])
                          | (intro e
                             have he := e.1.2.2.2 q hql
                             unfold elemAtP at he
                             rw [hK, hKid, hKidP, hPrev] at he
                             rcases he with ⟨h1, h2, h3, h4, h5, h6⟩ | ⟨h1, h2, h3, h4⟩
                             first | exact c58 h1 | exact h3 c88 | exact h4 c93 | exact h5 c101 | (have := h6 (by omega) c63; omega) | omega
                             first | exact h1 c58 | exact absurd h2 (by rw [c105]; decide) | exact (h4 (by omega)).1 c109 | exact c119 h3 | exact absurd c114 (by rw [bytes_asym _ _ (h4 (by omega)).2]; decide) | (rw [leq_nil c114] at h2; exact absurd h2 (by decide)) | omega)
                        · refine AL.go (AO.pickF rfl rfl rfl (AL.nil (AK.seqN (AC.condF rfl (AC.skip (AK.blkN ?_))))))
                          refine AK.blkN (AK.seqN (AC.region (AL.go (AO.add rfl rfl rfl (by omega) (by omega) (AL.go (AO.move rfl rfl (AL.nil ?_)))))))
                          refine AK.next (q + 1) ⟨by omega, ?_⟩ (by omega) (by repeat (first | exact SubR.nil | refine SubR.cons rfl ?_)) (Sub.drop.trans (by repeat (first | exact Sub.refl _ _ | refine Sub.trans Sub.dropF ?_)))
                          intro j hj hjq
                          rcases Nat.lt_succ_iff_lt_or_eq.1 hjq with k9 | rfl
                          · exact hok j hj k9
                          · unfold elemAtP
                            rw [hK, hKid, hKidP, hPrev]
                            first
                            | exact Or.inl ⟨c58, c83, c88, c93, c101, fun _ _ => Int.not_le.1 c77⟩
                            | exact Or.inl ⟨c58, c83, c88, c93, c101, fun _ h1 => absurd h1 c63⟩
                            | exact Or.inl ⟨c58, c83, c88, c93, c101, fun h0 _ => absurd h0 (by omega)⟩
                            | exact Or.inr ⟨c58, c105, c119, fun _ => ⟨c109, bytes_tri _ _ c114⟩⟩
                            | exact Or.inr ⟨c58, c105, c119, fun h0 => absurd h0 (by omega)⟩
              · refine AL.go (AO.assign rfl rfl (AL.nil (AK.seqN (AC.condF rfl (AC.seq (AC.region ?_))))))
                refine AL.go (AO.move rfl rfl ?_)
                refine AL.go (AO.call rfl rfl (src_Name_c t.words[q] (fun c105 => ?_) (fun c105 => ?_)))
                · refine AL.go (AO.not rfl rfl (AL.go (AO.move rfl rfl (AL.yes rfl rfl (AO.move rfl rfl ?_)))))
                  refine AL.yes rfl rfl (AO.call rfl rfl (pmark_c t.words[q - 1] (fun c109 => ?_) (fun c109 => ?_)))
                  · refine AL.go (AO.pickF rfl rfl rfl (AL.go (AO.move rfl rfl (AL.no rfl rfl rfl rfl (AL.no rfl rfl rfl rfl (AL.no rfl rfl rfl rfl (AL.go (AO.pickT rfl rfl rfl ?_))))))))
                    refine AL.go (AO.move rfl rfl (AL.no rfl rfl rfl rfl (AL.no rfl rfl rfl rfl (AL.no rfl rfl rfl rfl (AL.go (AO.pickT rfl rfl rfl (AL.go (AO.assign rfl rfl ?_))))))))
                    refine AL.nil (AK.seqN (AC.condT rfl (AC.seq (AC.region (AL.go (AO.assign rfl rfl ?_))))))
                    refine AL.nil (AK.seqN (AC.ret (AK.blkR (AK.blkR (AK.seqR ?_)))))
                    refine AK.seqR (AK.blkR (AK.seqR ?_))
                    first | refine AK.ret (L' := L) (F' := F) Tryd.results46 rfl (by repeat (first | exact Sub.refl _ _ | refine Sub.trans Sub.drop ?_ | refine Sub.trans Sub.dropF ?_)) (hT ?_) | refine AK.ret (L' := L) (F' := F) Tryd.results46 rfl (by repeat (first | exact Sub.refl _ _ | refine Sub.trans Sub.drop ?_ | refine Sub.trans Sub.dropF ?_)) (hF ?_)
                    first
                    | exact ⟨⟨by omega, c16, c21, fun i hi => hok i hi (by omega)⟩, c12⟩
                    | exact fun e => c12 e.2
                    | exact fun e => absurd e.1.2.1 (by omega)
                    | exact fun e => absurd e.1.2.2.1 (by omega)
                    | exact fun e => c30 (by rw [e.1.1])
                    | (intro e
                       have he := e.1.2.2.2 q hql
                       unfold elemAtP at he
                       rw [hK, hKid, hKidP, hPrev] at he
                       rcases he with ⟨h1, h2, h3, h4, h5, h6⟩ | ⟨h1, h2, h3, h4⟩
                       first | exact c58 h1 | exact h3 c88 | exact h4 c93 | exact h5 c101 | (have := h6 (by omega) c63; omega) | omega
                       first | exact h1 c58 | exact absurd h2 (by rw [c105]; decide) | exact (h4 (by omega)).1 c109 | exact c119 h3 | exact absurd c114 (by rw [bytes_asym _ _ (h4 (by omega)).2]; decide) | (rw [leq_nil c114] at h2; exact absurd h2 (by decide)) | omega)
                  · refine AL.go (AO.pickF rfl rfl rfl (AL.go (AO.move rfl rfl (AL.yes rfl rfl (AO.move rfl rfl (AL.yes rfl rfl (AO.move rfl rfl ?_)))))))
                    refine AL.yes rfl rfl (AO.leqS rfl rfl rfl (fun c114 => ?_) (fun c114 => ?_))
                    · refine AL.go (AO.pickF rfl rfl rfl (AL.go (AO.move rfl rfl (AL.no rfl rfl rfl rfl (AL.no rfl rfl rfl rfl (AL.no rfl rfl rfl rfl (AL.go (AO.pickT rfl rfl rfl ?_))))))))
                      refine AL.go (AO.assign rfl rfl (AL.nil (AK.seqN (AC.condT rfl (AC.seq (AC.region ?_))))))
                      refine AL.go (AO.assign rfl rfl (AL.nil (AK.seqN (AC.ret (AK.blkR (AK.blkR ?_))))))
                      refine AK.seqR (AK.seqR (AK.blkR (AK.seqR ?_)))
                      first | refine AK.ret (L' := L) (F' := F) Tryd.results46 rfl (by repeat (first | exact Sub.refl _ _ | refine Sub.trans Sub.drop ?_ | refine Sub.trans Sub.dropF ?_)) (hT ?_) | refine AK.ret (L' := L) (F' := F) Tryd.results46 rfl (by repeat (first | exact Sub.refl _ _ | refine Sub.trans Sub.drop ?_ | refine Sub.trans Sub.dropF ?_)) (hF ?_)
                      first
                      | exact ⟨⟨by omega, c16, c21, fun i hi => hok i hi (by omega)⟩, c12⟩
                      | exact fun e => c12 e.2
                      | exact fun e => absurd e.1.2.1 (by omega)
                      | exact fun e => absurd e.1.2.2.1 (by omega)
                      | exact fun e => c30 (by rw [e.1.1])
                      | (intro e
                         have he := e.1.2.2.2 q hql
                         unfold elemAtP at he
                         rw [hK, hKid, hKidP, hPrev] at he
                         rcases he with ⟨h1, h2, h3, h4, h5, h6⟩ | ⟨h1, h2, h3, h4⟩
                         first | exact c58 h1 | exact h3 c88 | exact h4 c93 | exact h5 c101 | (have := h6 (by omega) c63; omega) | omega
                         first | exact h1 c58 | exact absurd h2 (by rw [c105]; decide) | exact (h4 (by omega)).1 c109 | exact c119 h3 | exact absurd c114 (by rw [bytes_asym _ _ (h4 (by omega)).2]; decide) | (rw [leq_nil c114] at h2; exact absurd h2 (by decide)) | omega)
                    · refine AL.go (AO.pickF rfl rfl rfl (AL.go (AO.move rfl rfl (AL.yes rfl rfl (AO.field rfl rfl ?_)))))
                      refine AL.yes rfl rfl (AO.loadB rfl rfl ?_)
                      refine AL.yes rfl rfl (AO.neq rfl rfl rfl (fun c119 => ?_) (fun c119 => ?_))
                      · refine AL.go (AO.pickF rfl rfl rfl (AL.go (AO.assign rfl rfl (AL.nil (AK.seqN (AC.condT rfl (AC.seq ?_)))))))
                        refine AC.region (AL.go (AO.assign rfl rfl (AL.nil (AK.seqN (AC.ret (AK.blkR ?_))))))
                        refine AK.blkR (AK.seqR (AK.seqR (AK.blkR (AK.seqR ?_))))
                        first | refine AK.ret (L' := L) (F' := F) Tryd.results46 rfl (by repeat (first | exact Sub.refl _ _ | refine Sub.trans Sub.drop ?_ | refine Sub.trans Sub.dropF ?_)) (hT ?_) | refine AK.ret (L' := L) (F' := F) Tryd.results46 rfl (by repeat (first | exact Sub.refl _ _ | refine Sub.trans Sub.drop ?_ | refine Sub.trans Sub.dropF ?_)) (hF ?_)
                        first
                        | exact ⟨⟨by omega, c16, c21, fun i hi => hok i hi (by omega)⟩, c12⟩
                        | exact fun e => c12 e.2
                        | exact fun e => absurd e.1.2.1 (by omega)
                        | exact fun e => absurd e.1.2.2.1 (by omega)
                        | exact fun e => c30 (by rw [e.1.1])
                        | (intro e
                           have he := e.1.2.2.2 q hql
                           unfold elemAtP at he
                           rw [hK, hKid, hKidP, hPrev] at he
                           rcases he with ⟨h1, h2, h3, h4, h5, h6⟩ | ⟨h1, h2, h3, h4⟩
                           first | exact c58 h1 | exact h3 c88 | exact h4 c93 | exact h5 c101 | (have := h6 (by omega) c63; omega) | omega
                           first | exact h1 c58 | exact absurd h2 (by rw [c105]; decide) | exact (h4 (by omega)).1 c109 | exact c119 h3 | exact absurd c114 (by rw [bytes_asym _ _ (h4 (by omega)).2]; decide) | (rw [leq_nil c114] at h2; exact absurd h2 (by decide)) | omega)
                      · refine AL.go (AO.pickF rfl rfl rfl (AL.go (AO.assign rfl rfl (AL.nil (AK.seqN (AC.condF rfl (AC.skip ?_)))))))
                        refine AK.blkN (AK.blkN (AK.seqN (AC.region (AL.go (AO.add rfl rfl rfl (by omega) (by omega) (AL.go (AO.move rfl rfl ?_)))))))
                        refine AL.nil ?_
                        refine AK.next (q + 1) ⟨by omega, ?_⟩ (by omega) (by repeat (first | exact SubR.nil | refine SubR.cons rfl ?_)) (Sub.drop.trans (by repeat (first | exact Sub.refl _ _ | refine Sub.trans Sub.dropF ?_)))
                        intro j hj hjq
                        rcases Nat.lt_succ_iff_lt_or_eq.1 hjq with k9 | rfl
                        · exact hok j hj k9
                        · unfold elemAtP
                          rw [hK, hKid, hKidP, hPrev]
                          first
                          | exact Or.inl ⟨c58, c83, c88, c93, c101, fun _ _ => Int.not_le.1 c77⟩
                          | exact Or.inl ⟨c58, c83, c88, c93, c101, fun _ h1 => absurd h1 c63⟩
                          | exact Or.inl ⟨c58, c83, c88, c93, c101, fun h0 _ => absurd h0 (by omega)⟩
                          | exact Or.inr ⟨c58, c105, c119, fun _ => ⟨c109, bytes_tri _ _ c114⟩⟩
                          | exact Or.inr ⟨c58, c105, c119, fun h0 => absurd h0 (by omega)⟩
                · refine AL.go (AO.not rfl rfl (AL.go (AO.move rfl rfl (AL.no rfl rfl rfl rfl (AL.no rfl rfl rfl rfl (AL.go (AO.pickT rfl rfl rfl (AL.go (AO.move rfl rfl ?_)))))))))
                  refine AL.no rfl rfl rfl rfl (AL.no rfl rfl rfl rfl (AL.no rfl rfl rfl rfl (AL.go (AO.pickT rfl rfl rfl (AL.go (AO.move rfl rfl (AL.no rfl rfl rfl rfl ?_)))))))
                  refine AL.no rfl rfl rfl rfl (AL.no rfl rfl rfl rfl (AL.go (AO.pickT rfl rfl rfl (AL.go (AO.assign rfl rfl (AL.nil (AK.seqN ?_)))))))
                  refine AC.condT rfl (AC.seq (AC.region (AL.go (AO.assign rfl rfl (AL.nil (AK.seqN ?_))))))
                  refine AC.ret (AK.blkR (AK.blkR (AK.seqR (AK.seqR (AK.blkR ?_)))))
                  refine AK.seqR ?_
                  first | refine AK.ret (L' := L) (F' := F) Tryd.results46 rfl (by repeat (first | exact Sub.refl _ _ | refine Sub.trans Sub.drop ?_ | refine Sub.trans Sub.dropF ?_)) (hT ?_) | refine AK.ret (L' := L) (F' := F) Tryd.results46 rfl (by repeat (first | exact Sub.refl _ _ | refine Sub.trans Sub.drop ?_ | refine Sub.trans Sub.dropF ?_)) (hF ?_)
                  first
                  | exact ⟨⟨by omega, c16, c21, fun i hi => hok i hi (by omega)⟩, c12⟩
                  | exact fun e => c12 e.2
                  | exact fun e => absurd e.1.2.1 (by omega)
                  | exact fun e => absurd e.1.2.2.1 (by omega)
                  | exact fun e => c30 (by rw [e.1.1])
                  | (intro e
                     have he := e.1.2.2.2 q hql
                     unfold elemAtP at he
                     rw [hK, hKid, hKidP, hPrev] at he
                     rcases he with ⟨h1, h2, h3, h4, h5, h6⟩ | ⟨h1, h2, h3, h4⟩
                     first | exact c58 h1 | exact h3 c88 | exact h4 c93 | exact h5 c101 | (have := h6 (by omega) c63; omega) | omega
                     first | exact h1 c58 | exact absurd h2 (by rw [c105]; decide) | exact (h4 (by omega)).1 c109 | exact c119 h3 | exact absurd c114 (by rw [bytes_asym _ _ (h4 (by omega)).2]; decide) | (rw [leq_nil c114] at h2; exact absurd h2 (by decide)) | omega)
            · refine AL.nil (AK.seqN (AC.condF rfl (AC.skip (AK.seqN (AC.block ?_)))))
              refine AC.seq (AC.region (AL.go (AO.move rfl rfl ?_)))
              refine AL.go (AO.call rfl rfl (pmark_c t.words[q] (fun c58 => ?_) (fun c58 => ?_)))
              · refine AL.go (AO.assign rfl rfl (AL.nil (AK.seqN (AC.condT rfl (AC.seq ?_)))))
                refine AC.draw (fun _ => false) [(b3, _, _)] (by repeat (first | exact BxIn.nil | refine BxIn.cons (by repeat (first | exact has0 | assumption | apply hasS)) ?_)) rfl (fun hx hX => ?_)
                have hkk := (len_of_fact (hX (fK t a2 k2 c2) (by repeat (first | exact m2 | refine memS ?_)))).1
                obtain ⟨p2, o2, rfl, atq⟩ := row_of_fact (hX (fK t a2 k2 c2) (by repeat (first | exact m2 | refine memS ?_))) hqk
                obtain ⟨vq, hvq, hcq⟩ := atq 0 _ rfl
                cases hcq
                refine AH.takeW (i := 0) rfl (Y.move rfl) (by kernel_rfl) rfl rfl ?_
                refine AH.takeB (i := 1) rfl (Y.gtr rfl rfl) (by kernel_rfl) rfl rfl (fun c60 => absurd (of_decide_eq_true c60) (by omega)) (fun c60 => ?_)
                refine AH.takeW (i := 2) rfl (Y.move rfl) (by kernel_rfl) rfl rfl ?_
                refine AH.skip (i := 3) rfl (by kernel_rfl) rfl rfl ?_
                refine AH.skip (i := 4) rfl (by kernel_rfl) rfl rfl ?_
                refine AH.takeW (i := 5) rfl (Y.pickF rfl rfl) (by kernel_rfl) rfl rfl ?_
                refine AH.takeW (i := 6) rfl (Y.move rfl) (by kernel_rfl) rfl rfl ?_
                refine AH.skip (i := 7) rfl (by kernel_rfl) rfl rfl ?_
                refine AH.skip (i := 8) rfl (by kernel_rfl) rfl rfl ?_
                refine AH.skip (i := 9) rfl (by kernel_rfl) rfl rfl ?_
                refine AH.skip (i := 10) rfl (by kernel_rfl) rfl rfl ?_
                refine AH.skip (i := 11) rfl (by kernel_rfl) rfl rfl ?_
                refine AH.skip (i := 12) rfl (by kernel_rfl) rfl rfl ?_
                refine AH.skip (i := 13) rfl (by kernel_rfl) rfl rfl ?_
                refine AH.skip (i := 14) rfl (by kernel_rfl) rfl rfl ?_
                refine AH.skip (i := 15) rfl (by kernel_rfl) rfl rfl ?_
                refine AH.skip (i := 16) rfl (by kernel_rfl) rfl rfl ?_
                refine AH.skip (i := 17) rfl (by kernel_rfl) rfl rfl ?_
                refine AH.skip (i := 18) rfl (by kernel_rfl) rfl rfl ?_
                refine AH.takeW (i := 19) rfl (Y.pickF rfl rfl) (by kernel_rfl) rfl rfl ?_
                refine AH.takeW (i := 20) rfl (Y.assign rfl) (by kernel_rfl) rfl rfl ?_
                refine AH.done (by kernel_rfl) ?_
                refine AK.seqN (AC.seq (AC.region (AL.go (AO.move rfl rfl (AL.go (AO.move rfl rfl (AL.yes rfl rfl (AO.field rfl rfl ?_))))))))
                refine AL.yes rfl rfl (AO.loadB rfl rfl ?_)
                refine AL.yes rfl rfl (AO.lss rfl rfl rfl (fun c83 => ?_) (fun c83 => ?_))
                · refine AL.go (AO.pickF rfl rfl rfl (AL.go (AO.move rfl rfl (AL.no rfl rfl rfl rfl (AL.no rfl rfl rfl rfl (AL.no rfl rfl rfl rfl (AL.go (AO.pickT rfl rfl rfl ?_))))))))
                  refine AL.go (AO.move rfl rfl (AL.no rfl rfl rfl rfl (AL.no rfl rfl rfl rfl (AL.no rfl rfl rfl rfl (AL.go (AO.pickT rfl rfl rfl (AL.go (AO.move rfl rfl ?_))))))))
                  refine AL.no rfl rfl rfl rfl (AL.no rfl rfl rfl rfl (AL.no rfl rfl rfl rfl (AL.no rfl rfl rfl rfl (AL.no rfl rfl rfl rfl (AL.no rfl rfl rfl rfl ?_)))))
                  refine AL.go (AO.pickT rfl rfl rfl (AL.nil (AK.seqN (AC.condT rfl (AC.seq (AC.region ?_))))))
                  refine AL.go (AO.assign rfl rfl (AL.nil (AK.seqN (AC.ret (AK.blkR (AK.blkR ?_))))))
                  refine AK.seqR (AK.seqR (AK.blkR (AK.seqR ?_)))
                  first | refine AK.ret (L' := L) (F' := F) Tryd.results46 rfl (by repeat (first | exact Sub.refl _ _ | refine Sub.trans Sub.drop ?_ | refine Sub.trans Sub.dropF ?_)) (hT ?_) | refine AK.ret (L' := L) (F' := F) Tryd.results46 rfl (by repeat (first | exact Sub.refl _ _ | refine Sub.trans Sub.drop ?_ | refine Sub.trans Sub.dropF ?_)) (hF ?_)
                  first
                  | exact ⟨⟨by omega, c16, c21, fun i hi => hok i hi (by omega)⟩, c12⟩
                  | exact fun e => c12 e.2
                  | exact fun e => absurd e.1.2.1 (by omega)
                  | exact fun e => absurd e.1.2.2.1 (by omega)
                  | exact fun e => c30 (by rw [e.1.1])
                  | (intro e
                     have he := e.1.2.2.2 q hql
                     unfold elemAtP at he
                     rw [hK, hKid, hKidP, hPrev] at he
                     rcases he with ⟨h1, h2, h3, h4, h5, h6⟩ | ⟨h1, h2, h3, h4⟩
                     first | exact c58 h1 | exact h3 c88 | exact h4 c93 | exact h5 c101 | (have := h6 (by omega) c63; omega) | omega
                     first | exact h1 c58 | exact absurd h2 (by rw [c105]; decide) | exact (h4 (by omega)).1 c109 | exact c119 h3 | exact absurd c114 (by rw [bytes_asym _ _ (h4 (by omega)).2]; decide) | (rw [leq_nil c114] at h2; exact absurd h2 (by decide)) | omega)
                · refine AL.go (AO.pickF rfl rfl rfl (AL.go (AO.move rfl rfl (AL.yes rfl rfl (AO.field rfl rfl ?_)))))
                  refine AL.yes rfl rfl (AO.loadB rfl rfl ?_)
                  refine AL.yes rfl rfl (AO.eql rfl rfl rfl (fun c88 => ?_) (fun c88 => ?_))
                  · refine AL.go (AO.pickF rfl rfl rfl (AL.go (AO.move rfl rfl (AL.no rfl rfl rfl rfl (AL.no rfl rfl rfl rfl (AL.no rfl rfl rfl rfl (AL.go (AO.pickT rfl rfl rfl ?_))))))))
                    refine AL.go (AO.move rfl rfl (AL.no rfl rfl rfl rfl (AL.no rfl rfl rfl rfl (AL.no rfl rfl rfl rfl (AL.no rfl rfl rfl rfl (AL.no rfl rfl rfl rfl ?_))))))
                    refine AL.no rfl rfl rfl rfl (AL.go (AO.pickT rfl rfl rfl (AL.nil (AK.seqN (AC.condT rfl (AC.seq ?_))))))
                    refine AC.region (AL.go (AO.assign rfl rfl (AL.nil (AK.seqN (AC.ret (AK.blkR ?_))))))
                    refine AK.blkR (AK.seqR (AK.seqR (AK.blkR (AK.seqR ?_))))
                    first | refine AK.ret (L' := L) (F' := F) Tryd.results46 rfl (by repeat (first | exact Sub.refl _ _ | refine Sub.trans Sub.drop ?_ | refine Sub.trans Sub.dropF ?_)) (hT ?_) | refine AK.ret (L' := L) (F' := F) Tryd.results46 rfl (by repeat (first | exact Sub.refl _ _ | refine Sub.trans Sub.drop ?_ | refine Sub.trans Sub.dropF ?_)) (hF ?_)
                    first
                    | exact ⟨⟨by omega, c16, c21, fun i hi => hok i hi (by omega)⟩, c12⟩
                    | exact fun e => c12 e.2
                    | exact fun e => absurd e.1.2.1 (by omega)
                    | exact fun e => absurd e.1.2.2.1 (by omega)
                    | exact fun e => c30 (by rw [e.1.1])
                    | (intro e
                       have he := e.1.2.2.2 q hql
                       unfold elemAtP at he
                       rw [hK, hKid, hKidP, hPrev] at he
                       rcases he with ⟨h1, h2, h3, h4, h5, h6⟩ | ⟨h1, h2, h3, h4⟩
                       first | exact c58 h1 | exact h3 c88 | exact h4 c93 | exact h5 c101 | (have := h6 (by omega) c63; omega) | omega
                       first | exact h1 c58 | exact absurd h2 (by rw [c105]; decide) | exact (h4 (by omega)).1 c109 | exact c119 h3 | exact absurd c114 (by rw [bytes_asym _ _ (h4 (by omega)).2]; decide) | (rw [leq_nil c114] at h2; exact absurd h2 (by decide)) | omega)
                  · refine AL.go (AO.pickF rfl rfl rfl (AL.go (AO.move rfl rfl (AL.yes rfl rfl (AO.field rfl rfl ?_)))))
                    refine AL.yes rfl rfl (AO.loadB rfl rfl ?_)
                    refine AL.yes rfl rfl (AO.eql rfl rfl rfl (fun c93 => ?_) (fun c93 => ?_))
                    · refine AL.go (AO.pickF rfl rfl rfl (AL.go (AO.move rfl rfl (AL.no rfl rfl rfl rfl (AL.no rfl rfl rfl rfl (AL.no rfl rfl rfl rfl (AL.no rfl rfl rfl rfl ?_)))))))
                      refine AL.no rfl rfl rfl rfl (AL.no rfl rfl rfl rfl (AL.go (AO.pickT rfl rfl rfl (AL.nil (AK.seqN (AC.condT rfl ?_))))))
                      refine AC.seq (AC.region (AL.go (AO.assign rfl rfl (AL.nil (AK.seqN (AC.ret ?_))))))
                      refine AK.blkR (AK.blkR (AK.seqR (AK.seqR (AK.blkR (AK.seqR ?_)))))
                      first | refine AK.ret (L' := L) (F' := F) Tryd.results46 rfl (by repeat (first | exact Sub.refl _ _ | refine Sub.trans Sub.drop ?_ | refine Sub.trans Sub.dropF ?_)) (hT ?_) | refine AK.ret (L' := L) (F' := F) Tryd.results46 rfl (by repeat (first | exact Sub.refl _ _ | refine Sub.trans Sub.drop ?_ | refine Sub.trans Sub.dropF ?_)) (hF ?_)
                      first
                      | exact ⟨⟨by omega, c16, c21, fun i hi => hok i hi (by omega)⟩, c12⟩
                      | exact fun e => c12 e.2
                      | exact fun e => absurd e.1.2.1 (by omega)
                      | exact fun e => absurd e.1.2.2.1 (by omega)
                      | exact fun e => c30 (by rw [e.1.1])
                      | (intro e
                         have he := e.1.2.2.2 q hql
                         unfold elemAtP at he
                         rw [hK, hKid, hKidP, hPrev] at he
                         rcases he with ⟨h1, h2, h3, h4, h5, h6⟩ | ⟨h1, h2, h3, h4⟩
                         first | exact c58 h1 | exact h3 c88 | exact h4 c93 | exact h5 c101 | (have := h6 (by omega) c63; omega) | omega
                         first | exact h1 c58 | exact absurd h2 (by rw [c105]; decide) | exact (h4 (by omega)).1 c109 | exact c119 h3 | exact absurd c114 (by rw [bytes_asym _ _ (h4 (by omega)).2]; decide) | (rw [leq_nil c114] at h2; exact absurd h2 (by decide)) | omega)
                    · refine AL.go (AO.pickF rfl rfl rfl (AL.go (AO.move rfl rfl (AL.yes rfl rfl (AO.field rfl rfl ?_)))))
                      refine AL.yes rfl rfl (AO.loadB rfl rfl ?_)
                      refine AL.yes rfl rfl (AO.move rfl rfl ?_)
                      refine AL.yes rfl rfl (AO.indexAddr rfl rfl rfl rfl (by repeat (first | exact mem0 | assumption | refine memS ?_)) (by first | omega | (simp; omega)) (fun _ _ => ?_))
                      refine AL.yes rfl rfl (AO.loadF rfl rfl ?_)
                      intros
                      refine AL.yes rfl rfl (AO.call rfl rfl (untyped_c t.kids[q] (fun c101 => ?_) (fun c101 => ?_)))
                      · refine AL.go (AO.pickF rfl rfl rfl (AL.nil (AK.seqN (AC.condT rfl (AC.seq (AC.region ?_))))))
                        refine AL.go (AO.assign rfl rfl (AL.nil (AK.seqN (AC.ret (AK.blkR (AK.blkR ?_))))))
                        refine AK.seqR (AK.seqR (AK.blkR (AK.seqR ?_)))
                        first | refine AK.ret (L' := L) (F' := F) Tryd.results46 rfl (by repeat (first | exact Sub.refl _ _ | refine Sub.trans Sub.drop ?_ | refine Sub.trans Sub.dropF ?_)) (hT ?_) | refine AK.ret (L' := L) (F' := F) Tryd.results46 rfl (by repeat (first | exact Sub.refl _ _ | refine Sub.trans Sub.drop ?_ | refine Sub.trans Sub.dropF ?_)) (hF ?_)
                        first
                        | exact ⟨⟨by omega, c16, c21, fun i hi => hok i hi (by omega)⟩, c12⟩
                        | exact fun e => c12 e.2
                        | exact fun e => absurd e.1.2.1 (by omega)
                        | exact fun e => absurd e.1.2.2.1 (by omega)
                        | exact fun e => c30 (by rw [e.1.1])
                        | (intro e
                           have he := e.1.2.2.2 q hql
                           unfold elemAtP at he
                           rw [hK, hKid, hKidP, hPrev] at he
                           rcases he with ⟨h1, h2, h3, h4, h5, h6⟩ | ⟨h1, h2, h3, h4⟩
                           first | exact c58 h1 | exact h3 c88 | exact h4 c93 | exact h5 c101 | (have := h6 (by omega) c63; omega) | omega
                           first | exact h1 c58 | exact absurd h2 (by rw [c105]; decide) | exact (h4 (by omega)).1 c109 | exact c119 h3 | exact absurd c114 (by rw [bytes_asym _ _ (h4 (by omega)).2]; decide) | (rw [leq_nil c114] at h2; exact absurd h2 (by decide)) | omega)
                      · refine AL.go (AO.pickF rfl rfl rfl (AL.nil (AK.seqN (AC.condF rfl (AC.skip (AK.blkN ?_))))))
                        refine AK.blkN (AK.seqN (AC.region (AL.go (AO.add rfl rfl rfl (by omega) (by omega) (AL.go (AO.move rfl rfl (AL.nil ?_)))))))
                        refine AK.next (q + 1) ⟨by omega, ?_⟩ (by omega) (by repeat (first | exact SubR.nil | refine SubR.cons rfl ?_)) (Sub.drop.trans (by repeat (first | exact Sub.refl _ _ | refine Sub.trans Sub.dropF ?_)))
                        intro j hj hjq
                        rcases Nat.lt_succ_iff_lt_or_eq.1 hjq with k9 | rfl
                        · exact hok j hj k9
                        · unfold elemAtP
                          rw [hK, hKid, hKidP, hPrev]
                          first
                          | exact Or.inl ⟨c58, c83, c88, c93, c101, fun _ _ => Int.not_le.1 c77⟩
                          | exact Or.inl ⟨c58, c83, c88, c93, c101, fun _ h1 => absurd h1 c63⟩
                          | exact Or.inl ⟨c58, c83, c88, c93, c101, fun h0 _ => absurd h0 (by omega)⟩
                          | exact Or.inr ⟨c58, c105, c119, fun _ => ⟨c109, bytes_tri _ _ c114⟩⟩
                          | exact Or.inr ⟨c58, c105, c119, fun h0 => absurd h0 (by omega)⟩
              · refine AL.go (AO.assign rfl rfl (AL.nil (AK.seqN (AC.condF rfl (AC.seq (AC.region ?_))))))
                refine AL.go (AO.move rfl rfl ?_)
                refine AL.go (AO.call rfl rfl (src_Name_c t.words[q] (fun c105 => ?_) (fun c105 => ?_)))
                · refine AL.go (AO.not rfl rfl (AL.go (AO.move rfl rfl (AL.yes rfl rfl (AO.move rfl rfl ?_)))))
                  refine AL.yes rfl rfl (AO.call rfl rfl (pmark_c [] (fun c109 => absurd c109 mark_nil) (fun c109 => ?_)))
                  refine AL.go (AO.pickF rfl rfl rfl (AL.go (AO.move rfl rfl (AL.yes rfl rfl (AO.move rfl rfl (AL.yes rfl rfl (AO.move rfl rfl ?_)))))))
                  refine AL.yes rfl rfl (AO.leqS rfl rfl rfl (fun c114 => ?_) (fun c114 => ?_))
                  · refine AL.go (AO.pickF rfl rfl rfl (AL.go (AO.move rfl rfl (AL.no rfl rfl rfl rfl (AL.no rfl rfl rfl rfl (AL.no rfl rfl rfl rfl (AL.go (AO.pickT rfl rfl rfl ?_))))))))
                    refine AL.go (AO.assign rfl rfl (AL.nil (AK.seqN (AC.condT rfl (AC.seq (AC.region ?_))))))
                    refine AL.go (AO.assign rfl rfl (AL.nil (AK.seqN (AC.ret (AK.blkR (AK.blkR ?_))))))
                    refine AK.seqR (AK.seqR (AK.blkR (AK.seqR ?_)))
                    first | refine AK.ret (L' := L) (F' := F) Tryd.results46 rfl (by repeat (first | exact Sub.refl _ _ | refine Sub.trans Sub.drop ?_ | refine Sub.trans Sub.dropF ?_)) (hT ?_) | refine AK.ret (L' := L) (F' := F) Tryd.results46 rfl (by repeat (first | exact Sub.refl _ _ | refine Sub.trans Sub.drop ?_ | refine Sub.trans Sub.dropF ?_)) (hF ?_)
                    first
                    | exact ⟨⟨by omega, c16, c21, fun i hi => hok i hi (by omega)⟩, c12⟩
                    | exact fun e => c12 e.2
                    | exact fun e => absurd e.1.2.1 (by omega)
                    | exact fun e => absurd e.1.2.2.1 (by omega)
                    | exact fun e => c30 (by rw [e.1.1])
                    | (intro e
                       have he := e.1.2.2.2 q hql
                       unfold elemAtP at he
                       rw [hK, hKid, hKidP, hPrev] at he
                       rcases he with ⟨h1, h2, h3, h4, h5, h6⟩ | ⟨h1, h2, h3, h4⟩
                       first | exact c58 h1 | exact h3 c88 | exact h4 c93 | exact h5 c101 | (have := h6 (by omega) c63; omega) | omega
                       first | exact h1 c58 | exact absurd h2 (by rw [c105]; decide) | exact (h4 (by omega)).1 c109 | exact c119 h3 | exact absurd c114 (by rw [bytes_asym _ _ (h4 (by omega)).2]; decide) | (rw [leq_nil c114] at h2; exact absurd h2 (by decide)) | omega)
                  · refine AL.go (AO.pickF rfl rfl rfl (AL.go (AO.move rfl rfl (AL.yes rfl rfl (AO.field rfl rfl ?_)))))
                    refine AL.yes rfl rfl (AO.loadB rfl rfl ?_)
                    refine AL.yes rfl rfl (AO.neq rfl rfl rfl (fun c119 => ?_) (fun c119 => ?_))
                    · refine AL.go (AO.pickF rfl rfl rfl (AL.go (AO.assign rfl rfl (AL.nil (AK.seqN (AC.condT rfl (AC.seq ?_)))))))
                      refine AC.region (AL.go (AO.assign rfl rfl (AL.nil (AK.seqN (AC.ret (AK.blkR ?_))))))
                      refine AK.blkR (AK.seqR (AK.seqR (AK.blkR (AK.seqR ?_))))
                      first | refine AK.ret (L' := L) (F' := F) Tryd.results46 rfl (by repeat (first | exact Sub.refl _ _ | refine Sub.trans Sub.drop ?_ | refine Sub.trans Sub.dropF ?_)) (hT ?_) | refine AK.ret (L' := L) (F' := F) Tryd.results46 rfl (by repeat (first | exact Sub.refl _ _ | refine Sub.trans Sub.drop ?_ | refine Sub.trans Sub.dropF ?_)) (hF ?_)
                      first
                      | exact ⟨⟨by omega, c16, c21, fun i hi => hok i hi (by omega)⟩, c12⟩
                      | exact fun e => c12 e.2
                      | exact fun e => absurd e.1.2.1 (by omega)
                      | exact fun e => absurd e.1.2.2.1 (by omega)
                      | exact fun e => c30 (by rw [e.1.1])
                      | (intro e
                         have he := e.1.2.2.2 q hql
                         unfold elemAtP at he
                         rw [hK, hKid, hKidP, hPrev] at he
                         rcases he with ⟨h1, h2, h3, h4, h5, h6⟩ | ⟨h1, h2, h3, h4⟩
                         first | exact c58 h1 | exact h3 c88 | exact h4 c93 | exact h5 c101 | (have := h6 (by omega) c63; omega) | omega
                         first | exact h1 c58 | exact absurd h2 (by rw [c105]; decide) | exact (h4 (by omega)).1 c109 | exact c119 h3 | exact absurd c114 (by rw [bytes_asym _ _ (h4 (by omega)).2]; decide) | (rw [leq_nil c114] at h2; exact absurd h2 (by decide)) | omega)
                    · refine AL.go (AO.pickF rfl rfl rfl (AL.go (AO.assign rfl rfl (AL.nil (AK.seqN (AC.condF rfl (AC.skip ?_)))))))
                      refine AK.blkN (AK.blkN (AK.seqN (AC.region (AL.go (AO.add rfl rfl rfl (by omega) (by omega) (AL.go (AO.move rfl rfl ?_)))))))
                      refine AL.nil ?_
                      refine AK.next (q + 1) ⟨by omega, ?_⟩ (by omega) (by repeat (first | exact SubR.nil | refine SubR.cons rfl ?_)) (Sub.drop.trans (by repeat (first | exact Sub.refl _ _ | refine Sub.trans Sub.dropF ?_)))
                      intro j hj hjq
                      rcases Nat.lt_succ_iff_lt_or_eq.1 hjq with k9 | rfl
                      · exact hok j hj k9
                      · unfold elemAtP
                        rw [hK, hKid, hKidP, hPrev]
                        first
                        | exact Or.inl ⟨c58, c83, c88, c93, c101, fun _ _ => Int.not_le.1 c77⟩
                        | exact Or.inl ⟨c58, c83, c88, c93, c101, fun _ h1 => absurd h1 c63⟩
                        | exact Or.inl ⟨c58, c83, c88, c93, c101, fun h0 _ => absurd h0 (by omega)⟩
                        | exact Or.inr ⟨c58, c105, c119, fun _ => ⟨c109, bytes_tri _ _ c114⟩⟩
                        | exact Or.inr ⟨c58, c105, c119, fun h0 => absurd h0 (by omega)⟩
                · refine AL.go (AO.not rfl rfl (AL.go (AO.move rfl rfl (AL.no rfl rfl rfl rfl (AL.no rfl rfl rfl rfl (AL.go (AO.pickT rfl rfl rfl (AL.go (AO.move rfl rfl ?_)))))))))
                  refine AL.no rfl rfl rfl rfl (AL.no rfl rfl rfl rfl (AL.no rfl rfl rfl rfl (AL.go (AO.pickT rfl rfl rfl (AL.go (AO.move rfl rfl (AL.no rfl rfl rfl rfl ?_)))))))
                  refine AL.no rfl rfl rfl rfl (AL.no rfl rfl rfl rfl (AL.go (AO.pickT rfl rfl rfl (AL.go (AO.assign rfl rfl (AL.nil (AK.seqN ?_)))))))
                  refine AC.condT rfl (AC.seq (AC.region (AL.go (AO.assign rfl rfl (AL.nil (AK.seqN ?_))))))
                  refine AC.ret (AK.blkR (AK.blkR (AK.seqR (AK.seqR (AK.blkR ?_)))))
                  refine AK.seqR ?_
                  first | refine AK.ret (L' := L) (F' := F) Tryd.results46 rfl (by repeat (first | exact Sub.refl _ _ | refine Sub.trans Sub.drop ?_ | refine Sub.trans Sub.dropF ?_)) (hT ?_) | refine AK.ret (L' := L) (F' := F) Tryd.results46 rfl (by repeat (first | exact Sub.refl _ _ | refine Sub.trans Sub.drop ?_ | refine Sub.trans Sub.dropF ?_)) (hF ?_)
                  first
                  | exact ⟨⟨by omega, c16, c21, fun i hi => hok i hi (by omega)⟩, c12⟩
                  | exact fun e => c12 e.2
                  | exact fun e => absurd e.1.2.1 (by omega)
                  | exact fun e => absurd e.1.2.2.1 (by omega)
                  | exact fun e => c30 (by rw [e.1.1])
                  | (intro e
                     have he := e.1.2.2.2 q hql
                     unfold elemAtP at he
                     rw [hK, hKid, hKidP, hPrev] at he
                     rcases he with ⟨h1, h2, h3, h4, h5, h6⟩ | ⟨h1, h2, h3, h4⟩
                     first | exact c58 h1 | exact h3 c88 | exact h4 c93 | exact h5 c101 | (have := h6 (by omega) c63; omega) | omega
                     first | exact h1 c58 | exact absurd h2 (by rw [c105]; decide) | exact (h4 (by omega)).1 c109 | exact c119 h3 | exact absurd c114 (by rw [bytes_asym _ _ (h4 (by omega)).2]; decide) | (rw [leq_nil c114] at h2; exact absurd h2 (by decide)) | omega)
          · refine AL.nil (AK.seqN (AC.seq (AC.condF rfl (AC.exit (AK.seqX ?_)))))
            refine AK.seqX (AK.blkX (AK.seqN (AC.seq (AC.region (AL.go (AO.assign rfl rfl ?_))))))
            refine AL.nil (AK.seqN (AC.ret ?_))
            first | refine AK.ret (L' := L) (F' := F) Tryd.results46 rfl (by repeat (first | exact Sub.refl _ _ | refine Sub.trans Sub.drop ?_ | refine Sub.trans Sub.dropF ?_)) (hT ?_) | refine AK.ret (L' := L) (F' := F) Tryd.results46 rfl (by repeat (first | exact Sub.refl _ _ | refine Sub.trans Sub.drop ?_ | refine Sub.trans Sub.dropF ?_)) (hF ?_)
            first
            | exact ⟨⟨by omega, c16, c21, fun i hi => hok i hi (by omega)⟩, c12⟩
            | exact fun e => c12 e.2
            | exact fun e => absurd e.1.2.1 (by omega)
            | exact fun e => absurd e.1.2.2.1 (by omega)
            | exact fun e => c30 (by rw [e.1.1])
            | (intro e
               have he := e.1.2.2.2 q hql
               unfold elemAtP at he
               rw [hK, hKid, hKidP, hPrev] at he
               rcases he with ⟨h1, h2, h3, h4, h5, h6⟩ | ⟨h1, h2, h3, h4⟩
               first | exact c58 h1 | exact h3 c88 | exact h4 c93 | exact h5 c101 | (have := h6 (by omega) c63; omega) | omega
               first | exact h1 c58 | exact absurd h2 (by rw [c105]; decide) | exact (h4 (by omega)).1 c109 | exact c119 h3 | exact absurd c114 (by rw [bytes_asym _ _ (h4 (by omega)).2]; decide) | (rw [leq_nil c114] at h2; exact absurd h2 (by decide)) | omega)
end
end Go.Sy
