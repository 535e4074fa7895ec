/- What may be a type, as the program asks it: the walk. -/
import Derived.Test.YthbngbiodamndaaDoorTyp4
namespace Go.Sy
open Go Go.Proofs Go.RowKit

section
variable {l : List Ty} {t : Ty}
theorem madeK_1 (h : t.kind = 1) : madeK l t ↔ (t.n = 0 ∧ t.kids.length = 1) := by
  unfold madeK
  constructor
  · rintro (e | e | e | e | e | e | e | e | e)
    all_goals first | (exfalso; have := e.1; omega) | exact e.2
  · intro e
    first | exact Or.inl ⟨h, e⟩ | exact Or.inr (Or.inl ⟨h, e⟩) | exact Or.inr (Or.inr (Or.inl ⟨h, e⟩)) | exact Or.inr (Or.inr (Or.inr (Or.inl ⟨h, e⟩))) | exact Or.inr (Or.inr (Or.inr (Or.inr (Or.inl ⟨h, e⟩)))) | exact Or.inr (Or.inr (Or.inr (Or.inr (Or.inr (Or.inl ⟨h, e⟩))))) | exact Or.inr (Or.inr (Or.inr (Or.inr (Or.inr (Or.inr (Or.inl ⟨h, e⟩)))))) | exact Or.inr (Or.inr (Or.inr (Or.inr (Or.inr (Or.inr (Or.inr (Or.inl ⟨h, e⟩))))))) | exact Or.inr (Or.inr (Or.inr (Or.inr (Or.inr (Or.inr (Or.inr (Or.inr ⟨h, e⟩)))))))
theorem madeK_2 (h : t.kind = 2) : madeK l t ↔ (t.n = 0 ∧ t.kids.length = 1) := by
  unfold madeK
  constructor
  · rintro (e | e | e | e | e | e | e | e | e)
    all_goals first | (exfalso; have := e.1; omega) | exact e.2
  · intro e
    first | exact Or.inl ⟨h, e⟩ | exact Or.inr (Or.inl ⟨h, e⟩) | exact Or.inr (Or.inr (Or.inl ⟨h, e⟩)) | exact Or.inr (Or.inr (Or.inr (Or.inl ⟨h, e⟩))) | exact Or.inr (Or.inr (Or.inr (Or.inr (Or.inl ⟨h, e⟩)))) | exact Or.inr (Or.inr (Or.inr (Or.inr (Or.inr (Or.inl ⟨h, e⟩))))) | exact Or.inr (Or.inr (Or.inr (Or.inr (Or.inr (Or.inr (Or.inl ⟨h, e⟩)))))) | exact Or.inr (Or.inr (Or.inr (Or.inr (Or.inr (Or.inr (Or.inr (Or.inl ⟨h, e⟩))))))) | exact Or.inr (Or.inr (Or.inr (Or.inr (Or.inr (Or.inr (Or.inr (Or.inr ⟨h, e⟩)))))))
theorem madeK_3 (h : t.kind = 3) : madeK l t ↔ (0 ≤ t.n ∧ t.n ≤ 2147483648 ∧ t.kids.length = 1) := by
  unfold madeK
  constructor
  · rintro (e | e | e | e | e | e | e | e | e)
    all_goals first | (exfalso; have := e.1; omega) | exact e.2
  · intro e
    first | exact Or.inl ⟨h, e⟩ | exact Or.inr (Or.inl ⟨h, e⟩) | exact Or.inr (Or.inr (Or.inl ⟨h, e⟩)) | exact Or.inr (Or.inr (Or.inr (Or.inl ⟨h, e⟩))) | exact Or.inr (Or.inr (Or.inr (Or.inr (Or.inl ⟨h, e⟩)))) | exact Or.inr (Or.inr (Or.inr (Or.inr (Or.inr (Or.inl ⟨h, e⟩))))) | exact Or.inr (Or.inr (Or.inr (Or.inr (Or.inr (Or.inr (Or.inl ⟨h, e⟩)))))) | exact Or.inr (Or.inr (Or.inr (Or.inr (Or.inr (Or.inr (Or.inr (Or.inl ⟨h, e⟩))))))) | exact Or.inr (Or.inr (Or.inr (Or.inr (Or.inr (Or.inr (Or.inr (Or.inr ⟨h, e⟩)))))))
theorem madeK_4 (h : t.kind = 4) : madeK l t ↔ (t.n = 0 ∧ t.kids.length = 2) := by
  unfold madeK
  constructor
  · rintro (e | e | e | e | e | e | e | e | e)
    all_goals first | (exfalso; have := e.1; omega) | exact e.2
  · intro e
    first | exact Or.inl ⟨h, e⟩ | exact Or.inr (Or.inl ⟨h, e⟩) | exact Or.inr (Or.inr (Or.inl ⟨h, e⟩)) | exact Or.inr (Or.inr (Or.inr (Or.inl ⟨h, e⟩))) | exact Or.inr (Or.inr (Or.inr (Or.inr (Or.inl ⟨h, e⟩)))) | exact Or.inr (Or.inr (Or.inr (Or.inr (Or.inr (Or.inl ⟨h, e⟩))))) | exact Or.inr (Or.inr (Or.inr (Or.inr (Or.inr (Or.inr (Or.inl ⟨h, e⟩)))))) | exact Or.inr (Or.inr (Or.inr (Or.inr (Or.inr (Or.inr (Or.inr (Or.inl ⟨h, e⟩))))))) | exact Or.inr (Or.inr (Or.inr (Or.inr (Or.inr (Or.inr (Or.inr (Or.inr ⟨h, e⟩)))))))
theorem madeK_5 (h : t.kind = 5) : madeK l t ↔ (t.n = 0 ∨ t.n = 1 ∧ 0 < t.kids.length) := by
  unfold madeK
  constructor
  · rintro (e | e | e | e | e | e | e | e | e)
    all_goals first | (exfalso; have := e.1; omega) | exact e.2
  · intro e
    first | exact Or.inl ⟨h, e⟩ | exact Or.inr (Or.inl ⟨h, e⟩) | exact Or.inr (Or.inr (Or.inl ⟨h, e⟩)) | exact Or.inr (Or.inr (Or.inr (Or.inl ⟨h, e⟩))) | exact Or.inr (Or.inr (Or.inr (Or.inr (Or.inl ⟨h, e⟩)))) | exact Or.inr (Or.inr (Or.inr (Or.inr (Or.inr (Or.inl ⟨h, e⟩))))) | exact Or.inr (Or.inr (Or.inr (Or.inr (Or.inr (Or.inr (Or.inl ⟨h, e⟩)))))) | exact Or.inr (Or.inr (Or.inr (Or.inr (Or.inr (Or.inr (Or.inr (Or.inl ⟨h, e⟩))))))) | exact Or.inr (Or.inr (Or.inr (Or.inr (Or.inr (Or.inr (Or.inr (Or.inr ⟨h, e⟩)))))))
theorem madeK_6 (h : t.kind = 6) : madeK l t ↔ (t.n = 0 ∧ fieldsP t.words ∧ t.words.length = t.kids.length) := by
  unfold madeK
  constructor
  · rintro (e | e | e | e | e | e | e | e | e)
    all_goals first | (exfalso; have := e.1; omega) | exact e.2
  · intro e
    first | exact Or.inl ⟨h, e⟩ | exact Or.inr (Or.inl ⟨h, e⟩) | exact Or.inr (Or.inr (Or.inl ⟨h, e⟩)) | exact Or.inr (Or.inr (Or.inr (Or.inl ⟨h, e⟩))) | exact Or.inr (Or.inr (Or.inr (Or.inr (Or.inl ⟨h, e⟩)))) | exact Or.inr (Or.inr (Or.inr (Or.inr (Or.inr (Or.inl ⟨h, e⟩))))) | exact Or.inr (Or.inr (Or.inr (Or.inr (Or.inr (Or.inr (Or.inl ⟨h, e⟩)))))) | exact Or.inr (Or.inr (Or.inr (Or.inr (Or.inr (Or.inr (Or.inr (Or.inl ⟨h, e⟩))))))) | exact Or.inr (Or.inr (Or.inr (Or.inr (Or.inr (Or.inr (Or.inr (Or.inr ⟨h, e⟩)))))))
theorem madeK_7 (h : t.kind = 7) : madeK l t ↔ (elemsP l t) := by
  unfold madeK
  constructor
  · rintro (e | e | e | e | e | e | e | e | e)
    all_goals first | (exfalso; have := e.1; omega) | exact e.2
  · intro e
    first | exact Or.inl ⟨h, e⟩ | exact Or.inr (Or.inl ⟨h, e⟩) | exact Or.inr (Or.inr (Or.inl ⟨h, e⟩)) | exact Or.inr (Or.inr (Or.inr (Or.inl ⟨h, e⟩))) | exact Or.inr (Or.inr (Or.inr (Or.inr (Or.inl ⟨h, e⟩)))) | exact Or.inr (Or.inr (Or.inr (Or.inr (Or.inr (Or.inl ⟨h, e⟩))))) | exact Or.inr (Or.inr (Or.inr (Or.inr (Or.inr (Or.inr (Or.inl ⟨h, e⟩)))))) | exact Or.inr (Or.inr (Or.inr (Or.inr (Or.inr (Or.inr (Or.inr (Or.inl ⟨h, e⟩))))))) | exact Or.inr (Or.inr (Or.inr (Or.inr (Or.inr (Or.inr (Or.inr (Or.inr ⟨h, e⟩)))))))
theorem madeK_8 (h : t.kind = 8) : madeK l t ↔ (t.n = 0 ∧ namedP t.name) := by
  unfold madeK
  constructor
  · rintro (e | e | e | e | e | e | e | e | e)
    all_goals first | (exfalso; have := e.1; omega) | exact e.2
  · intro e
    first | exact Or.inl ⟨h, e⟩ | exact Or.inr (Or.inl ⟨h, e⟩) | exact Or.inr (Or.inr (Or.inl ⟨h, e⟩)) | exact Or.inr (Or.inr (Or.inr (Or.inl ⟨h, e⟩))) | exact Or.inr (Or.inr (Or.inr (Or.inr (Or.inl ⟨h, e⟩)))) | exact Or.inr (Or.inr (Or.inr (Or.inr (Or.inr (Or.inl ⟨h, e⟩))))) | exact Or.inr (Or.inr (Or.inr (Or.inr (Or.inr (Or.inr (Or.inl ⟨h, e⟩)))))) | exact Or.inr (Or.inr (Or.inr (Or.inr (Or.inr (Or.inr (Or.inr (Or.inl ⟨h, e⟩))))))) | exact Or.inr (Or.inr (Or.inr (Or.inr (Or.inr (Or.inr (Or.inr (Or.inr ⟨h, e⟩)))))))
theorem madeK_9 (h : t.kind = 9) : madeK l t ↔ (0 ≤ t.n ∧ t.n < 16 ∧ t.kids.length = 0) := by
  unfold madeK
  constructor
  · rintro (e | e | e | e | e | e | e | e | e)
    all_goals first | (exfalso; have := e.1; omega) | exact e.2
  · intro e
    first | exact Or.inl ⟨h, e⟩ | exact Or.inr (Or.inl ⟨h, e⟩) | exact Or.inr (Or.inr (Or.inl ⟨h, e⟩)) | exact Or.inr (Or.inr (Or.inr (Or.inl ⟨h, e⟩))) | exact Or.inr (Or.inr (Or.inr (Or.inr (Or.inl ⟨h, e⟩)))) | exact Or.inr (Or.inr (Or.inr (Or.inr (Or.inr (Or.inl ⟨h, e⟩))))) | exact Or.inr (Or.inr (Or.inr (Or.inr (Or.inr (Or.inr (Or.inl ⟨h, e⟩)))))) | exact Or.inr (Or.inr (Or.inr (Or.inr (Or.inr (Or.inr (Or.inr (Or.inl ⟨h, e⟩))))))) | exact Or.inr (Or.inr (Or.inr (Or.inr (Or.inr (Or.inr (Or.inr (Or.inr ⟨h, e⟩)))))))
theorem madeK_no (h1 : t.kind ≠ 1) (h2 : t.kind ≠ 2) (h3 : t.kind ≠ 3) (h4 : t.kind ≠ 4) (h5 : t.kind ≠ 5) (h6 : t.kind ≠ 6) (h7 : t.kind ≠ 7) (h8 : t.kind ≠ 8) (h9 : t.kind ≠ 9) : ¬ madeK l t := by
  unfold madeK
  rintro (e | e | e | e | e | e | e | e | e)
  all_goals (have := e.1; omega)
/-- A type without a name and words. -/
theorem made_bare (hk : kidsP l t) (hl : (t.kids.length : Int) ≤ 16) (hb : t.name = [] ∧ t.words = []) (hK : madeK l t) : madeP l t := ⟨hk, by omega, fun _ => hb.1, fun _ _ => hb.2, hK⟩
theorem made_nobare (h8 : t.kind ≠ 8) (h6 : t.kind ≠ 6) (h7 : t.kind ≠ 7) (hb : ¬(t.name = [] ∧ t.words = [])) : ¬ madeP l t := fun e => hb ⟨e.2.2.1 h8, e.2.2.2.1 h6 h7⟩
theorem made_noK (h : ¬ madeK l t) : ¬ madeP l t := fun e => h e.2.2.2.2
theorem made_nokids (h : ¬ ∀ j (hj : j < t.kids.length), ¬(t.kids[j] < 0 ∨ t.kids[j] ≥ l.length)) : ¬ madeP l t := by
  intro e
  refine h (fun j hj hk => ?_)
  have := e.1 _ (List.getElem_mem hj)
  omega
theorem made_long (h : (t.kids.length : Int) > 16) : ¬ madeP l t := fun e => by have := e.2.1; omega
end

attribute [local irreducible] AC AT AO AK AH ACalls Sub Res.cells Res.obj Res.nix Res.own Res.map Exit.then Exit.inBlock bodyPost Code.wp Next Post Kont
section
variable {W0 : World} {L : List Res} {F : List Fact} {R : Value → List Res → List Fact → Prop}
set_option maxRecDepth 100000
set_option maxHeartbeats 4000000
theorem made_c (g : Glob W0) (l : List Ty) (t : Ty) (ht : TyOk t) {a1 a2 a3 : Option Addr} {k1 c1 k2 c2 k3 c3 : Nat} (m1 : fW t a1 k1 c1 ∈ F) (m2 : fK t a2 k2 c2 ∈ F) (m3 : fL l a3 k3 c3 ∈ F)
    (hT : madeP l t → R (.bool true) L F) (hF : ¬ madeP l t → R (.bool false) L F) : ACalls Tryd.prog W0 26 #[.slice a3 k3 c3, vTy t a1 k1 c1 a2 k2 c2] L F R := by
  have hnm := ht.name
  refine ACalls.body Tryd.func26 rfl Tryd.ntmps26 rfl ?_
  refine AC.seq (AC.region (AL.go (AO.box rfl rfl (fun b2 => ?_))))
  refine AL.go (AO.box rfl rfl (fun b3 => ?_))
  refine AL.go (AO.assign rfl rfl (AL.nil (AK.seqN (AC.seq (AC.seq (AC.region ?_))))))
  refine AL.go (AO.field rfl rfl ?_)
  refine AL.go (AO.loadB rfl rfl ?_)
  refine AL.go (AO.makeFunc rfl rfl ?_)
  refine AL.go (AO.call rfl rfl (containsFuncI_c t.kids m2 _ [.pointer (some ⟨b2, 0, none⟩)] (fun s => s < 0 ∨ s ≥ l.length) (fun s F' hF' R hT hF => made1_c l s (i := 1) (hF' _ m3) rfl hT hF) (fun c9 => ?_) (fun c9 => ?_)))
  · refine AL.go (AO.move rfl rfl (AL.no rfl rfl rfl rfl (AL.no rfl rfl rfl rfl (AL.no rfl rfl rfl rfl (AL.no rfl rfl rfl rfl (AL.go (AO.pickT rfl rfl rfl ?_)))))))
    refine AL.nil (AK.seqN (AC.condT rfl (AC.seq (AC.region (AL.go (AO.assign rfl rfl ?_))))))
    refine AL.nil (AK.seqN (AC.ret (AK.seqR ?_)))
    first | refine AK.ret (L' := L) (F' := F) Tryd.results26 rfl (by repeat (first | exact Sub.refl _ _ | refine Sub.trans Sub.drop ?_ | refine Sub.trans Sub.dropF ?_)) (hT ?_) | refine AK.ret (L' := L) (F' := F) Tryd.results26 rfl (by repeat (first | exact Sub.refl _ _ | refine Sub.trans Sub.drop ?_ | refine Sub.trans Sub.dropF ?_)) (hF ?_)
    first
    | exact made_nokids c9
    | exact made_long c14
    | exact made_noK (madeK_no c22 c23 c36 c54 c67 c85 c89 c94 c110)
  · refine AL.go (AO.move rfl rfl (AL.yes rfl rfl (AO.field rfl rfl ?_)))
    refine AL.yes rfl rfl (AO.loadB rfl rfl ?_)
    refine AL.yes rfl rfl (AO.len rfl rfl (fun hl13 => ?_) (hm := by repeat (first | exact mem0 | assumption | refine memS ?_)))
    refine AL.yes rfl rfl (AO.gtr rfl rfl rfl (fun c14 => ?_) (fun c14 => ?_))
    · refine AL.go (AO.pickF rfl rfl rfl (AL.nil (AK.seqN (AC.condT rfl (AC.seq (AC.region ?_))))))
      refine AL.go (AO.assign rfl rfl (AL.nil (AK.seqN (AC.ret (AK.seqR ?_)))))
      first | refine AK.ret (L' := L) (F' := F) Tryd.results26 rfl (by repeat (first | exact Sub.refl _ _ | refine Sub.trans Sub.drop ?_ | refine Sub.trans Sub.dropF ?_)) (hT ?_) | refine AK.ret (L' := L) (F' := F) Tryd.results26 rfl (by repeat (first | exact Sub.refl _ _ | refine Sub.trans Sub.drop ?_ | refine Sub.trans Sub.dropF ?_)) (hF ?_)
      first
      | exact made_nokids c9
      | exact made_long c14
      | exact made_noK (madeK_no c22 c23 c36 c54 c67 c85 c89 c94 c110)
    · refine AL.go (AO.pickF rfl rfl rfl (AL.nil (AK.seqN (AC.condF rfl (AC.skip (AK.seqN ?_))))))
      refine AC.seq (AC.region (AL.go (AO.field rfl rfl ?_)))
      refine AL.go (AO.loadB rfl rfl ?_)
      refine AL.go (AO.len rfl rfl (fun hl18 => ?_) (hm := by repeat (first | exact mem0 | assumption | refine memS ?_)))
      refine AL.go (AO.assign rfl rfl (AL.nil (AK.seqN (AC.seq (AC.seq (AC.region ?_))))))
      refine AL.go (AO.field rfl rfl ?_)
      refine AL.go (AO.loadB rfl rfl ?_)
      refine AL.nil (AK.seqN (AC.block (AC.seq (AC.seq (AC.region ?_)))))
      refine AL.go (AO.eql rfl rfl rfl (fun c22 => ?_) (fun c22 => ?_))
      · refine AL.go (AO.assign rfl rfl (AL.nil (AK.seqN (AC.condT rfl (AC.skip (AK.seqN ?_))))))
        refine AC.condT rfl (AC.seq (AC.region ?_))
        refine AL.go (AO.loadBA rfl rfl ?_)
        refine AL.go (AO.call rfl rfl (bare_c t (by repeat (first | exact mem0 | assumption | refine memS ?_)) (fun c25 => ?_) (fun c25 => ?_)))
        · refine AL.go (AO.move rfl rfl (AL.yes rfl rfl (AO.field rfl rfl ?_)))
          refine AL.yes rfl rfl (AO.loadB rfl rfl ?_)
          refine AL.yes rfl rfl (AO.eql rfl rfl rfl (fun c29 => ?_) (fun c29 => ?_))
          · refine AL.go (AO.pickT rfl rfl rfl (AL.go (AO.move rfl rfl (AL.yes rfl rfl (AO.move rfl rfl ?_)))))
            refine AL.yes rfl rfl (AO.eql rfl rfl rfl (fun c33 => ?_) (fun c33 => ?_))
            · refine AL.go (AO.pickT rfl rfl rfl (AL.go (AO.assign rfl rfl (AL.nil (AK.seqN (AC.ret (AK.blkR ?_)))))))
              refine AK.seqR ?_
              first | refine AK.ret (L' := L) (F' := F) Tryd.results26 rfl (by repeat (first | exact Sub.refl _ _ | refine Sub.trans Sub.drop ?_ | refine Sub.trans Sub.dropF ?_)) (hT ?_) | refine AK.ret (L' := L) (F' := F) Tryd.results26 rfl (by repeat (first | exact Sub.refl _ _ | refine Sub.trans Sub.drop ?_ | refine Sub.trans Sub.dropF ?_)) (hF ?_)
              first
              | exact made_bare (kids_yes c9) c14 c25 ((madeK_1 c22).2 (by omega))
              | exact made_nobare (by omega) (by omega) (by omega) c25
              | (refine made_noK (fun e => ?_); have e := (madeK_1 c22).1 e; omega)
            · refine AL.go (AO.pickT rfl rfl rfl (AL.go (AO.assign rfl rfl (AL.nil (AK.seqN (AC.ret (AK.blkR ?_)))))))
              refine AK.seqR ?_
              first | refine AK.ret (L' := L) (F' := F) Tryd.results26 rfl (by repeat (first | exact Sub.refl _ _ | refine Sub.trans Sub.drop ?_ | refine Sub.trans Sub.dropF ?_)) (hT ?_) | refine AK.ret (L' := L) (F' := F) Tryd.results26 rfl (by repeat (first | exact Sub.refl _ _ | refine Sub.trans Sub.drop ?_ | refine Sub.trans Sub.dropF ?_)) (hF ?_)
              first
              | exact made_bare (kids_yes c9) c14 c25 ((madeK_1 c22).2 (by omega))
              | exact made_nobare (by omega) (by omega) (by omega) c25
              | (refine made_noK (fun e => ?_); have e := (madeK_1 c22).1 e; omega)
          · refine AL.go (AO.pickT rfl rfl rfl (AL.go (AO.move rfl rfl (AL.no rfl rfl rfl rfl (AL.no rfl rfl rfl rfl (AL.go (AO.pickF rfl rfl rfl (AL.go (AO.assign rfl rfl ?_)))))))))
            refine AL.nil (AK.seqN (AC.ret (AK.blkR (AK.seqR ?_))))
            first | refine AK.ret (L' := L) (F' := F) Tryd.results26 rfl (by repeat (first | exact Sub.refl _ _ | refine Sub.trans Sub.drop ?_ | refine Sub.trans Sub.dropF ?_)) (hT ?_) | refine AK.ret (L' := L) (F' := F) Tryd.results26 rfl (by repeat (first | exact Sub.refl _ _ | refine Sub.trans Sub.drop ?_ | refine Sub.trans Sub.dropF ?_)) (hF ?_)
            first
            | exact made_bare (kids_yes c9) c14 c25 ((madeK_1 c22).2 (by omega))
            | exact made_nobare (by omega) (by omega) (by omega) c25
            | (refine made_noK (fun e => ?_); have e := (madeK_1 c22).1 e; omega)
        · refine AL.go (AO.move rfl rfl (AL.no rfl rfl rfl rfl (AL.no rfl rfl rfl rfl (AL.no rfl rfl rfl rfl (AL.go (AO.pickF rfl rfl rfl (AL.go (AO.move rfl rfl ?_))))))))
          refine AL.no rfl rfl rfl rfl (AL.no rfl rfl rfl rfl (AL.go (AO.pickF rfl rfl rfl (AL.go (AO.assign rfl rfl (AL.nil (AK.seqN ?_)))))))
          refine AC.ret (AK.blkR (AK.seqR ?_))
          first | refine AK.ret (L' := L) (F' := F) Tryd.results26 rfl (by repeat (first | exact Sub.refl _ _ | refine Sub.trans Sub.drop ?_ | refine Sub.trans Sub.dropF ?_)) (hT ?_) | refine AK.ret (L' := L) (F' := F) Tryd.results26 rfl (by repeat (first | exact Sub.refl _ _ | refine Sub.trans Sub.drop ?_ | refine Sub.trans Sub.dropF ?_)) (hF ?_)
          first
          | exact made_bare (kids_yes c9) c14 c25 ((madeK_1 c22).2 (by omega))
          | exact made_nobare (by omega) (by omega) (by omega) c25
          | (refine made_noK (fun e => ?_); have e := (madeK_1 c22).1 e; omega)
      · refine AL.go (AO.assign rfl rfl (AL.nil (AK.seqN (AC.condF rfl (AC.region ?_)))))
        refine AL.go (AO.eql rfl rfl rfl (fun c23 => ?_) (fun c23 => ?_))
        · refine AL.go (AO.assign rfl rfl (AL.nil (AK.seqN (AC.condT rfl (AC.seq (AC.region ?_))))))
          refine AL.go (AO.loadBA rfl rfl ?_)
          refine AL.go (AO.call rfl rfl (bare_c t (by repeat (first | exact mem0 | assumption | refine memS ?_)) (fun c25 => ?_) (fun c25 => ?_)))
          · refine AL.go (AO.move rfl rfl (AL.yes rfl rfl (AO.field rfl rfl ?_)))
            refine AL.yes rfl rfl (AO.loadB rfl rfl ?_)
            refine AL.yes rfl rfl (AO.eql rfl rfl rfl (fun c29 => ?_) (fun c29 => ?_))
            · refine AL.go (AO.pickT rfl rfl rfl (AL.go (AO.move rfl rfl (AL.yes rfl rfl (AO.move rfl rfl ?_)))))
              refine AL.yes rfl rfl (AO.eql rfl rfl rfl (fun c33 => ?_) (fun c33 => ?_))
              · refine AL.go (AO.pickT rfl rfl rfl (AL.go (AO.assign rfl rfl (AL.nil (AK.seqN (AC.ret (AK.blkR ?_)))))))
                refine AK.seqR ?_
                first | refine AK.ret (L' := L) (F' := F) Tryd.results26 rfl (by repeat (first | exact Sub.refl _ _ | refine Sub.trans Sub.drop ?_ | refine Sub.trans Sub.dropF ?_)) (hT ?_) | refine AK.ret (L' := L) (F' := F) Tryd.results26 rfl (by repeat (first | exact Sub.refl _ _ | refine Sub.trans Sub.drop ?_ | refine Sub.trans Sub.dropF ?_)) (hF ?_)
                first
                | exact made_bare (kids_yes c9) c14 c25 ((madeK_2 c23).2 (by omega))
                | exact made_nobare (by omega) (by omega) (by omega) c25
                | (refine made_noK (fun e => ?_); have e := (madeK_2 c23).1 e; omega)
              · refine AL.go (AO.pickT rfl rfl rfl (AL.go (AO.assign rfl rfl (AL.nil (AK.seqN (AC.ret (AK.blkR ?_)))))))
                refine AK.seqR ?_
                first | refine AK.ret (L' := L) (F' := F) Tryd.results26 rfl (by repeat (first | exact Sub.refl _ _ | refine Sub.trans Sub.drop ?_ | refine Sub.trans Sub.dropF ?_)) (hT ?_) | refine AK.ret (L' := L) (F' := F) Tryd.results26 rfl (by repeat (first | exact Sub.refl _ _ | refine Sub.trans Sub.drop ?_ | refine Sub.trans Sub.dropF ?_)) (hF ?_)
                first
                | exact made_bare (kids_yes c9) c14 c25 ((madeK_2 c23).2 (by omega))
                | exact made_nobare (by omega) (by omega) (by omega) c25
                | (refine made_noK (fun e => ?_); have e := (madeK_2 c23).1 e; omega)
            · refine AL.go (AO.pickT rfl rfl rfl (AL.go (AO.move rfl rfl (AL.no rfl rfl rfl rfl (AL.no rfl rfl rfl rfl (AL.go (AO.pickF rfl rfl rfl (AL.go (AO.assign rfl rfl ?_)))))))))
              refine AL.nil (AK.seqN (AC.ret (AK.blkR (AK.seqR ?_))))
              first | refine AK.ret (L' := L) (F' := F) Tryd.results26 rfl (by repeat (first | exact Sub.refl _ _ | refine Sub.trans Sub.drop ?_ | refine Sub.trans Sub.dropF ?_)) (hT ?_) | refine AK.ret (L' := L) (F' := F) Tryd.results26 rfl (by repeat (first | exact Sub.refl _ _ | refine Sub.trans Sub.drop ?_ | refine Sub.trans Sub.dropF ?_)) (hF ?_)
              first
              | exact made_bare (kids_yes c9) c14 c25 ((madeK_2 c23).2 (by omega))
              | exact made_nobare (by omega) (by omega) (by omega) c25
              | (refine made_noK (fun e => ?_); have e := (madeK_2 c23).1 e; omega)
          · refine AL.go (AO.move rfl rfl (AL.no rfl rfl rfl rfl (AL.no rfl rfl rfl rfl (AL.no rfl rfl rfl rfl (AL.go (AO.pickF rfl rfl rfl (AL.go (AO.move rfl rfl ?_))))))))
            refine AL.no rfl rfl rfl rfl (AL.no rfl rfl rfl rfl (AL.go (AO.pickF rfl rfl rfl (AL.go (AO.assign rfl rfl (AL.nil (AK.seqN ?_)))))))
            refine AC.ret (AK.blkR (AK.seqR ?_))
            first | refine AK.ret (L' := L) (F' := F) Tryd.results26 rfl (by repeat (first | exact Sub.refl _ _ | refine Sub.trans Sub.drop ?_ | refine Sub.trans Sub.dropF ?_)) (hT ?_) | refine AK.ret (L' := L) (F' := F) Tryd.results26 rfl (by repeat (first | exact Sub.refl _ _ | refine Sub.trans Sub.drop ?_ | refine Sub.trans Sub.dropF ?_)) (hF ?_)
            first
            | exact made_bare (kids_yes c9) c14 c25 ((madeK_2 c23).2 (by omega))
            | exact made_nobare (by omega) (by omega) (by omega) c25
            | (refine made_noK (fun e => ?_); have e := (madeK_2 c23).1 e; omega)
        · refine AL.go (AO.assign rfl rfl (AL.nil (AK.seqN (AC.condF rfl (AC.seq (AC.region ?_))))))
          refine AL.go (AO.eql rfl rfl rfl (fun c36 => ?_) (fun c36 => ?_))
          · refine AL.go (AO.assign rfl rfl (AL.nil (AK.seqN (AC.condT rfl (AC.seq (AC.region ?_))))))
            refine AL.go (AO.loadBA rfl rfl ?_)
            refine AL.go (AO.call rfl rfl (bare_c t (by repeat (first | exact mem0 | assumption | refine memS ?_)) (fun c38 => ?_) (fun c38 => ?_)))
            · refine AL.go (AO.move rfl rfl (AL.yes rfl rfl (AO.field rfl rfl ?_)))
              refine AL.yes rfl rfl (AO.loadB rfl rfl ?_)
              refine AL.yes rfl rfl (AO.geq rfl rfl rfl (fun c42 => ?_) (fun c42 => ?_))
              · refine AL.go (AO.pickT rfl rfl rfl (AL.go (AO.move rfl rfl (AL.yes rfl rfl (AO.field rfl rfl ?_)))))
                refine AL.yes rfl rfl (AO.loadB rfl rfl ?_)
                refine AL.yes rfl rfl (AO.leq rfl rfl rfl (fun c47 => ?_) (fun c47 => ?_))
                · refine AL.go (AO.pickT rfl rfl rfl (AL.go (AO.move rfl rfl (AL.yes rfl rfl (AO.move rfl rfl ?_)))))
                  refine AL.yes rfl rfl (AO.eql rfl rfl rfl (fun c51 => ?_) (fun c51 => ?_))
                  · refine AL.go (AO.pickT rfl rfl rfl (AL.go (AO.assign rfl rfl (AL.nil (AK.seqN (AC.ret (AK.blkR ?_)))))))
                    refine AK.seqR ?_
                    first | refine AK.ret (L' := L) (F' := F) Tryd.results26 rfl (by repeat (first | exact Sub.refl _ _ | refine Sub.trans Sub.drop ?_ | refine Sub.trans Sub.dropF ?_)) (hT ?_) | refine AK.ret (L' := L) (F' := F) Tryd.results26 rfl (by repeat (first | exact Sub.refl _ _ | refine Sub.trans Sub.drop ?_ | refine Sub.trans Sub.dropF ?_)) (hF ?_)
                    first
                    | exact made_bare (kids_yes c9) c14 c38 ((madeK_3 c36).2 (by omega))
                    | exact made_nobare (by omega) (by omega) (by omega) c38
                    | (refine made_noK (fun e => ?_); have e := (madeK_3 c36).1 e; omega)
                  · refine AL.go (AO.pickT rfl rfl rfl (AL.go (AO.assign rfl rfl (AL.nil (AK.seqN (AC.ret (AK.blkR ?_)))))))
                    refine AK.seqR ?_
                    first | refine AK.ret (L' := L) (F' := F) Tryd.results26 rfl (by repeat (first | exact Sub.refl _ _ | refine Sub.trans Sub.drop ?_ | refine Sub.trans Sub.dropF ?_)) (hT ?_) | refine AK.ret (L' := L) (F' := F) Tryd.results26 rfl (by repeat (first | exact Sub.refl _ _ | refine Sub.trans Sub.drop ?_ | refine Sub.trans Sub.dropF ?_)) (hF ?_)
                    first
                    | exact made_bare (kids_yes c9) c14 c38 ((madeK_3 c36).2 (by omega))
                    | exact made_nobare (by omega) (by omega) (by omega) c38
                    | (refine made_noK (fun e => ?_); have e := (madeK_3 c36).1 e; omega)
                · refine AL.go (AO.pickT rfl rfl rfl (AL.go (AO.move rfl rfl (AL.no rfl rfl rfl rfl (AL.no rfl rfl rfl rfl (AL.go (AO.pickF rfl rfl rfl (AL.go (AO.assign rfl rfl ?_)))))))))
                  refine AL.nil (AK.seqN (AC.ret (AK.blkR (AK.seqR ?_))))
                  first | refine AK.ret (L' := L) (F' := F) Tryd.results26 rfl (by repeat (first | exact Sub.refl _ _ | refine Sub.trans Sub.drop ?_ | refine Sub.trans Sub.dropF ?_)) (hT ?_) | refine AK.ret (L' := L) (F' := F) Tryd.results26 rfl (by repeat (first | exact Sub.refl _ _ | refine Sub.trans Sub.drop ?_ | refine Sub.trans Sub.dropF ?_)) (hF ?_)
                  first
                  | exact made_bare (kids_yes c9) c14 c38 ((madeK_3 c36).2 (by omega))
                  | exact made_nobare (by omega) (by omega) (by omega) c38
                  | (refine made_noK (fun e => ?_); have e := (madeK_3 c36).1 e; omega)
              · refine AL.go (AO.pickT rfl rfl rfl (AL.go (AO.move rfl rfl (AL.no rfl rfl rfl rfl (AL.no rfl rfl rfl rfl (AL.no rfl rfl rfl rfl (AL.go (AO.pickF rfl rfl rfl ?_))))))))
                refine AL.go (AO.move rfl rfl (AL.no rfl rfl rfl rfl (AL.no rfl rfl rfl rfl (AL.go (AO.pickF rfl rfl rfl (AL.go (AO.assign rfl rfl (AL.nil ?_))))))))
                refine AK.seqN (AC.ret (AK.blkR (AK.seqR ?_)))
                first | refine AK.ret (L' := L) (F' := F) Tryd.results26 rfl (by repeat (first | exact Sub.refl _ _ | refine Sub.trans Sub.drop ?_ | refine Sub.trans Sub.dropF ?_)) (hT ?_) | refine AK.ret (L' := L) (F' := F) Tryd.results26 rfl (by repeat (first | exact Sub.refl _ _ | refine Sub.trans Sub.drop ?_ | refine Sub.trans Sub.dropF ?_)) (hF ?_)
                first
                | exact made_bare (kids_yes c9) c14 c38 ((madeK_3 c36).2 (by omega))
                | exact made_nobare (by omega) (by omega) (by omega) c38
                | (refine made_noK (fun e => ?_); have e := (madeK_3 c36).1 e; omega)
            · refine AL.go (AO.move rfl rfl (AL.no rfl rfl rfl rfl (AL.no rfl rfl rfl rfl (AL.no rfl rfl rfl rfl (AL.go (AO.pickF rfl rfl rfl (AL.go (AO.move rfl rfl ?_))))))))
              refine AL.no rfl rfl rfl rfl (AL.no rfl rfl rfl rfl (AL.no rfl rfl rfl rfl (AL.go (AO.pickF rfl rfl rfl (AL.go (AO.move rfl rfl (AL.no rfl rfl rfl rfl ?_)))))))
              refine AL.no rfl rfl rfl rfl (AL.go (AO.pickF rfl rfl rfl (AL.go (AO.assign rfl rfl (AL.nil (AK.seqN (AC.ret ?_)))))))
              refine AK.blkR (AK.seqR ?_)
              first | refine AK.ret (L' := L) (F' := F) Tryd.results26 rfl (by repeat (first | exact Sub.refl _ _ | refine Sub.trans Sub.drop ?_ | refine Sub.trans Sub.dropF ?_)) (hT ?_) | refine AK.ret (L' := L) (F' := F) Tryd.results26 rfl (by repeat (first | exact Sub.refl _ _ | refine Sub.trans Sub.drop ?_ | refine Sub.trans Sub.dropF ?_)) (hF ?_)
              first
              | exact made_bare (kids_yes c9) c14 c38 ((madeK_3 c36).2 (by omega))
              | exact made_nobare (by omega) (by omega) (by omega) c38
              | (refine made_noK (fun e => ?_); have e := (madeK_3 c36).1 e; omega)
          · refine AL.go (AO.assign rfl rfl (AL.nil (AK.seqN (AC.condF rfl (AC.seq (AC.region ?_))))))
            refine AL.go (AO.eql rfl rfl rfl (fun c54 => ?_) (fun c54 => ?_))
            · refine AL.go (AO.assign rfl rfl (AL.nil (AK.seqN (AC.condT rfl (AC.seq (AC.region ?_))))))
              refine AL.go (AO.loadBA rfl rfl ?_)
              refine AL.go (AO.call rfl rfl (bare_c t (by repeat (first | exact mem0 | assumption | refine memS ?_)) (fun c56 => ?_) (fun c56 => ?_)))
              · refine AL.go (AO.move rfl rfl (AL.yes rfl rfl (AO.field rfl rfl ?_)))
                refine AL.yes rfl rfl (AO.loadB rfl rfl ?_)
                refine AL.yes rfl rfl (AO.eql rfl rfl rfl (fun c60 => ?_) (fun c60 => ?_))
                · refine AL.go (AO.pickT rfl rfl rfl (AL.go (AO.move rfl rfl (AL.yes rfl rfl (AO.move rfl rfl ?_)))))
                  refine AL.yes rfl rfl (AO.eql rfl rfl rfl (fun c64 => ?_) (fun c64 => ?_))
                  · refine AL.go (AO.pickT rfl rfl rfl (AL.go (AO.assign rfl rfl (AL.nil (AK.seqN (AC.ret (AK.blkR ?_)))))))
                    refine AK.seqR ?_
                    first | refine AK.ret (L' := L) (F' := F) Tryd.results26 rfl (by repeat (first | exact Sub.refl _ _ | refine Sub.trans Sub.drop ?_ | refine Sub.trans Sub.dropF ?_)) (hT ?_) | refine AK.ret (L' := L) (F' := F) Tryd.results26 rfl (by repeat (first | exact Sub.refl _ _ | refine Sub.trans Sub.drop ?_ | refine Sub.trans Sub.dropF ?_)) (hF ?_)
                    first
                    | exact made_bare (kids_yes c9) c14 c56 ((madeK_4 c54).2 (by omega))
                    | exact made_nobare (by omega) (by omega) (by omega) c56
                    | (refine made_noK (fun e => ?_); have e := (madeK_4 c54).1 e; omega)
                  · refine AL.go (AO.pickT rfl rfl rfl (AL.go (AO.assign rfl rfl (AL.nil (AK.seqN (AC.ret (AK.blkR ?_)))))))
                    refine AK.seqR ?_
                    first | refine AK.ret (L' := L) (F' := F) Tryd.results26 rfl (by repeat (first | exact Sub.refl _ _ | refine Sub.trans Sub.drop ?_ | refine Sub.trans Sub.dropF ?_)) (hT ?_) | refine AK.ret (L' := L) (F' := F) Tryd.results26 rfl (by repeat (first | exact Sub.refl _ _ | refine Sub.trans Sub.drop ?_ | refine Sub.trans Sub.dropF ?_)) (hF ?_)
                    first
                    | exact made_bare (kids_yes c9) c14 c56 ((madeK_4 c54).2 (by omega))
                    | exact made_nobare (by omega) (by omega) (by omega) c56
                    | (refine made_noK (fun e => ?_); have e := (madeK_4 c54).1 e; omega)
                · refine AL.go (AO.pickT rfl rfl rfl (AL.go (AO.move rfl rfl (AL.no rfl rfl rfl rfl (AL.no rfl rfl rfl rfl (AL.go (AO.pickF rfl rfl rfl (AL.go (AO.assign rfl rfl ?_)))))))))
                  refine AL.nil (AK.seqN (AC.ret (AK.blkR (AK.seqR ?_))))
                  first | refine AK.ret (L' := L) (F' := F) Tryd.results26 rfl (by repeat (first | exact Sub.refl _ _ | refine Sub.trans Sub.drop ?_ | refine Sub.trans Sub.dropF ?_)) (hT ?_) | refine AK.ret (L' := L) (F' := F) Tryd.results26 rfl (by repeat (first | exact Sub.refl _ _ | refine Sub.trans Sub.drop ?_ | refine Sub.trans Sub.dropF ?_)) (hF ?_)
                  first
                  | exact made_bare (kids_yes c9) c14 c56 ((madeK_4 c54).2 (by omega))
                  | exact made_nobare (by omega) (by omega) (by omega) c56
                  | (refine made_noK (fun e => ?_); have e := (madeK_4 c54).1 e; omega)
              · refine AL.go (AO.move rfl rfl (AL.no rfl rfl rfl rfl (AL.no rfl rfl rfl rfl (AL.no rfl rfl rfl rfl (AL.go (AO.pickF rfl rfl rfl (AL.go (AO.move rfl rfl ?_))))))))
                refine AL.no rfl rfl rfl rfl (AL.no rfl rfl rfl rfl (AL.go (AO.pickF rfl rfl rfl (AL.go (AO.assign rfl rfl (AL.nil (AK.seqN ?_)))))))
                refine AC.ret (AK.blkR (AK.seqR ?_))
                first | refine AK.ret (L' := L) (F' := F) Tryd.results26 rfl (by repeat (first | exact Sub.refl _ _ | refine Sub.trans Sub.drop ?_ | refine Sub.trans Sub.dropF ?_)) (hT ?_) | refine AK.ret (L' := L) (F' := F) Tryd.results26 rfl (by repeat (first | exact Sub.refl _ _ | refine Sub.trans Sub.drop ?_ | refine Sub.trans Sub.dropF ?_)) (hF ?_)
                first
                | exact made_bare (kids_yes c9) c14 c56 ((madeK_4 c54).2 (by omega))
                | exact made_nobare (by omega) (by omega) (by omega) c56
                | (refine made_noK (fun e => ?_); have e := (madeK_4 c54).1 e; omega)
            · refine AL.go (AO.assign rfl rfl (AL.nil (AK.seqN (AC.condF rfl (AC.seq (AC.region ?_))))))
              refine AL.go (AO.eql rfl rfl rfl (fun c67 => ?_) (fun c67 => ?_))
              · refine AL.go (AO.assign rfl rfl (AL.nil (AK.seqN (AC.condT rfl (AC.seq (AC.region ?_))))))
                refine AL.go (AO.loadBA rfl rfl ?_)
                refine AL.go (AO.call rfl rfl (bare_c t (by repeat (first | exact mem0 | assumption | refine memS ?_)) (fun c69 => ?_) (fun c69 => ?_)))
                · refine AL.go (AO.move rfl rfl (AL.yes rfl rfl (AO.field rfl rfl ?_)))
                  refine AL.yes rfl rfl (AO.loadB rfl rfl ?_)
                  refine AL.yes rfl rfl (AO.eql rfl rfl rfl (fun c73 => ?_) (fun c73 => ?_))
                  · refine AL.yes rfl rfl (AO.move rfl rfl (AL.no rfl rfl rfl rfl (AL.no rfl rfl rfl rfl (AL.no rfl rfl rfl rfl (AL.no rfl rfl rfl rfl (AL.no rfl rfl rfl rfl ?_))))))
                    refine AL.no rfl rfl rfl rfl (AL.no rfl rfl rfl rfl (AL.yes rfl rfl (AO.pickT rfl rfl rfl (AL.go (AO.pickT rfl rfl rfl (AL.go (AO.assign rfl rfl (AL.nil ?_))))))))
                    refine AK.seqN (AC.ret (AK.blkR (AK.seqR ?_)))
                    first | refine AK.ret (L' := L) (F' := F) Tryd.results26 rfl (by repeat (first | exact Sub.refl _ _ | refine Sub.trans Sub.drop ?_ | refine Sub.trans Sub.dropF ?_)) (hT ?_) | refine AK.ret (L' := L) (F' := F) Tryd.results26 rfl (by repeat (first | exact Sub.refl _ _ | refine Sub.trans Sub.drop ?_ | refine Sub.trans Sub.dropF ?_)) (hF ?_)
                    first
                    | exact made_bare (kids_yes c9) c14 c69 ((madeK_5 c67).2 (by omega))
                    | exact made_nobare (by omega) (by omega) (by omega) c69
                    | (refine made_noK (fun e => ?_); have e := (madeK_5 c67).1 e; omega)
                  · refine AL.yes rfl rfl (AO.move rfl rfl (AL.yes rfl rfl (AO.field rfl rfl ?_)))
                    refine AL.yes rfl rfl (AO.loadB rfl rfl ?_)
                    refine AL.yes rfl rfl (AO.eql rfl rfl rfl (fun c77 => ?_) (fun c77 => ?_))
                    · refine AL.yes rfl rfl (AO.move rfl rfl (AL.yes rfl rfl (AO.move rfl rfl ?_)))
                      refine AL.yes rfl rfl (AO.gtr rfl rfl rfl (fun c80 => ?_) (fun c80 => ?_))
                      · refine AL.yes rfl rfl (AO.pickT rfl rfl rfl (AL.yes rfl rfl (AO.pickF rfl rfl rfl (AL.go (AO.pickT rfl rfl rfl (AL.go (AO.assign rfl rfl (AL.nil (AK.seqN ?_)))))))))
                        refine AC.ret (AK.blkR (AK.seqR ?_))
                        first | refine AK.ret (L' := L) (F' := F) Tryd.results26 rfl (by repeat (first | exact Sub.refl _ _ | refine Sub.trans Sub.drop ?_ | refine Sub.trans Sub.dropF ?_)) (hT ?_) | refine AK.ret (L' := L) (F' := F) Tryd.results26 rfl (by repeat (first | exact Sub.refl _ _ | refine Sub.trans Sub.drop ?_ | refine Sub.trans Sub.dropF ?_)) (hF ?_)
                        first
                        | exact made_bare (kids_yes c9) c14 c69 ((madeK_5 c67).2 (by omega))
                        | exact made_nobare (by omega) (by omega) (by omega) c69
                        | (refine made_noK (fun e => ?_); have e := (madeK_5 c67).1 e; omega)
                      · refine AL.yes rfl rfl (AO.pickT rfl rfl rfl (AL.yes rfl rfl (AO.pickF rfl rfl rfl (AL.go (AO.pickT rfl rfl rfl (AL.go (AO.assign rfl rfl (AL.nil (AK.seqN ?_)))))))))
                        refine AC.ret (AK.blkR (AK.seqR ?_))
                        first | refine AK.ret (L' := L) (F' := F) Tryd.results26 rfl (by repeat (first | exact Sub.refl _ _ | refine Sub.trans Sub.drop ?_ | refine Sub.trans Sub.dropF ?_)) (hT ?_) | refine AK.ret (L' := L) (F' := F) Tryd.results26 rfl (by repeat (first | exact Sub.refl _ _ | refine Sub.trans Sub.drop ?_ | refine Sub.trans Sub.dropF ?_)) (hF ?_)
                        first
                        | exact made_bare (kids_yes c9) c14 c69 ((madeK_5 c67).2 (by omega))
                        | exact made_nobare (by omega) (by omega) (by omega) c69
                        | (refine made_noK (fun e => ?_); have e := (madeK_5 c67).1 e; omega)
                    · refine AL.yes rfl rfl (AO.move rfl rfl (AL.no rfl rfl rfl rfl (AL.no rfl rfl rfl rfl (AL.yes rfl rfl (AO.pickF rfl rfl rfl (AL.yes rfl rfl (AO.pickF rfl rfl rfl (AL.go (AO.pickT rfl rfl rfl ?_)))))))))
                      refine AL.go (AO.assign rfl rfl (AL.nil (AK.seqN (AC.ret (AK.blkR (AK.seqR ?_))))))
                      first | refine AK.ret (L' := L) (F' := F) Tryd.results26 rfl (by repeat (first | exact Sub.refl _ _ | refine Sub.trans Sub.drop ?_ | refine Sub.trans Sub.dropF ?_)) (hT ?_) | refine AK.ret (L' := L) (F' := F) Tryd.results26 rfl (by repeat (first | exact Sub.refl _ _ | refine Sub.trans Sub.drop ?_ | refine Sub.trans Sub.dropF ?_)) (hF ?_)
                      first
                      | exact made_bare (kids_yes c9) c14 c69 ((madeK_5 c67).2 (by omega))
                      | exact made_nobare (by omega) (by omega) (by omega) c69
                      | (refine made_noK (fun e => ?_); have e := (madeK_5 c67).1 e; omega)
                · refine AL.go (AO.move rfl rfl (AL.no rfl rfl rfl rfl (AL.no rfl rfl rfl rfl (AL.no rfl rfl rfl rfl (AL.no rfl rfl rfl rfl (AL.no rfl rfl rfl rfl ?_))))))
                  refine AL.no rfl rfl rfl rfl (AL.no rfl rfl rfl rfl (AL.no rfl rfl rfl rfl (AL.no rfl rfl rfl rfl (AL.no rfl rfl rfl rfl (AL.no rfl rfl rfl rfl ?_)))))
                  refine AL.no rfl rfl rfl rfl (AL.go (AO.pickF rfl rfl rfl (AL.go (AO.assign rfl rfl (AL.nil (AK.seqN (AC.ret ?_)))))))
                  refine AK.blkR (AK.seqR ?_)
                  first | refine AK.ret (L' := L) (F' := F) Tryd.results26 rfl (by repeat (first | exact Sub.refl _ _ | refine Sub.trans Sub.drop ?_ | refine Sub.trans Sub.dropF ?_)) (hT ?_) | refine AK.ret (L' := L) (F' := F) Tryd.results26 rfl (by repeat (first | exact Sub.refl _ _ | refine Sub.trans Sub.drop ?_ | refine Sub.trans Sub.dropF ?_)) (hF ?_)
                  first
                  | exact made_bare (kids_yes c9) c14 c69 ((madeK_5 c67).2 (by omega))
                  | exact made_nobare (by omega) (by omega) (by omega) c69
                  | (refine made_noK (fun e => ?_); have e := (madeK_5 c67).1 e; omega)
              · refine AL.go (AO.assign rfl rfl (AL.nil (AK.seqN (AC.condF rfl (AC.seq (AC.region ?_))))))
                refine AL.go (AO.eql rfl rfl rfl (fun c85 => ?_) (fun c85 => ?_))
                · refine AL.go (AO.assign rfl rfl (AL.nil (AK.seqN (AC.condT rfl (AC.seq (AC.region ?_))))))
                  refine AL.go (AO.loadBA rfl rfl ?_)
                  refine AL.go (AO.call rfl rfl (fields_c t (by repeat (first | exact mem0 | assumption | refine memS ?_)) (by repeat (first | exact mem0 | assumption | refine memS ?_)) (fun c87 => ?_) (fun c87 => ?_)))
                  · refine AL.go (AO.assign rfl rfl (AL.nil (AK.seqN (AC.ret (AK.blkR (AK.seqR ?_))))))
                    first | refine AK.ret (L' := L) (F' := F) Tryd.results26 rfl (by repeat (first | exact Sub.refl _ _ | refine Sub.trans Sub.drop ?_ | refine Sub.trans Sub.dropF ?_)) (hT ?_) | refine AK.ret (L' := L) (F' := F) Tryd.results26 rfl (by repeat (first | exact Sub.refl _ _ | refine Sub.trans Sub.drop ?_ | refine Sub.trans Sub.dropF ?_)) (hF ?_)
                    first
                    | exact ⟨kids_yes c9, by omega, fun _ => c87.2.1, fun h => absurd c85 h, (madeK_6 c85).2 ⟨c87.2.2.1, c87.1, c87.2.2.2⟩⟩
                    | exact fun e => c87 ⟨((madeK_6 c85).1 e.2.2.2.2).2.1, e.2.2.1 (by omega), ((madeK_6 c85).1 e.2.2.2.2).1, ((madeK_6 c85).1 e.2.2.2.2).2.2⟩
                  · refine AL.go (AO.assign rfl rfl (AL.nil (AK.seqN (AC.ret (AK.blkR (AK.seqR ?_))))))
                    first | refine AK.ret (L' := L) (F' := F) Tryd.results26 rfl (by repeat (first | exact Sub.refl _ _ | refine Sub.trans Sub.drop ?_ | refine Sub.trans Sub.dropF ?_)) (hT ?_) | refine AK.ret (L' := L) (F' := F) Tryd.results26 rfl (by repeat (first | exact Sub.refl _ _ | refine Sub.trans Sub.drop ?_ | refine Sub.trans Sub.dropF ?_)) (hF ?_)
                    first
                    | exact ⟨kids_yes c9, by omega, fun _ => c87.2.1, fun h => absurd c85 h, (madeK_6 c85).2 ⟨c87.2.2.1, c87.1, c87.2.2.2⟩⟩
                    | exact fun e => c87 ⟨((madeK_6 c85).1 e.2.2.2.2).2.1, e.2.2.1 (by omega), ((madeK_6 c85).1 e.2.2.2.2).1, ((madeK_6 c85).1 e.2.2.2.2).2.2⟩
                · refine AL.go (AO.assign rfl rfl (AL.nil (AK.seqN (AC.condF rfl (AC.seq (AC.region ?_))))))
                  refine AL.go (AO.eql rfl rfl rfl (fun c89 => ?_) (fun c89 => ?_))
                  · refine AL.go (AO.assign rfl rfl (AL.nil (AK.seqN (AC.condT rfl (AC.seq (AC.region ?_))))))
                    refine AL.go (AO.loadB rfl rfl ?_)
                    refine AL.go (AO.loadBA rfl rfl ?_)
                    refine AL.go (AO.call rfl rfl (elems_c l t (kids_yes c9) (by repeat (first | exact mem0 | assumption | refine memS ?_)) (by repeat (first | exact mem0 | assumption | refine memS ?_)) (by repeat (first | exact mem0 | assumption | refine memS ?_)) (fun c92 => ?_) (fun c92 => ?_)))
                    · refine AL.go (AO.assign rfl rfl (AL.nil (AK.seqN (AC.ret (AK.blkR (AK.seqR ?_))))))
                      first | refine AK.ret (L' := L) (F' := F) Tryd.results26 rfl (by repeat (first | exact Sub.refl _ _ | refine Sub.trans Sub.drop ?_ | refine Sub.trans Sub.dropF ?_)) (hT ?_) | refine AK.ret (L' := L) (F' := F) Tryd.results26 rfl (by repeat (first | exact Sub.refl _ _ | refine Sub.trans Sub.drop ?_ | refine Sub.trans Sub.dropF ?_)) (hF ?_)
                      first
                      | exact ⟨kids_yes c9, by omega, fun _ => c92.2, fun _ h => absurd c89 h, (madeK_7 c89).2 c92.1⟩
                      | exact fun e => c92 ⟨(madeK_7 c89).1 e.2.2.2.2, e.2.2.1 (by omega)⟩
                    · refine AL.go (AO.assign rfl rfl (AL.nil (AK.seqN (AC.ret (AK.blkR (AK.seqR ?_))))))
                      first | refine AK.ret (L' := L) (F' := F) Tryd.results26 rfl (by repeat (first | exact Sub.refl _ _ | refine Sub.trans Sub.drop ?_ | refine Sub.trans Sub.dropF ?_)) (hT ?_) | refine AK.ret (L' := L) (F' := F) Tryd.results26 rfl (by repeat (first | exact Sub.refl _ _ | refine Sub.trans Sub.drop ?_ | refine Sub.trans Sub.dropF ?_)) (hF ?_)
                      first
                      | exact ⟨kids_yes c9, by omega, fun _ => c92.2, fun _ h => absurd c89 h, (madeK_7 c89).2 c92.1⟩
                      | exact fun e => c92 ⟨(madeK_7 c89).1 e.2.2.2.2, e.2.2.1 (by omega)⟩
                  · refine AL.go (AO.assign rfl rfl (AL.nil (AK.seqN (AC.condF rfl (AC.seq (AC.region ?_))))))
                    refine AL.go (AO.eql rfl rfl rfl (fun c94 => ?_) (fun c94 => ?_))
                    · refine AL.go (AO.assign rfl rfl (AL.nil (AK.seqN (AC.condT rfl (AC.seq (AC.region ?_))))))
                      refine AL.go (AO.field rfl rfl ?_)
                      refine AL.go (AO.loadB rfl rfl ?_)
                      refine AL.go (AO.call rfl rfl (named_c g t.name (by omega) (fun c97 => ?_) (fun c97 => ?_)))
                      · refine AL.go (AO.move rfl rfl (AL.yes rfl rfl (AO.field rfl rfl ?_)))
                        refine AL.yes rfl rfl (AO.loadB rfl rfl ?_)
                        refine AL.yes rfl rfl (AO.eql rfl rfl rfl (fun c101 => ?_) (fun c101 => ?_))
                        · refine AL.go (AO.pickT rfl rfl rfl (AL.go (AO.move rfl rfl (AL.yes rfl rfl (AO.field rfl rfl ?_)))))
                          refine AL.yes rfl rfl (AO.loadB rfl rfl ?_)
                          refine AL.yes rfl rfl (AO.len rfl rfl (fun hl106 => ?_) (hm := by repeat (first | exact mem0 | assumption | refine memS ?_)))
                          refine AL.yes rfl rfl (AO.eql rfl rfl rfl (fun c107 => ?_) (fun c107 => ?_))
                          · refine AL.go (AO.pickT rfl rfl rfl (AL.go (AO.assign rfl rfl (AL.nil (AK.seqN (AC.ret (AK.blkR ?_)))))))
                            refine AK.seqR ?_
                            first | refine AK.ret (L' := L) (F' := F) Tryd.results26 rfl (by repeat (first | exact Sub.refl _ _ | refine Sub.trans Sub.drop ?_ | refine Sub.trans Sub.dropF ?_)) (hT ?_) | refine AK.ret (L' := L) (F' := F) Tryd.results26 rfl (by repeat (first | exact Sub.refl _ _ | refine Sub.trans Sub.drop ?_ | refine Sub.trans Sub.dropF ?_)) (hF ?_)
                            first
                            | exact ⟨kids_yes c9, by omega, fun h => absurd c94 h, fun _ _ => nil_of c107, (madeK_8 c94).2 ⟨c101, c97⟩⟩
                            | exact fun e => c97 ((madeK_8 c94).1 e.2.2.2.2).2
                            | exact fun e => c101 ((madeK_8 c94).1 e.2.2.2.2).1
                            | exact fun e => c107 (by rw [e.2.2.2.1 (by omega) (by omega)]; rfl)
                          · refine AL.go (AO.pickT rfl rfl rfl (AL.go (AO.assign rfl rfl (AL.nil (AK.seqN (AC.ret (AK.blkR ?_)))))))
                            refine AK.seqR ?_
                            first | refine AK.ret (L' := L) (F' := F) Tryd.results26 rfl (by repeat (first | exact Sub.refl _ _ | refine Sub.trans Sub.drop ?_ | refine Sub.trans Sub.dropF ?_)) (hT ?_) | refine AK.ret (L' := L) (F' := F) Tryd.results26 rfl (by repeat (first | exact Sub.refl _ _ | refine Sub.trans Sub.drop ?_ | refine Sub.trans Sub.dropF ?_)) (hF ?_)
                            first
                            | exact ⟨kids_yes c9, by omega, fun h => absurd c94 h, fun _ _ => nil_of c107, (madeK_8 c94).2 ⟨c101, c97⟩⟩
                            | exact fun e => c97 ((madeK_8 c94).1 e.2.2.2.2).2
                            | exact fun e => c101 ((madeK_8 c94).1 e.2.2.2.2).1
                            | exact fun e => c107 (by rw [e.2.2.2.1 (by omega) (by omega)]; rfl)
                        · refine AL.go (AO.pickT rfl rfl rfl (AL.go (AO.move rfl rfl (AL.no rfl rfl rfl rfl (AL.no rfl rfl rfl rfl (AL.no rfl rfl rfl rfl (AL.no rfl rfl rfl rfl ?_)))))))
                          refine AL.go (AO.pickF rfl rfl rfl (AL.go (AO.assign rfl rfl (AL.nil (AK.seqN (AC.ret (AK.blkR ?_)))))))
                          refine AK.seqR ?_
                          first | refine AK.ret (L' := L) (F' := F) Tryd.results26 rfl (by repeat (first | exact Sub.refl _ _ | refine Sub.trans Sub.drop ?_ | refine Sub.trans Sub.dropF ?_)) (hT ?_) | refine AK.ret (L' := L) (F' := F) Tryd.results26 rfl (by repeat (first | exact Sub.refl _ _ | refine Sub.trans Sub.drop ?_ | refine Sub.trans Sub.dropF ?_)) (hF ?_)
                          first
                          | exact ⟨kids_yes c9, by omega, fun h => absurd c94 h, fun _ _ => nil_of c107, (madeK_8 c94).2 ⟨c101, c97⟩⟩
                          | exact fun e => c97 ((madeK_8 c94).1 e.2.2.2.2).2
                          | exact fun e => c101 ((madeK_8 c94).1 e.2.2.2.2).1
                          | exact fun e => c107 (by rw [e.2.2.2.1 (by omega) (by omega)]; rfl)
                      · refine AL.go (AO.move rfl rfl (AL.no rfl rfl rfl rfl (AL.no rfl rfl rfl rfl (AL.no rfl rfl rfl rfl (AL.go (AO.pickF rfl rfl rfl (AL.go (AO.move rfl rfl ?_))))))))
                        refine AL.no rfl rfl rfl rfl (AL.no rfl rfl rfl rfl (AL.no rfl rfl rfl rfl (AL.no rfl rfl rfl rfl (AL.go (AO.pickF rfl rfl rfl (AL.go (AO.assign rfl rfl ?_)))))))
                        refine AL.nil (AK.seqN (AC.ret (AK.blkR (AK.seqR ?_))))
                        first | refine AK.ret (L' := L) (F' := F) Tryd.results26 rfl (by repeat (first | exact Sub.refl _ _ | refine Sub.trans Sub.drop ?_ | refine Sub.trans Sub.dropF ?_)) (hT ?_) | refine AK.ret (L' := L) (F' := F) Tryd.results26 rfl (by repeat (first | exact Sub.refl _ _ | refine Sub.trans Sub.drop ?_ | refine Sub.trans Sub.dropF ?_)) (hF ?_)
                        first
                        | exact ⟨kids_yes c9, by omega, fun h => absurd c94 h, fun _ _ => nil_of c107, (madeK_8 c94).2 ⟨c101, c97⟩⟩
                        | exact fun e => c97 ((madeK_8 c94).1 e.2.2.2.2).2
                        | exact fun e => c101 ((madeK_8 c94).1 e.2.2.2.2).1
                        | exact fun e => c107 (by rw [e.2.2.2.1 (by omega) (by omega)]; rfl)
                    · refine AL.go (AO.assign rfl rfl (AL.nil (AK.seqN (AC.condF rfl (AC.seq (AC.region ?_))))))
                      refine AL.go (AO.eql rfl rfl rfl (fun c110 => ?_) (fun c110 => ?_))
                      · refine AL.go (AO.assign rfl rfl (AL.nil (AK.seqN (AC.condT rfl (AC.seq (AC.region ?_))))))
                        refine AL.go (AO.loadBA rfl rfl ?_)
                        refine AL.go (AO.call rfl rfl (bare_c t (by repeat (first | exact mem0 | assumption | refine memS ?_)) (fun c112 => ?_) (fun c112 => ?_)))
                        · refine AL.go (AO.move rfl rfl (AL.yes rfl rfl (AO.field rfl rfl ?_)))
                          refine AL.yes rfl rfl (AO.loadB rfl rfl ?_)
                          refine AL.yes rfl rfl (AO.geq rfl rfl rfl (fun c116 => ?_) (fun c116 => ?_))
                          · refine AL.go (AO.pickT rfl rfl rfl (AL.go (AO.move rfl rfl (AL.yes rfl rfl (AO.field rfl rfl ?_)))))
                            refine AL.yes rfl rfl (AO.loadB rfl rfl ?_)
                            refine AL.yes rfl rfl (AO.lss rfl rfl rfl (fun c121 => ?_) (fun c121 => ?_))
                            · refine AL.go (AO.pickT rfl rfl rfl (AL.go (AO.move rfl rfl (AL.yes rfl rfl (AO.move rfl rfl ?_)))))
                              refine AL.yes rfl rfl (AO.eql rfl rfl rfl (fun c125 => ?_) (fun c125 => ?_))
                              · refine AL.go (AO.pickT rfl rfl rfl (AL.go (AO.assign rfl rfl (AL.nil (AK.seqN (AC.ret (AK.blkR ?_)))))))
                                refine AK.seqR ?_
                                first | refine AK.ret (L' := L) (F' := F) Tryd.results26 rfl (by repeat (first | exact Sub.refl _ _ | refine Sub.trans Sub.drop ?_ | refine Sub.trans Sub.dropF ?_)) (hT ?_) | refine AK.ret (L' := L) (F' := F) Tryd.results26 rfl (by repeat (first | exact Sub.refl _ _ | refine Sub.trans Sub.drop ?_ | refine Sub.trans Sub.dropF ?_)) (hF ?_)
                                first
                                | exact made_bare (kids_yes c9) c14 c112 ((madeK_9 c110).2 (by omega))
                                | exact made_nobare (by omega) (by omega) (by omega) c112
                                | (refine made_noK (fun e => ?_); have e := (madeK_9 c110).1 e; omega)
                              · refine AL.go (AO.pickT rfl rfl rfl (AL.go (AO.assign rfl rfl (AL.nil (AK.seqN (AC.ret (AK.blkR ?_)))))))
                                refine AK.seqR ?_
                                first | refine AK.ret (L' := L) (F' := F) Tryd.results26 rfl (by repeat (first | exact Sub.refl _ _ | refine Sub.trans Sub.drop ?_ | refine Sub.trans Sub.dropF ?_)) (hT ?_) | refine AK.ret (L' := L) (F' := F) Tryd.results26 rfl (by repeat (first | exact Sub.refl _ _ | refine Sub.trans Sub.drop ?_ | refine Sub.trans Sub.dropF ?_)) (hF ?_)
                                first
                                | exact made_bare (kids_yes c9) c14 c112 ((madeK_9 c110).2 (by omega))
                                | exact made_nobare (by omega) (by omega) (by omega) c112
                                | (refine made_noK (fun e => ?_); have e := (madeK_9 c110).1 e; omega)
                            · refine AL.go (AO.pickT rfl rfl rfl (AL.go (AO.move rfl rfl (AL.no rfl rfl rfl rfl (AL.no rfl rfl rfl rfl (AL.go (AO.pickF rfl rfl rfl (AL.go (AO.assign rfl rfl ?_)))))))))
                              refine AL.nil (AK.seqN (AC.ret (AK.blkR (AK.seqR ?_))))
                              first | refine AK.ret (L' := L) (F' := F) Tryd.results26 rfl (by repeat (first | exact Sub.refl _ _ | refine Sub.trans Sub.drop ?_ | refine Sub.trans Sub.dropF ?_)) (hT ?_) | refine AK.ret (L' := L) (F' := F) Tryd.results26 rfl (by repeat (first | exact Sub.refl _ _ | refine Sub.trans Sub.drop ?_ | refine Sub.trans Sub.dropF ?_)) (hF ?_)
                              first
                              | exact made_bare (kids_yes c9) c14 c112 ((madeK_9 c110).2 (by omega))
                              | exact made_nobare (by omega) (by omega) (by omega) c112
                              | (refine made_noK (fun e => ?_); have e := (madeK_9 c110).1 e; omega)
                          · refine AL.go (AO.pickT rfl rfl rfl (AL.go (AO.move rfl rfl (AL.no rfl rfl rfl rfl (AL.no rfl rfl rfl rfl (AL.no rfl rfl rfl rfl (AL.go (AO.pickF rfl rfl rfl ?_))))))))
                            refine AL.go (AO.move rfl rfl (AL.no rfl rfl rfl rfl (AL.no rfl rfl rfl rfl (AL.go (AO.pickF rfl rfl rfl (AL.go (AO.assign rfl rfl (AL.nil ?_))))))))
                            refine AK.seqN (AC.ret (AK.blkR (AK.seqR ?_)))
                            first | refine AK.ret (L' := L) (F' := F) Tryd.results26 rfl (by repeat (first | exact Sub.refl _ _ | refine Sub.trans Sub.drop ?_ | refine Sub.trans Sub.dropF ?_)) (hT ?_) | refine AK.ret (L' := L) (F' := F) Tryd.results26 rfl (by repeat (first | exact Sub.refl _ _ | refine Sub.trans Sub.drop ?_ | refine Sub.trans Sub.dropF ?_)) (hF ?_)
                            first
                            | exact made_bare (kids_yes c9) c14 c112 ((madeK_9 c110).2 (by omega))
                            | exact made_nobare (by omega) (by omega) (by omega) c112
                            | (refine made_noK (fun e => ?_); have e := (madeK_9 c110).1 e; omega)
                        · refine AL.go (AO.move rfl rfl (AL.no rfl rfl rfl rfl (AL.no rfl rfl rfl rfl (AL.no rfl rfl rfl rfl (AL.go (AO.pickF rfl rfl rfl (AL.go (AO.move rfl rfl ?_))))))))
                          refine AL.no rfl rfl rfl rfl (AL.no rfl rfl rfl rfl (AL.no rfl rfl rfl rfl (AL.go (AO.pickF rfl rfl rfl (AL.go (AO.move rfl rfl (AL.no rfl rfl rfl rfl ?_)))))))
                          refine AL.no rfl rfl rfl rfl (AL.go (AO.pickF rfl rfl rfl (AL.go (AO.assign rfl rfl (AL.nil (AK.seqN (AC.ret ?_)))))))
                          refine AK.blkR (AK.seqR ?_)
                          first | refine AK.ret (L' := L) (F' := F) Tryd.results26 rfl (by repeat (first | exact Sub.refl _ _ | refine Sub.trans Sub.drop ?_ | refine Sub.trans Sub.dropF ?_)) (hT ?_) | refine AK.ret (L' := L) (F' := F) Tryd.results26 rfl (by repeat (first | exact Sub.refl _ _ | refine Sub.trans Sub.drop ?_ | refine Sub.trans Sub.dropF ?_)) (hF ?_)
                          first
                          | exact made_bare (kids_yes c9) c14 c112 ((madeK_9 c110).2 (by omega))
                          | exact made_nobare (by omega) (by omega) (by omega) c112
                          | (refine made_noK (fun e => ?_); have e := (madeK_9 c110).1 e; omega)
                      · refine AL.go (AO.assign rfl rfl (AL.nil (AK.seqN (AC.condF rfl (AC.skip (AK.blkN ?_))))))
                        refine AK.seqN (AC.seq (AC.region (AL.go (AO.assign rfl rfl (AL.nil (AK.seqN ?_))))))
                        refine AC.ret ?_
                        first | refine AK.ret (L' := L) (F' := F) Tryd.results26 rfl (by repeat (first | exact Sub.refl _ _ | refine Sub.trans Sub.drop ?_ | refine Sub.trans Sub.dropF ?_)) (hT ?_) | refine AK.ret (L' := L) (F' := F) Tryd.results26 rfl (by repeat (first | exact Sub.refl _ _ | refine Sub.trans Sub.drop ?_ | refine Sub.trans Sub.dropF ?_)) (hF ?_)
                        first
                        | exact made_nokids c9
                        | exact made_long c14
                        | exact made_noK (madeK_no c22 c23 c36 c54 c67 c85 c89 c94 c110)
end
end Go.Sy
