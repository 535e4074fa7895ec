/- The terms of an interface, and which of them can be none, as the document says: the walks. -/
import Derived.Test.YthbngbiodamndaaGreatDoorSubI
namespace Go.Sy
open Go Go.Proofs Go.RowKit

theorem mark_step {zs : List Tm} {v : Nat} (hv : v < zs.length) (p : Int) : markOf (zs.take (v + 1)) p = if markP zs[v].1 ∧ zs[v].2 = p ∧ markOf (zs.take v) p ≠ [126] then zs[v].1 else markOf (zs.take v) p := by
  rw [List.take_succ_eq_append_getElem hv, markOf_snoc]
theorem termsR_step (p : Nat) (zs : List Tm) : termsR (p + 1) zs = termsR p zs ++ (if markOf zs (p : Int) = [] then [] else [(markOf zs (p : Int), (p : Int))]) := by
  unfold termsR
  rw [List.range_succ, List.filterMap_append]
  congr 1
  by_cases h : markOf zs (p : Int) = []
  · simp [h]
  · simp [h]
theorem termsR_le {zs : List Tm} : ∀ p, (termsR p zs).length ≤ p
  | 0 => by simp [termsR]
  | p + 1 => by
    have ih := termsR_le (zs := zs) p
    rw [termsR_step, List.length_append]
    split <;> simp <;> omega

attribute [local irreducible] AC AT AO AK AH ACalls Sub Res.cells Res.obj Res.nix Res.own Res.map Exit.then Exit.inBlock bodyPost Code.wp Next Post Kont
section
variable {W0 : World} {L : List Res} {F : List Fact} {R : Value → List Res → List Fact → Prop}
set_option maxRecDepth 100000
set_option maxHeartbeats 8000000
theorem rmark2_c (s : List UInt8) (hT : markP s → R (.bool true) L F) (hF : ¬ markP s → R (.bool false) L F) : ACalls Tryz.prog W0 46 #[S s] L F R := by
  refine ACalls.body Tryz.func46 rfl Tryz.ntmps46 rfl ?_
  refine AC.seq (AC.region (AL.go (AO.assign rfl rfl (AL.nil (AK.seqN (AC.seq ?_))))))
  refine AC.region (AL.go (AO.move rfl rfl ?_))
  refine AL.go (AO.eqlS rfl rfl rfl (fun c4 => ?_) (fun c4 => ?_))
  · refine AL.go (AO.move rfl rfl (AL.no rfl rfl rfl rfl (AL.no rfl rfl rfl rfl (AL.go (AO.pickT rfl rfl rfl (AL.go (AO.assign rfl rfl (AL.nil ?_))))))))
    refine AK.seqN (AC.ret ?_)
    first | exact AK.ret Tryz.results46 rfl (Sub.refl _ _) (hT (Or.inl c4)) | exact AK.ret Tryz.results46 rfl (Sub.refl _ _) (hT (Or.inr c7)) | exact AK.ret Tryz.results46 rfl (Sub.refl _ _) (hF (fun e => e.elim c4 c7))
  · refine AL.go (AO.move rfl rfl (AL.yes rfl rfl (AO.move rfl rfl ?_)))
    refine AL.yes rfl rfl (AO.eqlS rfl rfl rfl (fun c7 => ?_) (fun c7 => ?_))
    · refine AL.go (AO.pickF rfl rfl rfl (AL.go (AO.assign rfl rfl (AL.nil (AK.seqN (AC.ret ?_))))))
      first | exact AK.ret Tryz.results46 rfl (Sub.refl _ _) (hT (Or.inl c4)) | exact AK.ret Tryz.results46 rfl (Sub.refl _ _) (hT (Or.inr c7)) | exact AK.ret Tryz.results46 rfl (Sub.refl _ _) (hF (fun e => e.elim c4 c7))
    · refine AL.go (AO.pickF rfl rfl rfl (AL.go (AO.assign rfl rfl (AL.nil (AK.seqN (AC.ret ?_))))))
      first | exact AK.ret Tryz.results46 rfl (Sub.refl _ _) (hT (Or.inl c4)) | exact AK.ret Tryz.results46 rfl (Sub.refl _ _) (hT (Or.inr c7)) | exact AK.ret Tryz.results46 rfl (Sub.refl _ _) (hF (fun e => e.elim c4 c7))
theorem rodd_c (l : List Ty) (t : Ty) (hwl : t.words.length ≤ 1000) (hk : ∀ k ∈ t.kids, 0 ≤ k ∧ k < l.length) (hwk : t.words.length = t.kids.length) {a a1 a2 : Option Addr} {k c k1 c1 k2 c2 : Nat} (mL : fL l a k c ∈ F) (m1 : fW t a1 k1 c1 ∈ F) (m2 : fK t a2 k2 c2 ∈ F)
    (hT : oddP l t → R (.bool true) L F) (hF : ¬ oddP l t → R (.bool false) L F) : ACalls Tryz.prog W0 26 #[.slice a k c, vTy t a1 k1 c1 a2 k2 c2] L F R := by
  have hzl := zips_len hwk
  refine ACalls.body Tryz.func26 rfl Tryz.ntmps26 rfl ?_
  refine AC.seq (AC.region (AL.go (AO.box rfl rfl (fun b3 => ?_))))
  refine AL.go (AO.assign rfl rfl (AL.nil (AK.seqN (AC.seq (AC.seq (AC.region ?_))))))
  refine AL.go (AO.field rfl rfl ?_)
  refine AL.go (AO.loadB rfl rfl ?_)
  refine AL.go (AO.len rfl rfl (fun hl10 => ?_) (hm := by repeat (first | exact mem0 | assumption | refine memS ?_)))
  refine AL.go (AO.move rfl rfl (AL.nil (AK.seqN (AC.block ?_))))
  refine AC.loop (fun (q : Nat) => q ≤ t.words.length ∧ ∀ z ∈ (zips t).take q, markP z.1 → ¬ oddK l z.2) (fun q => [(0, .slice a k c), (3, .pointer (some ⟨b3, 0, none⟩)), (9, .slice a1 k1 c1), (10, .int .i64 t.words.length), (11, .int .i64 (q : Int))]) (fun _ => _) (fun _ => F) (fun q => t.words.length - q) 0 ⟨Nat.zero_le _, fun z hz => by simp at hz⟩ (by repeat (first | exact SubR.nil | refine SubR.cons rfl ?_)) (Sub.refl _ _) ?_
  rintro q ⟨hq, hno⟩
  refine AC.seq (AC.region ?_)
  refine AL.go (AO.lss rfl rfl rfl (fun c12 => ?_) (fun c12 => ?_))
  · refine AL.nil (AK.seqN (AC.seq (AC.condT rfl (AC.skip (AK.seqN ?_)))))
    refine AC.seq (AC.block (AC.seq (AC.region (AL.go (AO.move rfl rfl ?_)))))
    have hqw : q < t.words.length := by omega
    have hqk : q < t.kids.length := by omega
    have hqz : q < (zips t).length := by omega
    have hz := zips_get hqw hqk hqz
    have hb := hk _ (List.getElem_mem hqk)
    have hkn : t.kids[q].toNat < l.length := by omega
    have hkt : kindAt l t.kids[q] = l[t.kids[q].toNat].kind := kind_get (by omega) hkn
    refine AL.go (AO.indexAddr rfl rfl rfl rfl (show fW t _ _ _ ∈ _ from (by repeat (first | exact mem0 | assumption | refine memS ?_))) hqw (fun _ _ => ?_))
    refine AL.go (AO.loadF rfl rfl ?_)
    intros
    refine AL.go (AO.assign rfl rfl (AL.go (AO.assign rfl rfl (AL.nil (AK.seqN (AC.seq (AC.region ?_)))))))
    refine AL.go (AO.field rfl rfl ?_)
    refine AL.go (AO.loadB rfl rfl ?_)
    refine AL.go (AO.move rfl rfl ?_)
    refine AL.go (AO.indexAddr rfl rfl rfl rfl (show fK t _ _ _ ∈ _ from (by repeat (first | exact mem0 | assumption | refine memS ?_))) hqk (fun _ _ => ?_))
    refine AL.go (AO.loadF rfl rfl ?_)
    intros
    refine AL.go (AO.assign rfl rfl (AL.nil (AK.seqN (AC.seq (AC.region (AL.go (AO.move rfl rfl ?_)))))))
    refine AL.go (AO.call rfl rfl (rmark2_c t.words[q] (fun c22 => ?_) (fun c22 => ?_)))
    · refine AL.go (AO.move rfl rfl (AL.yes rfl rfl (AO.move rfl rfl (AL.yes rfl rfl (AO.move rfl rfl ?_)))))
      refine AL.yes rfl rfl (AO.indexAddr (k := t.kids[q].toNat) rfl rfl rfl (by omega) (enc := eTy) (lst := l) (by repeat (first | exact mem0 | assumption | refine memS ?_)) hkn (fun _ _ => ?_))
      refine AL.yes rfl rfl (AO.fieldAt rfl rfl (fun _ => ?_))
      refine AL.yes rfl rfl (AO.loadF rfl rfl ?_)
      intros
      refine AL.yes rfl rfl (AO.eql rfl rfl rfl (fun c29 => ?_) (fun c29 => ?_))
      · refine AL.yes rfl rfl (AO.move rfl rfl (AL.no rfl rfl rfl rfl (AL.no rfl rfl rfl rfl (AL.no rfl rfl rfl rfl (AL.no rfl rfl rfl rfl (AL.no rfl rfl rfl rfl ?_))))))
        refine AL.no rfl rfl rfl rfl (AL.yes rfl rfl (AO.pickT rfl rfl rfl (AL.yes rfl rfl (AO.move rfl rfl (AL.no rfl rfl rfl rfl (AL.no rfl rfl rfl rfl (AL.no rfl rfl rfl rfl ?_)))))))
        refine AL.no rfl rfl rfl rfl (AL.no rfl rfl rfl rfl (AL.no rfl rfl rfl rfl (AL.yes rfl rfl (AO.pickT rfl rfl rfl (AL.go (AO.pickT rfl rfl rfl (AL.nil ?_)))))))
        refine AK.seqN (AC.condT rfl (AC.seq (AC.region (AL.go (AO.assign rfl rfl (AL.nil ?_))))))
        refine AK.seqN (AC.ret (AK.blkR (AK.seqR (AK.seqR (AK.blkR ?_)))))
        refine AK.seqR ?_
        refine AK.ret (L' := L) (F' := F) Tryz.results26 rfl (by repeat (first | exact Sub.refl _ _ | refine Sub.trans Sub.drop ?_ | refine Sub.trans Sub.dropF ?_)) (hT ⟨(zips t)[q], List.getElem_mem hqz, by rw [hz]; exact c22, ?_⟩)
        rw [hz]; simp only; rw [hkt]; omega
      · refine AL.yes rfl rfl (AO.move rfl rfl (AL.yes rfl rfl (AO.move rfl rfl (AL.yes rfl rfl (AO.move rfl rfl ?_)))))
        refine AL.yes rfl rfl (AO.indexAddr (k := t.kids[q].toNat) rfl rfl rfl (by omega) (enc := eTy) (lst := l) (by repeat (first | exact mem0 | assumption | refine memS ?_)) hkn (fun _ _ => ?_))
        refine AL.yes rfl rfl (AO.fieldAt rfl rfl (fun _ => ?_))
        refine AL.yes rfl rfl (AO.loadF rfl rfl ?_)
        intros
        refine AL.yes rfl rfl (AO.eql rfl rfl rfl (fun c36 => ?_) (fun c36 => ?_))
        · refine AL.yes rfl rfl (AO.pickF rfl rfl rfl (AL.yes rfl rfl (AO.move rfl rfl (AL.no rfl rfl rfl rfl (AL.no rfl rfl rfl rfl (AL.no rfl rfl rfl rfl (AL.no rfl rfl rfl rfl ?_)))))))
          refine AL.no rfl rfl rfl rfl (AL.no rfl rfl rfl rfl (AL.yes rfl rfl (AO.pickT rfl rfl rfl (AL.go (AO.pickT rfl rfl rfl (AL.nil (AK.seqN ?_)))))))
          refine AC.condT rfl (AC.seq (AC.region (AL.go (AO.assign rfl rfl (AL.nil (AK.seqN ?_))))))
          refine AC.ret (AK.blkR (AK.seqR (AK.seqR (AK.blkR (AK.seqR ?_)))))
          refine AK.ret (L' := L) (F' := F) Tryz.results26 rfl (by repeat (first | exact Sub.refl _ _ | refine Sub.trans Sub.drop ?_ | refine Sub.trans Sub.dropF ?_)) (hT ⟨(zips t)[q], List.getElem_mem hqz, by rw [hz]; exact c22, ?_⟩)
          rw [hz]; simp only; rw [hkt]; omega
        · refine AL.yes rfl rfl (AO.pickF rfl rfl rfl (AL.yes rfl rfl (AO.move rfl rfl (AL.yes rfl rfl (AO.move rfl rfl ?_)))))
          refine AL.yes rfl rfl (AO.geq rfl rfl rfl (fun c40 => ?_) (fun c40 => ?_))
          · refine AL.yes rfl rfl (AO.move rfl rfl (AL.yes rfl rfl (AO.move rfl rfl ?_)))
            refine AL.yes rfl rfl (AO.leq rfl rfl rfl (fun c43 => ?_) (fun c43 => ?_))
            · refine AL.yes rfl rfl (AO.pickT rfl rfl rfl (AL.yes rfl rfl (AO.pickF rfl rfl rfl (AL.go (AO.pickT rfl rfl rfl (AL.nil (AK.seqN (AC.condT rfl ?_))))))))
              refine AC.seq (AC.region (AL.go (AO.assign rfl rfl (AL.nil (AK.seqN (AC.ret ?_))))))
              refine AK.blkR (AK.seqR (AK.seqR (AK.blkR (AK.seqR ?_))))
              refine AK.ret (L' := L) (F' := F) Tryz.results26 rfl (by repeat (first | exact Sub.refl _ _ | refine Sub.trans Sub.drop ?_ | refine Sub.trans Sub.dropF ?_)) (hT ⟨(zips t)[q], List.getElem_mem hqz, by rw [hz]; exact c22, ?_⟩)
              rw [hz]; simp only; rw [hkt]; omega
            · refine AL.yes rfl rfl (AO.pickT rfl rfl rfl (AL.yes rfl rfl (AO.pickF rfl rfl rfl (AL.go (AO.pickT rfl rfl rfl (AL.nil (AK.seqN (AC.condF rfl ?_))))))))
              refine AC.skip (AK.blkN (AK.seqN (AC.region (AL.go (AO.add rfl rfl rfl (by omega) (by omega) (AL.go (AO.move rfl rfl ?_)))))))
              refine AL.nil ?_
              have hodd : ¬ oddK l (zips t)[q].2 := by
               rw [hz]; simp only; unfold oddK; rw [hkt]; omega
              exact AK.next (q + 1) ⟨by omega, odd_step hqz hno (fun _ => hodd)⟩ (by omega) (by repeat (first | exact SubR.nil | refine SubR.cons rfl ?_)) (by repeat (first | exact Sub.refl _ _ | refine Sub.trans Sub.dropF ?_))
          · refine AL.yes rfl rfl (AO.move rfl rfl (AL.no rfl rfl rfl rfl (AL.no rfl rfl rfl rfl (AL.yes rfl rfl (AO.pickF rfl rfl rfl (AL.yes rfl rfl (AO.pickF rfl rfl rfl (AL.go (AO.pickT rfl rfl rfl ?_)))))))))
            refine AL.nil (AK.seqN (AC.condF rfl (AC.skip (AK.blkN (AK.seqN ?_)))))
            refine AC.region (AL.go (AO.add rfl rfl rfl (by omega) (by omega) (AL.go (AO.move rfl rfl (AL.nil ?_)))))
            have hodd : ¬ oddK l (zips t)[q].2 := by
             rw [hz]; simp only; unfold oddK; rw [hkt]; omega
            exact AK.next (q + 1) ⟨by omega, odd_step hqz hno (fun _ => hodd)⟩ (by omega) (by repeat (first | exact SubR.nil | refine SubR.cons rfl ?_)) (by repeat (first | exact Sub.refl _ _ | refine Sub.trans Sub.dropF ?_))
    · refine AL.go (AO.move rfl rfl (AL.no rfl rfl rfl rfl (AL.no rfl rfl rfl rfl (AL.no rfl rfl rfl rfl (AL.no rfl rfl rfl rfl (AL.no rfl rfl rfl rfl ?_))))))
      refine AL.no rfl rfl rfl rfl (AL.no rfl rfl rfl rfl (AL.no rfl rfl rfl rfl (AL.no rfl rfl rfl rfl (AL.no rfl rfl rfl rfl (AL.no rfl rfl rfl rfl ?_)))))
      refine AL.no rfl rfl rfl rfl (AL.no rfl rfl rfl rfl (AL.no rfl rfl rfl rfl (AL.no rfl rfl rfl rfl (AL.no rfl rfl rfl rfl (AL.no rfl rfl rfl rfl ?_)))))
      refine AL.no rfl rfl rfl rfl (AL.no rfl rfl rfl rfl (AL.no rfl rfl rfl rfl (AL.no rfl rfl rfl rfl (AL.no rfl rfl rfl rfl (AL.go (AO.pickF rfl rfl rfl ?_))))))
      refine AL.nil (AK.seqN (AC.condF rfl (AC.skip (AK.blkN (AK.seqN ?_)))))
      refine AC.region (AL.go (AO.add rfl rfl rfl (by omega) (by omega) (AL.go (AO.move rfl rfl (AL.nil ?_)))))
      exact AK.next (q + 1) ⟨by omega, odd_step hqz hno (fun hm => absurd hm (by rw [hz]; exact c22))⟩ (by omega) (by repeat (first | exact SubR.nil | refine SubR.cons rfl ?_)) (by repeat (first | exact Sub.refl _ _ | refine Sub.trans Sub.dropF ?_))
  · refine AL.nil (AK.seqN (AC.seq (AC.condF rfl (AC.exit (AK.seqX ?_)))))
    refine AK.seqX (AK.blkX (AK.seqN (AC.seq (AC.region (AL.go (AO.assign rfl rfl ?_))))))
    refine AL.nil (AK.seqN (AC.ret ?_))
    have hq9 : (zips t).take q = zips t := List.take_of_length_le (by omega)
    rw [hq9] at hno
    exact AK.ret (L' := L) (F' := F) Tryz.results26 rfl (by repeat (first | exact Sub.refl _ _ | refine Sub.trans Sub.drop ?_ | refine Sub.trans Sub.dropF ?_)) (hF (odd_not hno))
theorem rterms_c (l : List Ty) (h400 : l.length ≤ 400) (t : Ty) (hkl : t.kids.length ≤ 20) (hk : ∀ k ∈ t.kids, 0 ≤ k ∧ k < l.length) (hwk : t.words.length = t.kids.length) {a a1 a2 : Option Addr} {k c k1 c1 k2 c2 : Nat} (mL : fL l a k c ∈ F) (m1 : fW t a1 k1 c1 ∈ F) (m2 : fK t a2 k2 c2 ∈ F)
    (h : ∀ a1 k1 c1 a2 k2 c2, R (vTy (termsT l.length t) a1 k1 c1 a2 k2 c2) L (fW (termsT l.length t) a1 k1 c1 :: fK (termsT l.length t) a2 k2 c2 :: F)) : ACalls Tryz.prog W0 27 #[.slice a k c, vTy t a1 k1 c1 a2 k2 c2] L F R := by
  have hml : 1000000 ≤ maxLen := by decide
  have hzl := zips_len hwk
  have hzin := zips_in hk
  refine ACalls.body Tryz.func27 rfl Tryz.ntmps27 rfl ?_
  refine AC.seq (AC.region (AL.go (AO.box rfl rfl (fun b3 => ?_))))
  refine AL.go (AO.alloc rfl (fun b4 => ?_))
  refine AL.nil (AK.seqN (AC.seq (AC.region (AL.go (AO.field rfl rfl ?_)))))
  refine AL.go (AO.loadB rfl rfl ?_)
  refine AL.go (AO.field rfl rfl ?_)
  refine AL.go (AO.loadB rfl rfl ?_)
  refine AL.go (AO.build rfl rfl rfl (AL.go (AO.alloc rfl (fun b5 => ?_))))
  refine AL.go (AO.storeBA rfl rfl rfl rfl ?_)
  refine AT.sub (Sub.ofEq (L' := Res.cells b5 #[.int .i64 t.kind, S [], .int .i64 t.n, .slice none 0 0, .slice none 0 0] 40 :: _) rfl) ?_
  refine AT.sub ((Sub.ownNil (e := 9) (sz := 1)).trans (Sub.ownNil (e := 3) (sz := 1))) ?_
  refine AL.nil (AK.seqN (AC.seq (AC.seq (AC.region (AL.go (AO.field rfl rfl ?_))))))
  refine AL.go (AO.loadB rfl rfl ?_)
  refine AL.go (AO.len rfl rfl (fun hl19 => ?_) (hm := by repeat (first | exact mem0 | assumption | refine memS ?_)))
  refine AL.go (AO.move rfl rfl (AL.nil (AK.seqN (AC.block ?_))))
  refine AC.loop (fun (x : Nat × (Option Addr × Nat × Nat) × (Option Addr × Nat × Nat)) => x.1 ≤ t.words.length) (fun x => [(0, .slice a k c), (3, .pointer (some ⟨b3, 0, none⟩)), (4, .pointer (some ⟨b4, 0, none⟩)), (5, .pointer (some ⟨b5, 0, none⟩)), (18, .slice a1 k1 c1), (19, .int .i64 t.words.length), (20, .int .i64 (x.1 : Int))]) (fun x => Res.own (.slice x.2.2.1 x.2.2.2.1 x.2.2.2.2) 3 1 (((declsR ((zips t).take x.1)).map (·.2)).map eI) :: Res.own (.slice x.2.1.1 x.2.1.2.1 x.2.1.2.2) 9 1 (((declsR ((zips t).take x.1)).map (·.1)).map eS) :: Res.cells b5 #[.int .i64 t.kind, S [], .int .i64 t.n, .slice x.2.1.1 x.2.1.2.1 x.2.1.2.2, .slice x.2.2.1 x.2.2.2.1 x.2.2.2.2] 40 :: _) (fun _ => F) (fun x => t.words.length - x.1) (0, (none, 0, 0), (none, 0, 0)) (Nat.zero_le _) (by repeat (first | exact SubR.nil | refine SubR.cons rfl ?_)) (Sub.refl _ _) ?_
  rintro ⟨q, ⟨aW, kW, cW⟩, ⟨aK, kK, cK⟩⟩ hq
  simp only at hq ⊢
  refine AC.seq (AC.region ?_)
  refine AL.go (AO.lss rfl rfl rfl (fun c21 => ?_) (fun c21 => ?_))
  · refine AL.nil (AK.seqN (AC.seq (AC.condT rfl (AC.skip (AK.seqN ?_)))))
    refine AC.seq (AC.block (AC.seq (AC.region (AL.go (AO.move rfl rfl ?_)))))
    have hqw : q < t.words.length := by omega
    have hqk : q < t.kids.length := by omega
    have hqz : q < (zips t).length := by omega
    have hz := zips_get hqw hqk hqz
    have hdl := declsR_len ((zips t).take q)
    have hzt : ((zips t).take q).length = q := by rw [List.length_take]; omega
    refine AL.go (AO.indexAddr rfl rfl rfl rfl (show fW t _ _ _ ∈ _ from (by repeat (first | exact mem0 | assumption | refine memS ?_))) hqw (fun _ _ => ?_))
    refine AL.go (AO.loadF rfl rfl ?_)
    intros
    refine AL.go (AO.assign rfl rfl (AL.go (AO.assign rfl rfl (AL.nil (AK.seqN (AC.seq (AC.region ?_)))))))
    refine AL.go (AO.move rfl rfl ?_)
    refine AL.go (AO.call rfl rfl (rmark2_c t.words[q] (fun c26 => ?_) (fun c26 => ?_)))
    · refine AL.go (AO.not rfl rfl (AL.nil (AK.seqN (AC.condF rfl (AC.skip (AK.blkN ?_))))))
      refine AK.seqN (AC.region (AL.go (AO.add rfl rfl rfl (by omega) (by omega) (AL.go (AO.move rfl rfl (AL.nil ?_))))))
      have hym : markP (zips t)[q].1 := by rw [hz]; exact c26
      rw [decl_no hqz hym]
      exact AK.next (q + 1, (aW, kW, cW), (aK, kK, cK)) (by simp only; omega) (by simp only; omega) (by repeat (first | exact SubR.nil | refine SubR.cons rfl ?_)) (by repeat (first | exact Sub.refl _ _ | refine Sub.trans Sub.dropF ?_))
    · refine AL.go (AO.not rfl rfl (AL.nil (AK.seqN (AC.condT rfl (AC.seq (AC.region ?_))))))
      refine AL.go (AO.field rfl rfl ?_)
      refine AL.go (AO.loadB rfl rfl ?_)
      refine AL.go (AO.move rfl rfl ?_)
      refine AL.go (AO.buildSlice rfl rfl rfl rfl rfl (fun b31 => ?_))
      refine AL.go (AO.append (i := 1) (enc := eS) (lst := (declsR ((zips t).take q)).map (·.1)) [t.words[q]] rfl rfl rfl rfl (.val .nil) rfl rfl (fun _ => rfl) (by simp only [List.length_map]; omega) (by simp only [List.length_map]; omega) (fun a32 k32 z32 => ?_))
      simp only [List.set_cons_zero, List.set_cons_succ]
      refine AL.go (AO.field rfl rfl ?_)
      refine AL.go (AO.storeB rfl rfl rfl ?_)
      refine AL.nil (AK.seqN ?_)
      refine AC.draw (fun i => Nat.beq i 10) [(b5, _, _), (b3, _, _)] (by repeat (first | exact BxIn.nil | refine BxIn.cons (by repeat (first | exact has0 | assumption | apply hasS)) ?_)) rfl (fun hx hX => ?_)
      have hkk := (len_of_fact (hX (fK t a2 k2 c2) (by repeat (first | exact mem0 | assumption | refine memS ?_)))).1
      obtain ⟨p2, o2, rfl, atq⟩ := row_of_fact (hX (fK t a2 k2 c2) (by repeat (first | exact mem0 | assumption | refine memS ?_))) hqk
      obtain ⟨vq, hvq, hcq⟩ := atq 0 _ rfl
      cases hcq
      refine AH.takeW (i := 0) rfl (Y.field rfl) (by kernel_rfl) rfl rfl ?_
      refine AH.takeS (i := 1) rfl (Y.loadB rfl (by repeat (first | exact List.Mem.head _ | refine List.Mem.tail _ ?_)) (by rfl)) (by kernel_rfl) (by kernel_rfl) rfl rfl rfl ?_
      refine AH.takeW (i := 2) rfl (Y.field rfl) (by kernel_rfl) rfl rfl ?_
      refine AH.takeS (i := 3) rfl (Y.loadB rfl (by repeat (first | exact List.Mem.head _ | refine List.Mem.tail _ ?_)) (by rfl)) (by kernel_rfl) (by kernel_rfl) rfl rfl rfl ?_
      refine AH.takeW (i := 4) rfl (Y.move rfl) (by kernel_rfl) rfl rfl ?_
      refine AH.takeW (i := 5) rfl (Y.indexAddr rfl rfl rfl (by omega)) (by kernel_rfl) rfl rfl ?_
      refine AH.takeS (i := 6) rfl (Y.loadF rfl hvq) (by kernel_rfl) (by kernel_rfl) rfl rfl rfl ?_
      refine AH.one (i := 7) (by kernel_rfl) rfl rfl (fun _ => ?_)
      refine AO.buildSlice rfl rfl rfl rfl rfl (fun b41 => ?_)
      refine AT.sub ((Sub.lit (i := 0) (k := 1) (enc := eI) (sz := 1) [t.kids[q]] rfl (.val .nil) (fun _ => rfl) rfl (by omega)).trans Sub.drop) ?_
      refine AT.held (by repeat (first | exact BxIn.nil | refine BxIn.cons (by repeat (first | exact has0 | assumption | apply hasS)) ?_)) (by repeat (first | exact mem0 | refine memS ?_)) ?_
      refine AH.one (i := 8) (by kernel_rfl) rfl rfl (fun _ => ?_)
      refine AO.appendF (i := 0) (enc := eI) (lst := (declsR ((zips t).take q)).map (·.2)) (lst2 := [t.kids[q]]) rfl rfl rfl rfl (by repeat (first | exact mem0 | assumption | refine memS ?_)) (fun x d hd v hv => eI_one hd hv) (fun _ => rfl) (by simp only [List.length_map, List.length_cons, List.length_nil]; omega) (by simp only [List.length_map, List.length_cons, List.length_nil]; omega) (fun a42 k42 z42 => ?_)
      simp only [List.set_cons_zero, List.set_cons_succ]
      refine AT.held (by repeat (first | exact BxIn.nil | refine BxIn.cons (by repeat (first | exact has0 | assumption | apply hasS)) ?_)) (by repeat (first | exact mem0 | refine memS ?_)) ?_
      refine AH.takeW (i := 9) rfl (Y.field rfl) (by kernel_rfl) rfl rfl ?_
      refine AH.one (i := 10) (by kernel_rfl) rfl rfl (fun _ => ?_)
      refine AO.storeB rfl rfl rfl ?_
      refine AT.spoilt rfl ?_
      refine AH.done (by kernel_rfl) ?_
      refine AK.blkN (AK.seqN (AC.region (AL.go (AO.add rfl rfl rfl (by omega) (by omega) (AL.go (AO.move rfl rfl (AL.nil ?_)))))))
      have hnm : ¬ markP (zips t)[q].1 := by rw [hz]; exact c26
      have e1 : (declsR ((zips t).take q)).map (·.1) ++ [t.words[q]] = (declsR ((zips t).take (q + 1))).map (·.1) := by rw [← decl_yes hqz hnm, hz]; simp
      have e2 : (declsR ((zips t).take q)).map (·.2) ++ [t.kids[q]] = (declsR ((zips t).take (q + 1))).map (·.2) := by rw [← decl_yes hqz hnm, hz]; simp
      rw [e1, e2]
      exact AK.next (q + 1, (a32, k32, z32), (a42, k42, z42)) (by simp only; omega) (by simp only; omega) (by repeat (first | exact SubR.nil | refine SubR.cons rfl ?_)) (by repeat (first | exact Sub.refl _ _ | refine Sub.trans Sub.dropF ?_))
  · refine AL.nil (AK.seqN (AC.seq (AC.condF rfl (AC.exit (AK.seqX ?_)))))
    refine AK.seqX (AK.blkX (AK.seqN (AC.seq (AC.seq (AC.region ?_)))))
    refine AL.go (AO.move rfl rfl ?_)
    have hq9 : (zips t).take q = zips t := List.take_of_length_le (by omega)
    rw [hq9]
    have hdl := declsR_len (zips t)
    refine AL.go (AO.len rfl rfl (fun hl46 => ?_) (enc := eTy) (lst := l) (hm := (by repeat (first | exact mem0 | assumption | refine memS ?_))))
    refine AL.go (AO.move rfl rfl (AL.nil (AK.seqN (AC.block ?_))))
    refine AC.loop (fun (x : Nat × (Option Addr × Nat × Nat) × (Option Addr × Nat × Nat)) => x.1 ≤ l.length) (fun x => [(3, .pointer (some ⟨b3, 0, none⟩)), (4, .pointer (some ⟨b4, 0, none⟩)), (5, .pointer (some ⟨b5, 0, none⟩)), (46, .int .i64 l.length), (47, .int .i64 (x.1 : Int))]) (fun x => Res.own (.slice x.2.2.1 x.2.2.2.1 x.2.2.2.2) 3 1 (((declsR (zips t) ++ termsR x.1 (zips t)).map (·.2)).map eI) :: Res.own (.slice x.2.1.1 x.2.1.2.1 x.2.1.2.2) 9 1 (((declsR (zips t) ++ termsR x.1 (zips t)).map (·.1)).map eS) :: Res.cells b5 #[.int .i64 t.kind, S [], .int .i64 t.n, .slice x.2.1.1 x.2.1.2.1 x.2.1.2.2, .slice x.2.2.1 x.2.2.2.1 x.2.2.2.2] 40 :: _) (fun _ => F) (fun x => l.length - x.1) (0, (aW, kW, cW), (aK, kK, cK)) (Nat.zero_le _) (by repeat (first | exact SubR.nil | refine SubR.cons rfl ?_)) (Sub.ofEq (by rw [show termsR 0 (zips t) = [] from rfl, List.append_nil])) ?_
    rintro ⟨p, ⟨aW, kW, cW⟩, ⟨aK, kK, cK⟩⟩ hp
    simp only at hp ⊢
    have hrl := termsR_le (zs := zips t) p
    have hal : (declsR (zips t) ++ termsR p (zips t)).length ≤ 430 := by rw [List.length_append]; omega
    refine AC.seq (AC.region ?_)
    refine AL.go (AO.lss rfl rfl rfl (fun c48 => ?_) (fun c48 => ?_))
    · refine AL.nil (AK.seqN (AC.seq (AC.condT rfl (AC.skip (AK.seqN ?_)))))
      refine AC.seq (AC.block (AC.seq (AC.region (AL.go (AO.move rfl rfl (AL.go (AO.assign rfl rfl ?_)))))))
      refine AL.nil (AK.seqN (AC.seq (AC.region (AL.go (AO.assign rfl rfl (AL.nil ?_))))))
      refine AK.seqN (AC.seq (AC.seq (AC.region (AL.go (AO.field rfl rfl ?_)))))
      refine AL.go (AO.loadB rfl rfl ?_)
      refine AL.go (AO.len rfl rfl (fun hl52 => ?_) (hm := by repeat (first | exact mem0 | assumption | refine memS ?_)))
      refine AL.go (AO.move rfl rfl (AL.nil (AK.seqN (AC.block ?_))))
      refine AC.loop (fun (v : Nat) => v ≤ t.words.length) (fun v => [(3, .pointer (some ⟨b3, 0, none⟩)), (4, .pointer (some ⟨b4, 0, none⟩)), (5, .pointer (some ⟨b5, 0, none⟩)), (46, .int .i64 l.length), (47, .int .i64 (p : Int)), (8, .int .i64 (p : Int)), (9, S (markOf ((zips t).take v) (p : Int))), (51, .slice a1 k1 c1), (52, .int .i64 t.words.length), (53, .int .i64 (v : Int))]) (fun _ => _) (fun _ => F) (fun v => t.words.length - v) 0 (Nat.zero_le _) (by repeat (first | exact SubR.nil | refine SubR.cons rfl ?_)) (Sub.refl _ _) ?_
      rintro v hv
      refine AC.seq (AC.region ?_)
      refine AL.go (AO.lss rfl rfl rfl (fun c54 => ?_) (fun c54 => ?_))
      · refine AL.nil (AK.seqN (AC.seq (AC.condT rfl (AC.skip (AK.seqN ?_)))))
        refine AC.seq (AC.block (AC.seq (AC.region (AL.go (AO.move rfl rfl ?_)))))
        have hvw : v < t.words.length := by omega
        have hvk : v < t.kids.length := by omega
        have hvz : v < (zips t).length := by omega
        have hz := zips_get hvw hvk hvz
        refine AL.go (AO.indexAddr rfl rfl rfl rfl (show fW t _ _ _ ∈ _ from (by repeat (first | exact mem0 | assumption | refine memS ?_))) hvw (fun _ _ => ?_))
        refine AL.go (AO.loadF rfl rfl ?_)
        intros
        refine AL.go (AO.assign rfl rfl (AL.go (AO.assign rfl rfl (AL.nil (AK.seqN (AC.seq (AC.region ?_)))))))
        refine AL.go (AO.move rfl rfl ?_)
        refine AL.go (AO.call rfl rfl (rmark2_c t.words[v] (fun c59 => ?_) (fun c59 => ?_)))
        · refine AL.go (AO.move rfl rfl (AL.yes rfl rfl (AO.field rfl rfl ?_)))
          refine AL.yes rfl rfl (AO.loadB rfl rfl ?_)
          refine AL.yes rfl rfl (AO.move rfl rfl ?_)
          refine AL.yes rfl rfl (AO.indexAddr rfl rfl rfl rfl (show fK t _ _ _ ∈ _ from (by repeat (first | exact mem0 | assumption | refine memS ?_))) hvk (fun _ _ => ?_))
          refine AL.yes rfl rfl (AO.loadF rfl rfl ?_)
          intros
          refine AL.yes rfl rfl (AO.move rfl rfl ?_)
          refine AL.yes rfl rfl (AO.eql rfl rfl rfl (fun c67 => ?_) (fun c67 => ?_))
          · refine AL.go (AO.pickT rfl rfl rfl (AL.go (AO.move rfl rfl (AL.yes rfl rfl (AO.move rfl rfl ?_)))))
            refine AL.yes rfl rfl (AO.neqS rfl rfl rfl (fun c71 => ?_) (fun c71 => ?_))
            · refine AL.go (AO.pickT rfl rfl rfl (AL.nil (AK.seqN (AC.condT rfl (AC.region (AL.go (AO.move rfl rfl ?_)))))))
              refine AL.go (AO.assign rfl rfl (AL.nil (AK.blkN (AK.seqN (AC.region (AL.go (AO.add rfl rfl rfl (by omega) (by omega) ?_)))))))
              refine AL.go (AO.move rfl rfl (AL.nil ?_))
              have e4 : t.words[v] = markOf ((zips t).take (v + 1)) (p : Int) := by rw [mark_step hvz, hz, if_pos ⟨c59, c67, c71⟩]
              rw [e4]
              exact AK.next (v + 1) (by omega) (by omega) (by repeat (first | exact SubR.nil | refine SubR.cons rfl ?_)) (by repeat (first | exact Sub.refl _ _ | refine Sub.trans Sub.dropF ?_))
            · refine AL.go (AO.pickT rfl rfl rfl (AL.nil (AK.seqN (AC.condF rfl (AC.skip (AK.blkN ?_))))))
              refine AK.seqN (AC.region (AL.go (AO.add rfl rfl rfl (by omega) (by omega) (AL.go (AO.move rfl rfl (AL.nil ?_))))))
              have e4 : markOf ((zips t).take v) (p : Int) = markOf ((zips t).take (v + 1)) (p : Int) := by rw [mark_step hvz, hz, if_neg (fun h => h.2.2 c71)]
              rw [e4]
              exact AK.next (v + 1) (by omega) (by omega) (by repeat (first | exact SubR.nil | refine SubR.cons rfl ?_)) (by repeat (first | exact Sub.refl _ _ | refine Sub.trans Sub.dropF ?_))
          · refine AL.go (AO.pickT rfl rfl rfl (AL.go (AO.move rfl rfl (AL.no rfl rfl rfl rfl (AL.no rfl rfl rfl rfl (AL.go (AO.pickF rfl rfl rfl (AL.nil ?_))))))))
            refine AK.seqN (AC.condF rfl (AC.skip (AK.blkN (AK.seqN (AC.region ?_)))))
            refine AL.go (AO.add rfl rfl rfl (by omega) (by omega) (AL.go (AO.move rfl rfl (AL.nil ?_))))
            have e4 : markOf ((zips t).take v) (p : Int) = markOf ((zips t).take (v + 1)) (p : Int) := by rw [mark_step hvz, hz, if_neg (fun h => c67 h.2.1)]
            rw [e4]
            exact AK.next (v + 1) (by omega) (by omega) (by repeat (first | exact SubR.nil | refine SubR.cons rfl ?_)) (by repeat (first | exact Sub.refl _ _ | refine Sub.trans Sub.dropF ?_))
        · refine AL.go (AO.move rfl rfl (AL.no rfl rfl rfl rfl (AL.no rfl rfl rfl rfl (AL.no rfl rfl rfl rfl (AL.no rfl rfl rfl rfl (AL.no rfl rfl rfl rfl ?_))))))
          refine AL.no rfl rfl rfl rfl (AL.no rfl rfl rfl rfl (AL.go (AO.pickF rfl rfl rfl (AL.go (AO.move rfl rfl (AL.no rfl rfl rfl rfl (AL.no rfl rfl rfl rfl ?_)))))))
          refine AL.go (AO.pickF rfl rfl rfl (AL.nil (AK.seqN (AC.condF rfl (AC.skip (AK.blkN ?_))))))
          refine AK.seqN (AC.region (AL.go (AO.add rfl rfl rfl (by omega) (by omega) (AL.go (AO.move rfl rfl (AL.nil ?_))))))
          have e4 : markOf ((zips t).take v) (p : Int) = markOf ((zips t).take (v + 1)) (p : Int) := by rw [mark_step hvz, hz, if_neg (fun h => c59 h.1)]
          rw [e4]
          exact AK.next (v + 1) (by omega) (by omega) (by repeat (first | exact SubR.nil | refine SubR.cons rfl ?_)) (by repeat (first | exact Sub.refl _ _ | refine Sub.trans Sub.dropF ?_))
      · refine AL.nil (AK.seqN (AC.seq (AC.condF rfl (AC.exit (AK.seqX ?_)))))
        refine AK.seqX (AK.blkX (AK.seqN (AC.seq (AC.region (AL.go (AO.move rfl rfl ?_))))))
        have hv9 : (zips t).take v = zips t := List.take_of_length_le (by omega)
        rw [hv9]
        refine AL.go (AO.neqS rfl rfl rfl (fun c76 => ?_) (fun c76 => ?_))
        · refine AL.nil (AK.seqN (AC.condT rfl (AC.seq (AC.region (AL.go (AO.field rfl rfl ?_))))))
          refine AL.go (AO.loadB rfl rfl ?_)
          refine AL.go (AO.move rfl rfl ?_)
          refine AL.go (AO.buildSlice rfl rfl rfl rfl rfl (fun b80 => ?_))
          refine AL.go (AO.append (i := 1) (enc := eS) (lst := (declsR (zips t) ++ termsR p (zips t)).map (·.1)) [markOf (zips t) (p : Int)] rfl rfl rfl rfl (.val .nil) rfl rfl (fun _ => rfl) (by simp only [List.length_map]; omega) (by simp only [List.length_map]; omega) (fun a81 k81 z81 => ?_))
          simp only [List.set_cons_zero, List.set_cons_succ]
          refine AL.go (AO.field rfl rfl ?_)
          refine AL.go (AO.storeB rfl rfl rfl ?_)
          refine AL.nil (AK.seqN (AC.region (AL.go (AO.field rfl rfl ?_))))
          refine AL.go (AO.loadB rfl rfl ?_)
          refine AL.go (AO.move rfl rfl ?_)
          refine AL.go (AO.buildSlice rfl rfl rfl rfl rfl (fun b86 => ?_))
          refine AL.go (AO.append (i := 0) (enc := eI) (lst := (declsR (zips t) ++ termsR p (zips t)).map (·.2)) [(p : Int)] rfl rfl rfl rfl (.val .nil) rfl rfl (fun _ => rfl) (by simp only [List.length_map]; omega) (by simp only [List.length_map]; omega) (fun a87 k87 z87 => ?_))
          simp only [List.set_cons_zero, List.set_cons_succ]
          refine AL.go (AO.field rfl rfl ?_)
          refine AL.go (AO.storeB rfl rfl rfl ?_)
          refine AL.nil (AK.blkN (AK.seqN (AC.region (AL.go (AO.add rfl rfl rfl (by omega) (by omega) (AL.go (AO.move rfl rfl ?_)))))))
          refine AL.nil ?_
          have e5 : termsR (p + 1) (zips t) = termsR p (zips t) ++ [(markOf (zips t) (p : Int), (p : Int))] := by rw [termsR_step, if_neg c76]
          have e6 : (declsR (zips t) ++ termsR p (zips t)).map (·.1) ++ [markOf (zips t) (p : Int)] = (declsR (zips t) ++ termsR (p + 1) (zips t)).map (·.1) := by rw [e5]; simp
          have e7 : (declsR (zips t) ++ termsR p (zips t)).map (·.2) ++ [(p : Int)] = (declsR (zips t) ++ termsR (p + 1) (zips t)).map (·.2) := by rw [e5]; simp
          rw [e6, e7]
          exact AK.next (p + 1, (a81, k81, z81), (a87, k87, z87)) (by simp only; omega) (by simp only; omega) (by repeat (first | exact SubR.nil | refine SubR.cons rfl ?_)) (by repeat (first | exact Sub.refl _ _ | refine Sub.trans Sub.dropF ?_))
        · refine AL.nil (AK.seqN (AC.condF rfl (AC.skip (AK.blkN (AK.seqN ?_)))))
          refine AC.region (AL.go (AO.add rfl rfl rfl (by omega) (by omega) (AL.go (AO.move rfl rfl (AL.nil ?_)))))
          have e5 : termsR p (zips t) = termsR (p + 1) (zips t) := by rw [termsR_step, if_pos c76, List.append_nil]
          rw [e5]
          exact AK.next (p + 1, (aW, kW, cW), (aK, kK, cK)) (by simp only; omega) (by simp only; omega) (by repeat (first | exact SubR.nil | refine SubR.cons rfl ?_)) (by repeat (first | exact Sub.refl _ _ | refine Sub.trans Sub.dropF ?_))
    · refine AL.nil (AK.seqN (AC.seq (AC.condF rfl (AC.exit (AK.seqX ?_)))))
      refine AK.seqX (AK.blkX (AK.seqN (AC.seq (AC.region ?_))))
      have hp9 : p = l.length := by omega
      subst hp9
      refine AT.sub ((Sub.commit (i := 0) rfl).trans (Sub.commit (i := 1) rfl)) ?_
      simp only [List.set_cons_zero, List.set_cons_succ]
      refine AL.go (AO.loadBA rfl rfl ?_)
      refine AL.go (AO.storeBA rfl rfl rfl rfl ?_)
      refine AL.nil (AK.seqN (AC.ret ?_))
      exact AK.retV (rs := [.cell 4 _]) (L' := L) (F' := fW (termsT l.length t) _ _ _ :: fK (termsT l.length t) _ _ _ :: F) Tryz.results27 (.agg (j := 3) rfl rfl rfl .nil) (Sub.drop.trans (Sub.drop.trans (Sub.drop.trans (Sub.drop.trans (Sub.drop.trans (Sub.facts (mem2 (by repeat (first | exact mem0 | assumption | refine memS ?_)) (by repeat (first | exact mem0 | assumption | refine memS ?_)) (fun x hx => by repeat (first | exact hx | refine List.mem_cons_of_mem _ ?_))))))))) (h _ _ _ _ _ _)
end
end Go.Sy
