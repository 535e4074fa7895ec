/- The terms of an interface, by the program: the function itself. -/
import Derived.Test.YthbngbiodamndaaDoorSubD
namespace Go.Sy
open Go Go.Proofs Go.RowKit

theorem fst_snoc {A : List Tm} {z : Tm} : (A.map (·.1)) ++ [z.1] = (A ++ [z]).map (·.1) := by simp
theorem snd_snoc {A : List Tm} {z : Tm} : (A.map (·.2)) ++ [z.2] = (A ++ [z]).map (·.2) := by simp
theorem take_snoc {α : Type} {A B : List α} {u : Nat} (hu : u < B.length) : (A ++ B.take u) ++ [B[u]] = A ++ B.take (u + 1) := by
  rw [List.append_assoc, ← List.take_succ_eq_append_getElem hu]
theorem termsR_in {m : Nat} {zs : List Tm} : ∀ x ∈ termsR m zs, 0 ≤ x.2 ∧ x.2 < m := fun x hx => ((termsR_mem m zs x).1 hx).2.2
theorem termsA_in {B : Int} {zs : List Tm} (h : ∀ z ∈ zs, 0 ≤ z.2 ∧ z.2 < B) : ∀ x ∈ termsA zs, 0 ≤ x.2 ∧ x.2 < B := by
  intro x hx
  obtain ⟨h1, h2⟩ := ((termsA_is zs).2 x).1 hx
  obtain ⟨z, hz, _, e⟩ := markOf_kid zs x.2 (by rw [← h1]; exact h2)
  rw [← e]; exact h z hz
theorem zips_in {t : Ty} {B : Int} (h : ∀ k ∈ t.kids, 0 ≤ k ∧ k < B) : ∀ z ∈ zips t, 0 ≤ z.2 ∧ z.2 < B := fun _ hz => h _ (List.of_mem_zip hz).2

attribute [local irreducible] AC AT AO AK AH ACalls Sub Res.cells Res.obj Res.nix Res.own Res.map Exit.then Exit.inBlock bodyPost Code.wp Next Post Kont
section
variable {W0 : World} {L : List Res} {F : List Fact} {R : Value → List Res → List Fact → Prop}
set_option maxRecDepth 100000
set_option maxHeartbeats 8000000
theorem terms_c (l : List Ty) (h400 : l.length ≤ 400) (t : Ty) (hkl : t.kids.length ≤ 20) (hk : ∀ k ∈ t.kids, 0 ≤ k ∧ k < l.length) (hwk : t.words.length = t.kids.length) (hname : t.name = []) {a a1 a2 : Option Addr} {k c k1 c1 k2 c2 : Nat} (mL : fL l a k c ∈ F) (m1 : fW t a1 k1 c1 ∈ F) (m2 : fK t a2 k2 c2 ∈ F)
    (hT : oddP l t → R (.tuple #[vTy (basicT []) none 0 0 none 0 0, .bool false]) L F)
    (hF : ¬ oddP l t → ∀ a1 k1 c1 a2 k2 c2, R (.tuple #[vTy (termsT l.length t) a1 k1 c1 a2 k2 c2, .bool true]) L (fW (termsT l.length t) a1 k1 c1 :: fK (termsT l.length t) a2 k2 c2 :: F)) : ACalls Tryd.prog W0 39 #[.slice a k c, vTy t a1 k1 c1 a2 k2 c2] L F R := by
  have hml : 1000000 ≤ maxLen := by decide
  have hzl := zips_len hwk
  have hzin := zips_in hk
  refine ACalls.body Tryd.func39 rfl Tryd.ntmps39 rfl ?_
  refine AC.seq (AC.region (AL.go (AO.box rfl rfl (fun b3 => ?_))))
  refine AL.go (AO.alloc rfl (fun b4 => ?_))
  refine AL.go (AO.assign rfl rfl (AL.nil (AK.seqN (AC.seq (AC.region ?_)))))
  refine AL.go (AO.loadBA rfl rfl ?_)
  refine AL.go (AO.alloc rfl (fun b6 => ?_))
  refine AL.go (AO.storeBA rfl rfl rfl rfl ?_)
  refine AL.nil (AK.seqN (AC.seq (AC.region (AL.go (AO.field rfl rfl ?_)))))
  refine AL.go (AO.storeB rfl rfl rfl ?_)
  refine AL.go (AO.field rfl rfl ?_)
  refine AL.go (AO.storeB rfl rfl rfl ?_)
  refine AL.nil (AK.seqN (AC.seq (AC.region (AL.go (AO.assign rfl rfl (AL.nil ?_))))))
  refine AK.seqN (AC.seq (AC.seq (AC.region ?_)))
  refine AL.go (AO.field rfl rfl ?_)
  refine AT.sub ((Sub.ownNil (e := 9) (sz := 1)).trans ((Sub.ownNil (e := 3) (sz := 1)).trans (Sub.ownNil (e := 94) (sz := 2)))) ?_
  refine AL.go (AO.loadB rfl rfl ?_)
  refine AL.go (AO.len rfl rfl (fun hl20 => ?_) (hm := by repeat (first | exact mem0 | assumption | refine memS ?_)))
  refine AL.go (AO.move rfl rfl (AL.nil (AK.seqN (AC.block ?_))))
  refine AC.loop (fun (x : Nat × (Option Addr × Nat × Nat) × (Option Addr × Nat × Nat) × (Option Addr × Nat × Nat)) => x.1 ≤ t.words.length ∧ ∀ z ∈ (zips t).take x.1, markP z.1 → ¬ oddK l z.2) (fun x => [(0, .slice a k c), (3, .pointer (some ⟨b3, 0, none⟩)), (4, .pointer (some ⟨b4, 0, none⟩)), (6, .pointer (some ⟨b6, 0, none⟩)), (7, .slice x.2.2.2.1 x.2.2.2.2.1 x.2.2.2.2.2), (19, .slice a1 k1 c1), (20, .int .i64 t.words.length), (21, .int .i64 (x.1 : Int))]) (fun x => Res.own (.slice x.2.2.2.1 x.2.2.2.2.1 x.2.2.2.2.2) 94 2 ((termsA ((zips t).take x.1)).map eTm) :: Res.own (.slice x.2.2.1.1 x.2.2.1.2.1 x.2.2.1.2.2) 3 1 (((declsR ((zips t).take x.1)).map (·.2)).map eI) :: Res.own (.slice x.2.1.1 x.2.1.2.1 x.2.1.2.2) 9 1 (((declsR ((zips t).take x.1)).map (·.1)).map eS) :: Res.cells b6 #[.int .i64 t.kind, S t.name, .int .i64 t.n, .slice x.2.1.1 x.2.1.2.1 x.2.1.2.2, .slice x.2.2.1.1 x.2.2.1.2.1 x.2.2.1.2.2] 31 :: _) (fun _ => F) (fun x => t.words.length - x.1) (0, (none, 0, 0), (none, 0, 0), (none, 0, 0)) ⟨Nat.zero_le _, fun z hz => by simp at hz⟩ (by repeat (first | exact SubR.nil | refine SubR.cons rfl ?_)) (Sub.refl _ _) ?_
  rintro ⟨q, ⟨aW, kW, cW⟩, ⟨aK, kK, cK⟩, ⟨aT, kT, cT⟩⟩ ⟨hq, hno⟩
  simp only at hq hno ⊢
  refine AC.seq (AC.region ?_)
  refine AL.go (AO.lss rfl rfl rfl (fun c22 => ?_) (fun c22 => ?_))
  · refine AL.nil (AK.seqN (AC.seq (AC.condT rfl (AC.skip (AK.seqN ?_)))))
    refine AC.seq (AC.block (AC.seq (AC.region (AL.go (AO.move rfl rfl ?_)))))
    have hqw : q < t.words.length := by omega
    have hqk : q < t.kids.length := by omega
    have hqz : q < (zips t).length := by omega
    have hz := zips_get hqw hqk hqz
    have hb := hk _ (List.getElem_mem hqk)
    have hdl := declsR_len ((zips t).take q)
    have htl := termsA_len ((zips t).take q)
    have hzt : ((zips t).take q).length = q := by rw [List.length_take]; omega
    refine AL.go (AO.indexAddr rfl rfl rfl rfl (show fW t _ _ _ ∈ _ from (by repeat (first | exact mem0 | assumption | refine memS ?_))) hqw (fun _ _ => ?_))
    refine AL.go (AO.loadF rfl rfl ?_)
    intros
    refine AL.go (AO.assign rfl rfl (AL.go (AO.assign rfl rfl (AL.nil (AK.seqN (AC.seq (AC.region ?_)))))))
    refine AL.go (AO.field rfl rfl ?_)
    refine AL.go (AO.loadB rfl rfl ?_)
    refine AL.go (AO.move rfl rfl ?_)
    refine AL.go (AO.indexAddr rfl rfl rfl rfl (show fK t _ _ _ ∈ _ from (by repeat (first | exact mem0 | assumption | refine memS ?_))) hqk (fun _ _ => ?_))
    refine AL.go (AO.loadF rfl rfl ?_)
    intros
    refine AL.go (AO.alloc rfl (fun b10 => ?_))
    refine AL.go (AO.storeB rfl rfl rfl ?_)
    refine AT.sub (Sub.ofEq (L' := Res.cells b10 #[.int .i64 t.kids[q]] 3 :: _) rfl) ?_
    refine AL.nil (AK.seqN (AC.seq (AC.seq (AC.region (AL.go (AO.move rfl rfl ?_))))))
    refine AL.go (AO.call rfl rfl (mark_c t.words[q] (fun c32 => ?_) (fun c32 => ?_)))
    · refine AL.go (AO.not rfl rfl (AL.nil (AK.seqN (AC.condF rfl (AC.skip (AK.seqN ?_))))))
      refine AC.seq (AC.seq (AC.region (AL.go (AO.move rfl rfl ?_))))
      refine AL.go (AO.loadB rfl rfl ?_)
      have hkn : t.kids[q].toNat < l.length := by omega
      have hkt : kindAt l t.kids[q] = l[t.kids[q].toNat].kind := kind_get (by omega) hkn
      have hym : markP (zips t)[q].1 := by rw [hz]; exact c32
      refine AL.go (AO.indexAddr (k := t.kids[q].toNat) rfl rfl rfl (by omega) (enc := eTy) (lst := l) (by repeat (first | exact mem0 | assumption | refine memS ?_)) hkn (fun _ _ => ?_))
      refine AL.go (AO.fieldAt rfl rfl (fun _ => ?_))
      refine AL.go (AO.loadF rfl rfl ?_)
      intros
      refine AL.go (AO.assign rfl rfl (AL.nil (AK.seqN (AC.seq (AC.region (AL.go (AO.move rfl rfl ?_)))))))
      refine AL.go (AO.eql rfl rfl rfl (fun c52 => ?_) (fun c52 => ?_))
      · refine AL.go (AO.move rfl rfl (AL.no rfl rfl rfl rfl (AL.no rfl rfl rfl rfl (AL.go (AO.pickT rfl rfl rfl (AL.go (AO.move rfl rfl (AL.no rfl rfl rfl rfl ?_))))))))
        refine AL.no rfl rfl rfl rfl (AL.no rfl rfl rfl rfl (AL.no rfl rfl rfl rfl (AL.no rfl rfl rfl rfl (AL.no rfl rfl rfl rfl (AL.go (AO.pickT rfl rfl rfl ?_))))))
        refine AL.nil (AK.seqN (AC.condT rfl (AC.seq (AC.region (AL.go (AO.build rfl rfl rfl ?_))))))
        refine AL.go (AO.storeBA rfl rfl rfl rfl ?_)
        refine AL.go (AO.assign rfl rfl (AL.nil (AK.seqN (AC.ret (AK.seqR (AK.blkR ?_))))))
        refine AK.seqR (AK.seqR (AK.blkR (AK.seqR ?_)))
        refine AK.retV (rs := [.cell 4 _, .tmp 5]) (L' := L) (F' := F) Tryd.results39 (.agg (j := 5) rfl rfl rfl (.tmp rfl .nil)) (by repeat (first | exact Sub.refl _ _ | refine Sub.trans Sub.drop ?_ | refine Sub.trans Sub.dropF ?_)) (hT ⟨(zips t)[q], List.getElem_mem hqz, hym, ?_⟩)
        rw [hz]; simp only; rw [hkt]; omega
      · refine AL.go (AO.move rfl rfl (AL.yes rfl rfl (AO.move rfl rfl ?_)))
        refine AL.yes rfl rfl (AO.eql rfl rfl rfl (fun c55 => ?_) (fun c55 => ?_))
        · refine AL.go (AO.pickF rfl rfl rfl (AL.go (AO.move rfl rfl (AL.no rfl rfl rfl rfl (AL.no rfl rfl rfl rfl (AL.no rfl rfl rfl rfl (AL.no rfl rfl rfl rfl ?_)))))))
          refine AL.no rfl rfl rfl rfl (AL.no rfl rfl rfl rfl (AL.go (AO.pickT rfl rfl rfl (AL.nil (AK.seqN (AC.condT rfl ?_))))))
          refine AC.seq (AC.region (AL.go (AO.build rfl rfl rfl ?_)))
          refine AL.go (AO.storeBA rfl rfl rfl rfl ?_)
          refine AL.go (AO.assign rfl rfl (AL.nil (AK.seqN (AC.ret (AK.seqR (AK.blkR ?_))))))
          refine AK.seqR (AK.seqR (AK.blkR (AK.seqR ?_)))
          refine AK.retV (rs := [.cell 4 _, .tmp 5]) (L' := L) (F' := F) Tryd.results39 (.agg (j := 5) rfl rfl rfl (.tmp rfl .nil)) (by repeat (first | exact Sub.refl _ _ | refine Sub.trans Sub.drop ?_ | refine Sub.trans Sub.dropF ?_)) (hT ⟨(zips t)[q], List.getElem_mem hqz, hym, ?_⟩)
          rw [hz]; simp only; rw [hkt]; omega
        · refine AL.go (AO.pickF rfl rfl rfl (AL.go (AO.move rfl rfl ?_)))
          refine AL.yes rfl rfl (AO.loadB rfl rfl ?_)
          refine AL.yes rfl rfl (AO.geq rfl rfl rfl (fun c59 => ?_) (fun c59 => ?_))
          · refine AL.yes rfl rfl (AO.move rfl rfl ?_)
            refine AL.yes rfl rfl (AO.loadB rfl rfl ?_)
            refine AL.yes rfl rfl (AO.leq rfl rfl rfl (fun c62 => ?_) (fun c62 => ?_))
            · refine AL.yes rfl rfl (AO.pickT rfl rfl rfl (AL.go (AO.pickF rfl rfl rfl (AL.nil (AK.seqN (AC.condT rfl (AC.seq ?_)))))))
              refine AC.region (AL.go (AO.build rfl rfl rfl ?_))
              refine AL.go (AO.storeBA rfl rfl rfl rfl ?_)
              refine AL.go (AO.assign rfl rfl (AL.nil (AK.seqN (AC.ret (AK.seqR (AK.blkR ?_))))))
              refine AK.seqR (AK.seqR (AK.blkR (AK.seqR ?_)))
              refine AK.retV (rs := [.cell 4 _, .tmp 5]) (L' := L) (F' := F) Tryd.results39 (.agg (j := 5) rfl rfl rfl (.tmp rfl .nil)) (by repeat (first | exact Sub.refl _ _ | refine Sub.trans Sub.drop ?_ | refine Sub.trans Sub.dropF ?_)) (hT ⟨(zips t)[q], List.getElem_mem hqz, hym, ?_⟩)
              rw [hz]; simp only; rw [hkt]; omega
            · refine AL.yes rfl rfl (AO.pickT rfl rfl rfl (AL.go (AO.pickF rfl rfl rfl (AL.nil (AK.seqN (AC.condF rfl (AC.skip ?_)))))))
              refine AK.seqN (AC.seq (AC.region (AL.go (AO.move rfl rfl ?_))))
              refine AL.go (AO.makeFunc rfl rfl ?_)
              have hodd : ¬ oddK l (zips t)[q].2 := by
               rw [hz]; simp only; unfold oddK; rw [hkt]; omega
              refine AL.go (AO.call rfl rfl (idxTm_c (termsA ((zips t).take q)) (by omega) t.kids[q] (i := 1) (j := 0) rfl rfl (fun c68 => ?_) (fun j68 c68 => ?_)))
              · refine AL.go (AO.assign rfl rfl (AL.nil (AK.seqN (AC.seq (AC.region (AL.go (AO.move rfl rfl ?_)))))))
                refine AL.go (AO.lss rfl rfl rfl (fun _ => ?_) (fun c70 => absurd c70 (by decide)))
                refine AL.nil (AK.seqN (AC.condT rfl (AC.region (AL.go (AO.move rfl rfl (AL.go (AO.move rfl rfl ?_)))))))
                refine AL.go (AO.loadB rfl rfl ?_)
                refine AL.go (AO.build rfl rfl rfl ?_)
                refine AL.go (AO.buildSlice rfl rfl rfl rfl rfl (fun b75 => ?_))
                refine AL.go (AO.append (i := 1) (enc := eTm) (lst := termsA ((zips t).take q)) [(t.words[q], t.kids[q])] rfl rfl rfl rfl (.val (.val .nil)) rfl rfl (fun _ => rfl) (by omega) (by omega) (fun a76 k76 z76 => ?_))
                refine AL.go (AO.assign rfl rfl (AL.nil (AK.blkN (AK.seqN (AC.region (AL.go (AO.add rfl rfl rfl (by omega) (by omega) ?_)))))))
                refine AL.go (AO.move rfl rfl (AL.nil ?_))
                have e1 : termsA ((zips t).take q) ++ [(t.words[q], t.kids[q])] = termsA ((zips t).take (q + 1)) := by rw [← term_yes hqz hym, hz]; exact addTm_none c68
                rw [e1, decl_no hqz hym]
                exact AK.next (q + 1, (aW, kW, cW), (aK, kK, cK), (a76, k76, z76)) ⟨by simp only; omega, odd_step hqz hno (fun _ => hodd)⟩ (by simp only; omega) (by repeat (first | exact SubR.nil | refine SubR.cons rfl ?_)) (Sub.drop.trans (by repeat (first | exact Sub.refl _ _ | refine Sub.trans Sub.dropF ?_)))
              · refine AL.go (AO.assign rfl rfl (AL.nil (AK.seqN (AC.seq (AC.region (AL.go (AO.move rfl rfl ?_)))))))
                refine AL.go (AO.lss rfl rfl rfl (fun c70 => absurd c70 (by omega)) (fun _ => ?_))
                refine AL.nil (AK.seqN (AC.condF rfl (AC.seq (AC.region (AL.go (AO.move rfl rfl ?_))))))
                refine AL.go (AO.eqlS rfl rfl rfl (fun c78 => ?_) (fun c78 => ?_))
                · refine AL.nil (AK.seqN (AC.condT rfl (AC.region (AL.go (AO.move rfl rfl (AL.go (AO.move rfl rfl ?_)))))))
                  refine AL.go (AO.move rfl rfl ?_)
                  have hj68 : j68 < (termsA ((zips t).take q)).length := (idx_some c68).1
                  refine AL.go (AO.indexAddrO (i := 1) (q := j68) rfl rfl rfl rfl rfl (by rw [List.length_map]; exact hj68) (fun bo ho => ?_))
                  subst ho
                  refine AL.go (AO.field rfl rfl ?_)
                  refine AL.go (AO.storeOR (i := 1) (q := j68) (j := 0) rfl rfl rfl rfl rfl (eTm_get hj68) (by simp) ?_)
                  have e2 : ((termsA ((zips t).take q)).map eTm).set j68 (([S (termsA ((zips t).take q))[j68].1, .int .i64 (termsA ((zips t).take q))[j68].2].map D.val).set 0 (.val (S t.words[q]))) = (termsA ((zips t).take (q + 1))).map eTm := by
                   rw [← term_yes hqz hym, hz, ← addTm_set (z := (t.words[q], t.kids[q])) c68 c78]
                   exact eTm_set hj68 (z := (t.words[q], t.kids[q])) (idx_some c68).2
                  show AT _ _ _ _ (_ :: Res.own (.slice (some ⟨bo, 0, none⟩) kT cT) 94 2 (((termsA ((zips t).take q)).map eTm).set j68 (([S (termsA ((zips t).take q))[j68].1, .int .i64 (termsA ((zips t).take q))[j68].2].map D.val).set 0 (.val (S t.words[q])))) :: _) _
                  rw [e2]
                  refine AL.nil (AK.blkN (AK.seqN (AC.region (AL.go (AO.add rfl rfl rfl (by omega) (by omega) (AL.go (AO.move rfl rfl ?_)))))))
                  refine AL.nil ?_
                  rw [decl_no hqz hym]
                  exact AK.next (q + 1, (aW, kW, cW), (aK, kK, cK), (some ⟨bo, 0, none⟩, kT, cT)) ⟨by simp only; omega, odd_step hqz hno (fun _ => hodd)⟩ (by simp only; omega) (by repeat (first | exact SubR.nil | refine SubR.cons rfl ?_)) (Sub.drop.trans (by repeat (first | exact Sub.refl _ _ | refine Sub.trans Sub.dropF ?_)))
                · refine AL.nil (AK.seqN (AC.condF rfl (AC.skip (AK.blkN (AK.seqN ?_)))))
                  refine AC.region (AL.go (AO.add rfl rfl rfl (by omega) (by omega) (AL.go (AO.move rfl rfl (AL.nil ?_)))))
                  have e3 : termsA ((zips t).take q) = termsA ((zips t).take (q + 1)) := by rw [← term_yes hqz hym, hz]; exact addTm_stay c68 c78
                  rw [decl_no hqz hym, e3]
                  exact AK.next (q + 1, (aW, kW, cW), (aK, kK, cK), (aT, kT, cT)) ⟨by simp only; omega, odd_step hqz hno (fun _ => hodd)⟩ (by simp only; omega) (by repeat (first | exact SubR.nil | refine SubR.cons rfl ?_)) (Sub.drop.trans (by repeat (first | exact Sub.refl _ _ | refine Sub.trans Sub.dropF ?_)))
          · refine AL.yes rfl rfl (AO.move rfl rfl (AL.no rfl rfl rfl rfl (AL.no rfl rfl rfl rfl (AL.yes rfl rfl (AO.pickF rfl rfl rfl (AL.go (AO.pickF rfl rfl rfl (AL.nil ?_))))))))
            refine AK.seqN (AC.condF rfl (AC.skip (AK.seqN (AC.seq (AC.region ?_)))))
            refine AL.go (AO.move rfl rfl ?_)
            refine AL.go (AO.makeFunc rfl rfl ?_)
            have hodd : ¬ oddK l (zips t)[q].2 := by
             rw [hz]; simp only; unfold oddK; rw [hkt]; omega
            refine AL.go (AO.call rfl rfl (idxTm_c (termsA ((zips t).take q)) (by omega) t.kids[q] (i := 1) (j := 0) rfl rfl (fun c68 => ?_) (fun j68 c68 => ?_)))
            · refine AL.go (AO.assign rfl rfl (AL.nil (AK.seqN (AC.seq (AC.region (AL.go (AO.move rfl rfl ?_)))))))
              refine AL.go (AO.lss rfl rfl rfl (fun _ => ?_) (fun c70 => absurd c70 (by decide)))
              refine AL.nil (AK.seqN (AC.condT rfl (AC.region (AL.go (AO.move rfl rfl (AL.go (AO.move rfl rfl ?_)))))))
              refine AL.go (AO.loadB rfl rfl ?_)
              refine AL.go (AO.build rfl rfl rfl ?_)
              refine AL.go (AO.buildSlice rfl rfl rfl rfl rfl (fun b75 => ?_))
              refine AL.go (AO.append (i := 1) (enc := eTm) (lst := termsA ((zips t).take q)) [(t.words[q], t.kids[q])] rfl rfl rfl rfl (.val (.val .nil)) rfl rfl (fun _ => rfl) (by omega) (by omega) (fun a76 k76 z76 => ?_))
              refine AL.go (AO.assign rfl rfl (AL.nil (AK.blkN (AK.seqN (AC.region (AL.go (AO.add rfl rfl rfl (by omega) (by omega) ?_)))))))
              refine AL.go (AO.move rfl rfl (AL.nil ?_))
              have e1 : termsA ((zips t).take q) ++ [(t.words[q], t.kids[q])] = termsA ((zips t).take (q + 1)) := by rw [← term_yes hqz hym, hz]; exact addTm_none c68
              rw [e1, decl_no hqz hym]
              exact AK.next (q + 1, (aW, kW, cW), (aK, kK, cK), (a76, k76, z76)) ⟨by simp only; omega, odd_step hqz hno (fun _ => hodd)⟩ (by simp only; omega) (by repeat (first | exact SubR.nil | refine SubR.cons rfl ?_)) (Sub.drop.trans (by repeat (first | exact Sub.refl _ _ | refine Sub.trans Sub.dropF ?_)))
            · refine AL.go (AO.assign rfl rfl (AL.nil (AK.seqN (AC.seq (AC.region (AL.go (AO.move rfl rfl ?_)))))))
              refine AL.go (AO.lss rfl rfl rfl (fun c70 => absurd c70 (by omega)) (fun _ => ?_))
              refine AL.nil (AK.seqN (AC.condF rfl (AC.seq (AC.region (AL.go (AO.move rfl rfl ?_))))))
              refine AL.go (AO.eqlS rfl rfl rfl (fun c78 => ?_) (fun c78 => ?_))
              · refine AL.nil (AK.seqN (AC.condT rfl (AC.region (AL.go (AO.move rfl rfl (AL.go (AO.move rfl rfl ?_)))))))
                refine AL.go (AO.move rfl rfl ?_)
                have hj68 : j68 < (termsA ((zips t).take q)).length := (idx_some c68).1
                refine AL.go (AO.indexAddrO (i := 1) (q := j68) rfl rfl rfl rfl rfl (by rw [List.length_map]; exact hj68) (fun bo ho => ?_))
                subst ho
                refine AL.go (AO.field rfl rfl ?_)
                refine AL.go (AO.storeOR (i := 1) (q := j68) (j := 0) rfl rfl rfl rfl rfl (eTm_get hj68) (by simp) ?_)
                have e2 : ((termsA ((zips t).take q)).map eTm).set j68 (([S (termsA ((zips t).take q))[j68].1, .int .i64 (termsA ((zips t).take q))[j68].2].map D.val).set 0 (.val (S t.words[q]))) = (termsA ((zips t).take (q + 1))).map eTm := by
                 rw [← term_yes hqz hym, hz, ← addTm_set (z := (t.words[q], t.kids[q])) c68 c78]
                 exact eTm_set hj68 (z := (t.words[q], t.kids[q])) (idx_some c68).2
                show AT _ _ _ _ (_ :: Res.own (.slice (some ⟨bo, 0, none⟩) kT cT) 94 2 (((termsA ((zips t).take q)).map eTm).set j68 (([S (termsA ((zips t).take q))[j68].1, .int .i64 (termsA ((zips t).take q))[j68].2].map D.val).set 0 (.val (S t.words[q])))) :: _) _
                rw [e2]
                refine AL.nil (AK.blkN (AK.seqN (AC.region (AL.go (AO.add rfl rfl rfl (by omega) (by omega) (AL.go (AO.move rfl rfl ?_)))))))
                refine AL.nil ?_
                rw [decl_no hqz hym]
                exact AK.next (q + 1, (aW, kW, cW), (aK, kK, cK), (some ⟨bo, 0, none⟩, kT, cT)) ⟨by simp only; omega, odd_step hqz hno (fun _ => hodd)⟩ (by simp only; omega) (by repeat (first | exact SubR.nil | refine SubR.cons rfl ?_)) (Sub.drop.trans (by repeat (first | exact Sub.refl _ _ | refine Sub.trans Sub.dropF ?_)))
              · refine AL.nil (AK.seqN (AC.condF rfl (AC.skip (AK.blkN (AK.seqN ?_)))))
                refine AC.region (AL.go (AO.add rfl rfl rfl (by omega) (by omega) (AL.go (AO.move rfl rfl (AL.nil ?_)))))
                have e3 : termsA ((zips t).take q) = termsA ((zips t).take (q + 1)) := by rw [← term_yes hqz hym, hz]; exact addTm_stay c68 c78
                rw [decl_no hqz hym, e3]
                exact AK.next (q + 1, (aW, kW, cW), (aK, kK, cK), (aT, kT, cT)) ⟨by simp only; omega, odd_step hqz hno (fun _ => hodd)⟩ (by simp only; omega) (by repeat (first | exact SubR.nil | refine SubR.cons rfl ?_)) (Sub.drop.trans (by repeat (first | exact Sub.refl _ _ | refine Sub.trans Sub.dropF ?_)))
    · refine AL.go (AO.not rfl rfl (AL.nil (AK.seqN (AC.condT rfl (AC.seq ?_)))))
      refine AC.draw (fun i => Nat.beq i 11 || Nat.beq i 13) [(b6, _, _), (b10, _, _)] (by repeat (first | exact BxIn.nil | refine BxIn.cons (by repeat (first | exact has0 | assumption | apply hasS)) ?_)) rfl (fun hx hX => ?_)
      refine AH.takeW (i := 0) rfl (Y.field rfl) (by kernel_rfl) rfl rfl ?_
      refine AH.takeS (i := 1) rfl (Y.loadB rfl (by repeat (first | exact List.Mem.head _ | refine List.Mem.tail _ ?_)) (by rfl)) (by kernel_rfl) (by kernel_rfl) rfl rfl rfl ?_
      refine AH.takeW (i := 2) rfl (Y.move rfl) (by kernel_rfl) rfl rfl ?_
      refine AH.takeW (i := 5) rfl (Y.field rfl) (by kernel_rfl) rfl rfl ?_
      refine AH.takeS (i := 6) rfl (Y.loadB rfl (by repeat (first | exact List.Mem.head _ | refine List.Mem.tail _ ?_)) (by rfl)) (by kernel_rfl) (by kernel_rfl) rfl rfl rfl ?_
      refine AH.two (i := 3) (j := 7) (by kernel_rfl) rfl rfl rfl rfl (fun _ => ?_) (fun _ => ?_)
      · refine AO.buildSlice rfl rfl rfl rfl rfl (fun b37 => ?_)
        refine AT.sub ((Sub.lit (i := 0) (k := 1) (enc := eS) (sz := 1) [t.words[q]] rfl (.val .nil) (fun _ => rfl) rfl (by omega)).trans Sub.drop) ?_
        refine AT.held (by repeat (first | exact BxIn.nil | refine BxIn.cons (by repeat (first | exact has0 | assumption | apply hasS)) ?_)) (by repeat (first | exact mem0 | refine memS ?_)) ?_
        refine AH.two (i := 4) (j := 7) (by kernel_rfl) rfl rfl rfl rfl (fun _ => ?_) (fun _ => ?_)
        · refine AO.appendF (i := 3) (enc := eS) (lst := (declsR ((zips t).take q)).map (·.1)) (lst2 := [t.words[q]]) rfl rfl rfl rfl (by repeat (first | exact mem0 | assumption | refine memS ?_)) (fun x d hd v hv => eS_one hd hv) (fun _ => rfl) (by simp only [List.length_map, List.length_cons, List.length_nil]; omega) (by simp only [List.length_map, List.length_cons, List.length_nil]; omega) (fun a38 k38 z38 => ?_)
          simp only [List.set_cons_zero, List.set_cons_succ]
          refine AT.held (by repeat (first | exact BxIn.nil | refine BxIn.cons (by repeat (first | exact has0 | assumption | apply hasS)) ?_)) (by repeat (first | exact mem0 | refine memS ?_)) ?_
          refine AH.takeW (i := 10) rfl (Y.field rfl) (by kernel_rfl) rfl rfl ?_
          refine AH.one (i := 7) (by kernel_rfl) rfl rfl (fun _ => ?_)
          refine AO.loadB (cs := [.int .i64 t.kids[q]]) rfl rfl ?_
          refine AT.held (by repeat (first | exact BxIn.nil | refine BxIn.cons (by repeat (first | exact has0 | assumption | apply hasS)) ?_)) (by repeat (first | exact mem0 | refine memS ?_)) ?_
          refine AH.one (i := 8) (by kernel_rfl) rfl rfl (fun _ => ?_)
          refine AO.buildSlice rfl rfl rfl rfl rfl (fun b42 => ?_)
          refine AT.sub ((Sub.lit (i := 0) (k := 1) (enc := eI) (sz := 1) [t.kids[q]] rfl (.val .nil) (fun _ => rfl) rfl (by omega)).trans Sub.drop) ?_
          refine AT.held (by repeat (first | exact BxIn.nil | refine BxIn.cons (by repeat (first | exact has0 | assumption | apply hasS)) ?_)) (by repeat (first | exact mem0 | refine memS ?_)) ?_
          refine AH.one (i := 9) (by kernel_rfl) rfl rfl (fun _ => ?_)
          refine AO.appendF (i := 2) (enc := eI) (lst := (declsR ((zips t).take q)).map (·.2)) (lst2 := [t.kids[q]]) rfl rfl rfl rfl (by repeat (first | exact mem0 | assumption | refine memS ?_)) (fun x d hd v hv => eI_one hd hv) (fun _ => rfl) (by simp only [List.length_map, List.length_cons, List.length_nil]; omega) (by simp only [List.length_map, List.length_cons, List.length_nil]; omega) (fun a43 k43 z43 => ?_)
          simp only [List.set_cons_zero, List.set_cons_succ]
          refine AT.held (by repeat (first | exact BxIn.nil | refine BxIn.cons (by repeat (first | exact has0 | assumption | apply hasS)) ?_)) (by repeat (first | exact mem0 | refine memS ?_)) ?_
          refine AH.one (i := 11) (by kernel_rfl) rfl rfl (fun _ => ?_)
          refine AO.storeB rfl rfl rfl ?_
          refine AT.spoilt rfl ?_
          refine AH.takeW (i := 12) rfl (Y.field rfl) (by kernel_rfl) rfl rfl ?_
          refine AH.one (i := 13) (by kernel_rfl) rfl rfl (fun _ => ?_)
          refine AO.storeB rfl rfl rfl ?_
          refine AT.spoilt rfl ?_
          refine AH.done (by kernel_rfl) ?_
          refine AK.seqN (AC.exit (AK.seqX (AK.blkX (AK.seqN (AC.region ?_)))))
          refine AL.go (AO.add rfl rfl rfl (by omega) (by omega) (AL.go (AO.move rfl rfl (AL.nil ?_))))
          have hnm : ¬ markP (zips t)[q].1 := by rw [hz]; exact c32
          have e1 : (declsR ((zips t).take q)).map (·.1) ++ [t.words[q]] = (declsR ((zips t).take (q + 1))).map (·.1) := by rw [← decl_yes hqz hnm, hz]; simp
          have e2 : (declsR ((zips t).take q)).map (·.2) ++ [t.kids[q]] = (declsR ((zips t).take (q + 1))).map (·.2) := by rw [← decl_yes hqz hnm, hz]; simp
          rw [e1, e2, term_no hqz hnm]
          exact AK.next (q + 1, (a38, k38, z38), (a43, k43, z43), (aT, kT, cT)) ⟨by simp only; omega, odd_step hqz hno (fun hm => absurd hm hnm)⟩ (by simp only; omega) (by repeat (first | exact SubR.nil | refine SubR.cons rfl ?_)) (Sub.drop.trans (by repeat (first | exact Sub.refl _ _ | refine Sub.trans Sub.dropF ?_)))
        · refine AO.loadB (cs := [.int .i64 t.kids[q]]) rfl rfl ?_
          refine AT.held (by repeat (first | exact BxIn.nil | refine BxIn.cons (by repeat (first | exact has0 | assumption | apply hasS)) ?_)) (by repeat (first | exact mem0 | refine memS ?_)) ?_
          refine AH.two (i := 4) (j := 8) (by kernel_rfl) rfl rfl rfl rfl (fun _ => ?_) (fun _ => ?_)
          · refine AO.appendF (i := 3) (enc := eS) (lst := (declsR ((zips t).take q)).map (·.1)) (lst2 := [t.words[q]]) rfl rfl rfl rfl (by repeat (first | exact mem0 | assumption | refine memS ?_)) (fun x d hd v hv => eS_one hd hv) (fun _ => rfl) (by simp only [List.length_map, List.length_cons, List.length_nil]; omega) (by simp only [List.length_map, List.length_cons, List.length_nil]; omega) (fun a38 k38 z38 => ?_)
            simp only [List.set_cons_zero, List.set_cons_succ]
            refine AT.held (by repeat (first | exact BxIn.nil | refine BxIn.cons (by repeat (first | exact has0 | assumption | apply hasS)) ?_)) (by repeat (first | exact mem0 | refine memS ?_)) ?_
            refine AH.takeW (i := 10) rfl (Y.field rfl) (by kernel_rfl) rfl rfl ?_
            refine AH.one (i := 8) (by kernel_rfl) rfl rfl (fun _ => ?_)
            refine AO.buildSlice rfl rfl rfl rfl rfl (fun b42 => ?_)
            refine AT.sub ((Sub.lit (i := 0) (k := 1) (enc := eI) (sz := 1) [t.kids[q]] rfl (.val .nil) (fun _ => rfl) rfl (by omega)).trans Sub.drop) ?_
            refine AT.held (by repeat (first | exact BxIn.nil | refine BxIn.cons (by repeat (first | exact has0 | assumption | apply hasS)) ?_)) (by repeat (first | exact mem0 | refine memS ?_)) ?_
            refine AH.one (i := 9) (by kernel_rfl) rfl rfl (fun _ => ?_)
            refine AO.appendF (i := 2) (enc := eI) (lst := (declsR ((zips t).take q)).map (·.2)) (lst2 := [t.kids[q]]) rfl rfl rfl rfl (by repeat (first | exact mem0 | assumption | refine memS ?_)) (fun x d hd v hv => eI_one hd hv) (fun _ => rfl) (by simp only [List.length_map, List.length_cons, List.length_nil]; omega) (by simp only [List.length_map, List.length_cons, List.length_nil]; omega) (fun a43 k43 z43 => ?_)
            simp only [List.set_cons_zero, List.set_cons_succ]
            refine AT.held (by repeat (first | exact BxIn.nil | refine BxIn.cons (by repeat (first | exact has0 | assumption | apply hasS)) ?_)) (by repeat (first | exact mem0 | refine memS ?_)) ?_
            refine AH.one (i := 11) (by kernel_rfl) rfl rfl (fun _ => ?_)
            refine AO.storeB rfl rfl rfl ?_
            refine AT.spoilt rfl ?_
            refine AH.takeW (i := 12) rfl (Y.field rfl) (by kernel_rfl) rfl rfl ?_
            refine AH.one (i := 13) (by kernel_rfl) rfl rfl (fun _ => ?_)
            refine AO.storeB rfl rfl rfl ?_
            refine AT.spoilt rfl ?_
            refine AH.done (by kernel_rfl) ?_
            refine AK.seqN (AC.exit (AK.seqX (AK.blkX (AK.seqN (AC.region ?_)))))
            refine AL.go (AO.add rfl rfl rfl (by omega) (by omega) (AL.go (AO.move rfl rfl (AL.nil ?_))))
            have hnm : ¬ markP (zips t)[q].1 := by rw [hz]; exact c32
            have e1 : (declsR ((zips t).take q)).map (·.1) ++ [t.words[q]] = (declsR ((zips t).take (q + 1))).map (·.1) := by rw [← decl_yes hqz hnm, hz]; simp
            have e2 : (declsR ((zips t).take q)).map (·.2) ++ [t.kids[q]] = (declsR ((zips t).take (q + 1))).map (·.2) := by rw [← decl_yes hqz hnm, hz]; simp
            rw [e1, e2, term_no hqz hnm]
            exact AK.next (q + 1, (a38, k38, z38), (a43, k43, z43), (aT, kT, cT)) ⟨by simp only; omega, odd_step hqz hno (fun hm => absurd hm hnm)⟩ (by simp only; omega) (by repeat (first | exact SubR.nil | refine SubR.cons rfl ?_)) (Sub.drop.trans (by repeat (first | exact Sub.refl _ _ | refine Sub.trans Sub.dropF ?_)))
          · refine AO.buildSlice rfl rfl rfl rfl rfl (fun b42 => ?_)
            refine AT.sub ((Sub.lit (i := 0) (k := 1) (enc := eI) (sz := 1) [t.kids[q]] rfl (.val .nil) (fun _ => rfl) rfl (by omega)).trans Sub.drop) ?_
            refine AT.held (by repeat (first | exact BxIn.nil | refine BxIn.cons (by repeat (first | exact has0 | assumption | apply hasS)) ?_)) (by repeat (first | exact mem0 | refine memS ?_)) ?_
            refine AH.one (i := 4) (by kernel_rfl) rfl rfl (fun _ => ?_)
            refine AO.appendF (i := 3) (enc := eS) (lst := (declsR ((zips t).take q)).map (·.1)) (lst2 := [t.words[q]]) rfl rfl rfl rfl (by repeat (first | exact mem0 | assumption | refine memS ?_)) (fun x d hd v hv => eS_one hd hv) (fun _ => rfl) (by simp only [List.length_map, List.length_cons, List.length_nil]; omega) (by simp only [List.length_map, List.length_cons, List.length_nil]; omega) (fun a38 k38 z38 => ?_)
            simp only [List.set_cons_zero, List.set_cons_succ]
            refine AT.held (by repeat (first | exact BxIn.nil | refine BxIn.cons (by repeat (first | exact has0 | assumption | apply hasS)) ?_)) (by repeat (first | exact mem0 | refine memS ?_)) ?_
            refine AH.takeW (i := 10) rfl (Y.field rfl) (by kernel_rfl) rfl rfl ?_
            refine AH.one (i := 9) (by kernel_rfl) rfl rfl (fun _ => ?_)
            refine AO.appendF (i := 2) (enc := eI) (lst := (declsR ((zips t).take q)).map (·.2)) (lst2 := [t.kids[q]]) rfl rfl rfl rfl (by repeat (first | exact mem0 | assumption | refine memS ?_)) (fun x d hd v hv => eI_one hd hv) (fun _ => rfl) (by simp only [List.length_map, List.length_cons, List.length_nil]; omega) (by simp only [List.length_map, List.length_cons, List.length_nil]; omega) (fun a43 k43 z43 => ?_)
            simp only [List.set_cons_zero, List.set_cons_succ]
            refine AT.held (by repeat (first | exact BxIn.nil | refine BxIn.cons (by repeat (first | exact has0 | assumption | apply hasS)) ?_)) (by repeat (first | exact mem0 | refine memS ?_)) ?_
            refine AH.one (i := 11) (by kernel_rfl) rfl rfl (fun _ => ?_)
            refine AO.storeB rfl rfl rfl ?_
            refine AT.spoilt rfl ?_
            refine AH.takeW (i := 12) rfl (Y.field rfl) (by kernel_rfl) rfl rfl ?_
            refine AH.one (i := 13) (by kernel_rfl) rfl rfl (fun _ => ?_)
            refine AO.storeB rfl rfl rfl ?_
            refine AT.spoilt rfl ?_
            refine AH.done (by kernel_rfl) ?_
            refine AK.seqN (AC.exit (AK.seqX (AK.blkX (AK.seqN (AC.region ?_)))))
            refine AL.go (AO.add rfl rfl rfl (by omega) (by omega) (AL.go (AO.move rfl rfl (AL.nil ?_))))
            have hnm : ¬ markP (zips t)[q].1 := by rw [hz]; exact c32
            have e1 : (declsR ((zips t).take q)).map (·.1) ++ [t.words[q]] = (declsR ((zips t).take (q + 1))).map (·.1) := by rw [← decl_yes hqz hnm, hz]; simp
            have e2 : (declsR ((zips t).take q)).map (·.2) ++ [t.kids[q]] = (declsR ((zips t).take (q + 1))).map (·.2) := by rw [← decl_yes hqz hnm, hz]; simp
            rw [e1, e2, term_no hqz hnm]
            exact AK.next (q + 1, (a38, k38, z38), (a43, k43, z43), (aT, kT, cT)) ⟨by simp only; omega, odd_step hqz hno (fun hm => absurd hm hnm)⟩ (by simp only; omega) (by repeat (first | exact SubR.nil | refine SubR.cons rfl ?_)) (Sub.drop.trans (by repeat (first | exact Sub.refl _ _ | refine Sub.trans Sub.dropF ?_)))
      · refine AO.loadB (cs := [.int .i64 t.kids[q]]) rfl rfl ?_
        refine AT.held (by repeat (first | exact BxIn.nil | refine BxIn.cons (by repeat (first | exact has0 | assumption | apply hasS)) ?_)) (by repeat (first | exact mem0 | refine memS ?_)) ?_
        refine AH.two (i := 3) (j := 8) (by kernel_rfl) rfl rfl rfl rfl (fun _ => ?_) (fun _ => ?_)
        · refine AO.buildSlice rfl rfl rfl rfl rfl (fun b37 => ?_)
          refine AT.sub ((Sub.lit (i := 0) (k := 1) (enc := eS) (sz := 1) [t.words[q]] rfl (.val .nil) (fun _ => rfl) rfl (by omega)).trans Sub.drop) ?_
          refine AT.held (by repeat (first | exact BxIn.nil | refine BxIn.cons (by repeat (first | exact has0 | assumption | apply hasS)) ?_)) (by repeat (first | exact mem0 | refine memS ?_)) ?_
          refine AH.two (i := 4) (j := 8) (by kernel_rfl) rfl rfl rfl rfl (fun _ => ?_) (fun _ => ?_)
          · refine AO.appendF (i := 3) (enc := eS) (lst := (declsR ((zips t).take q)).map (·.1)) (lst2 := [t.words[q]]) rfl rfl rfl rfl (by repeat (first | exact mem0 | assumption | refine memS ?_)) (fun x d hd v hv => eS_one hd hv) (fun _ => rfl) (by simp only [List.length_map, List.length_cons, List.length_nil]; omega) (by simp only [List.length_map, List.length_cons, List.length_nil]; omega) (fun a38 k38 z38 => ?_)
            simp only [List.set_cons_zero, List.set_cons_succ]
            refine AT.held (by repeat (first | exact BxIn.nil | refine BxIn.cons (by repeat (first | exact has0 | assumption | apply hasS)) ?_)) (by repeat (first | exact mem0 | refine memS ?_)) ?_
            refine AH.takeW (i := 10) rfl (Y.field rfl) (by kernel_rfl) rfl rfl ?_
            refine AH.one (i := 8) (by kernel_rfl) rfl rfl (fun _ => ?_)
            refine AO.buildSlice rfl rfl rfl rfl rfl (fun b42 => ?_)
            refine AT.sub ((Sub.lit (i := 0) (k := 1) (enc := eI) (sz := 1) [t.kids[q]] rfl (.val .nil) (fun _ => rfl) rfl (by omega)).trans Sub.drop) ?_
            refine AT.held (by repeat (first | exact BxIn.nil | refine BxIn.cons (by repeat (first | exact has0 | assumption | apply hasS)) ?_)) (by repeat (first | exact mem0 | refine memS ?_)) ?_
            refine AH.one (i := 9) (by kernel_rfl) rfl rfl (fun _ => ?_)
            refine AO.appendF (i := 2) (enc := eI) (lst := (declsR ((zips t).take q)).map (·.2)) (lst2 := [t.kids[q]]) rfl rfl rfl rfl (by repeat (first | exact mem0 | assumption | refine memS ?_)) (fun x d hd v hv => eI_one hd hv) (fun _ => rfl) (by simp only [List.length_map, List.length_cons, List.length_nil]; omega) (by simp only [List.length_map, List.length_cons, List.length_nil]; omega) (fun a43 k43 z43 => ?_)
            simp only [List.set_cons_zero, List.set_cons_succ]
            refine AT.held (by repeat (first | exact BxIn.nil | refine BxIn.cons (by repeat (first | exact has0 | assumption | apply hasS)) ?_)) (by repeat (first | exact mem0 | refine memS ?_)) ?_
            refine AH.one (i := 11) (by kernel_rfl) rfl rfl (fun _ => ?_)
            refine AO.storeB rfl rfl rfl ?_
            refine AT.spoilt rfl ?_
            refine AH.takeW (i := 12) rfl (Y.field rfl) (by kernel_rfl) rfl rfl ?_
            refine AH.one (i := 13) (by kernel_rfl) rfl rfl (fun _ => ?_)
            refine AO.storeB rfl rfl rfl ?_
            refine AT.spoilt rfl ?_
            refine AH.done (by kernel_rfl) ?_
            refine AK.seqN (AC.exit (AK.seqX (AK.blkX (AK.seqN (AC.region ?_)))))
            refine AL.go (AO.add rfl rfl rfl (by omega) (by omega) (AL.go (AO.move rfl rfl (AL.nil ?_))))
            have hnm : ¬ markP (zips t)[q].1 := by rw [hz]; exact c32
            have e1 : (declsR ((zips t).take q)).map (·.1) ++ [t.words[q]] = (declsR ((zips t).take (q + 1))).map (·.1) := by rw [← decl_yes hqz hnm, hz]; simp
            have e2 : (declsR ((zips t).take q)).map (·.2) ++ [t.kids[q]] = (declsR ((zips t).take (q + 1))).map (·.2) := by rw [← decl_yes hqz hnm, hz]; simp
            rw [e1, e2, term_no hqz hnm]
            exact AK.next (q + 1, (a38, k38, z38), (a43, k43, z43), (aT, kT, cT)) ⟨by simp only; omega, odd_step hqz hno (fun hm => absurd hm hnm)⟩ (by simp only; omega) (by repeat (first | exact SubR.nil | refine SubR.cons rfl ?_)) (Sub.drop.trans (by repeat (first | exact Sub.refl _ _ | refine Sub.trans Sub.dropF ?_)))
          · refine AO.buildSlice rfl rfl rfl rfl rfl (fun b42 => ?_)
            refine AT.sub ((Sub.lit (i := 0) (k := 1) (enc := eI) (sz := 1) [t.kids[q]] rfl (.val .nil) (fun _ => rfl) rfl (by omega)).trans Sub.drop) ?_
            refine AT.held (by repeat (first | exact BxIn.nil | refine BxIn.cons (by repeat (first | exact has0 | assumption | apply hasS)) ?_)) (by repeat (first | exact mem0 | refine memS ?_)) ?_
            refine AH.one (i := 4) (by kernel_rfl) rfl rfl (fun _ => ?_)
            refine AO.appendF (i := 3) (enc := eS) (lst := (declsR ((zips t).take q)).map (·.1)) (lst2 := [t.words[q]]) rfl rfl rfl rfl (by repeat (first | exact mem0 | assumption | refine memS ?_)) (fun x d hd v hv => eS_one hd hv) (fun _ => rfl) (by simp only [List.length_map, List.length_cons, List.length_nil]; omega) (by simp only [List.length_map, List.length_cons, List.length_nil]; omega) (fun a38 k38 z38 => ?_)
            simp only [List.set_cons_zero, List.set_cons_succ]
            refine AT.held (by repeat (first | exact BxIn.nil | refine BxIn.cons (by repeat (first | exact has0 | assumption | apply hasS)) ?_)) (by repeat (first | exact mem0 | refine memS ?_)) ?_
            refine AH.takeW (i := 10) rfl (Y.field rfl) (by kernel_rfl) rfl rfl ?_
            refine AH.one (i := 9) (by kernel_rfl) rfl rfl (fun _ => ?_)
            refine AO.appendF (i := 2) (enc := eI) (lst := (declsR ((zips t).take q)).map (·.2)) (lst2 := [t.kids[q]]) rfl rfl rfl rfl (by repeat (first | exact mem0 | assumption | refine memS ?_)) (fun x d hd v hv => eI_one hd hv) (fun _ => rfl) (by simp only [List.length_map, List.length_cons, List.length_nil]; omega) (by simp only [List.length_map, List.length_cons, List.length_nil]; omega) (fun a43 k43 z43 => ?_)
            simp only [List.set_cons_zero, List.set_cons_succ]
            refine AT.held (by repeat (first | exact BxIn.nil | refine BxIn.cons (by repeat (first | exact has0 | assumption | apply hasS)) ?_)) (by repeat (first | exact mem0 | refine memS ?_)) ?_
            refine AH.one (i := 11) (by kernel_rfl) rfl rfl (fun _ => ?_)
            refine AO.storeB rfl rfl rfl ?_
            refine AT.spoilt rfl ?_
            refine AH.takeW (i := 12) rfl (Y.field rfl) (by kernel_rfl) rfl rfl ?_
            refine AH.one (i := 13) (by kernel_rfl) rfl rfl (fun _ => ?_)
            refine AO.storeB rfl rfl rfl ?_
            refine AT.spoilt rfl ?_
            refine AH.done (by kernel_rfl) ?_
            refine AK.seqN (AC.exit (AK.seqX (AK.blkX (AK.seqN (AC.region ?_)))))
            refine AL.go (AO.add rfl rfl rfl (by omega) (by omega) (AL.go (AO.move rfl rfl (AL.nil ?_))))
            have hnm : ¬ markP (zips t)[q].1 := by rw [hz]; exact c32
            have e1 : (declsR ((zips t).take q)).map (·.1) ++ [t.words[q]] = (declsR ((zips t).take (q + 1))).map (·.1) := by rw [← decl_yes hqz hnm, hz]; simp
            have e2 : (declsR ((zips t).take q)).map (·.2) ++ [t.kids[q]] = (declsR ((zips t).take (q + 1))).map (·.2) := by rw [← decl_yes hqz hnm, hz]; simp
            rw [e1, e2, term_no hqz hnm]
            exact AK.next (q + 1, (a38, k38, z38), (a43, k43, z43), (aT, kT, cT)) ⟨by simp only; omega, odd_step hqz hno (fun hm => absurd hm hnm)⟩ (by simp only; omega) (by repeat (first | exact SubR.nil | refine SubR.cons rfl ?_)) (Sub.drop.trans (by repeat (first | exact Sub.refl _ _ | refine Sub.trans Sub.dropF ?_)))
        · refine AO.buildSlice rfl rfl rfl rfl rfl (fun b42 => ?_)
          refine AT.sub ((Sub.lit (i := 0) (k := 1) (enc := eI) (sz := 1) [t.kids[q]] rfl (.val .nil) (fun _ => rfl) rfl (by omega)).trans Sub.drop) ?_
          refine AT.held (by repeat (first | exact BxIn.nil | refine BxIn.cons (by repeat (first | exact has0 | assumption | apply hasS)) ?_)) (by repeat (first | exact mem0 | refine memS ?_)) ?_
          refine AH.one (i := 3) (by kernel_rfl) rfl rfl (fun _ => ?_)
          refine AO.buildSlice rfl rfl rfl rfl rfl (fun b37 => ?_)
          refine AT.sub ((Sub.lit (i := 0) (k := 1) (enc := eS) (sz := 1) [t.words[q]] rfl (.val .nil) (fun _ => rfl) rfl (by omega)).trans Sub.drop) ?_
          refine AT.held (by repeat (first | exact BxIn.nil | refine BxIn.cons (by repeat (first | exact has0 | assumption | apply hasS)) ?_)) (by repeat (first | exact mem0 | refine memS ?_)) ?_
          refine AH.one (i := 4) (by kernel_rfl) rfl rfl (fun _ => ?_)
          refine AO.appendF (i := 3) (enc := eS) (lst := (declsR ((zips t).take q)).map (·.1)) (lst2 := [t.words[q]]) rfl rfl rfl rfl (by repeat (first | exact mem0 | assumption | refine memS ?_)) (fun x d hd v hv => eS_one hd hv) (fun _ => rfl) (by simp only [List.length_map, List.length_cons, List.length_nil]; omega) (by simp only [List.length_map, List.length_cons, List.length_nil]; omega) (fun a38 k38 z38 => ?_)
          simp only [List.set_cons_zero, List.set_cons_succ]
          refine AT.held (by repeat (first | exact BxIn.nil | refine BxIn.cons (by repeat (first | exact has0 | assumption | apply hasS)) ?_)) (by repeat (first | exact mem0 | refine memS ?_)) ?_
          refine AH.takeW (i := 10) rfl (Y.field rfl) (by kernel_rfl) rfl rfl ?_
          refine AH.one (i := 9) (by kernel_rfl) rfl rfl (fun _ => ?_)
          refine AO.appendF (i := 2) (enc := eI) (lst := (declsR ((zips t).take q)).map (·.2)) (lst2 := [t.kids[q]]) rfl rfl rfl rfl (by repeat (first | exact mem0 | assumption | refine memS ?_)) (fun x d hd v hv => eI_one hd hv) (fun _ => rfl) (by simp only [List.length_map, List.length_cons, List.length_nil]; omega) (by simp only [List.length_map, List.length_cons, List.length_nil]; omega) (fun a43 k43 z43 => ?_)
          simp only [List.set_cons_zero, List.set_cons_succ]
          refine AT.held (by repeat (first | exact BxIn.nil | refine BxIn.cons (by repeat (first | exact has0 | assumption | apply hasS)) ?_)) (by repeat (first | exact mem0 | refine memS ?_)) ?_
          refine AH.one (i := 11) (by kernel_rfl) rfl rfl (fun _ => ?_)
          refine AO.storeB rfl rfl rfl ?_
          refine AT.spoilt rfl ?_
          refine AH.takeW (i := 12) rfl (Y.field rfl) (by kernel_rfl) rfl rfl ?_
          refine AH.one (i := 13) (by kernel_rfl) rfl rfl (fun _ => ?_)
          refine AO.storeB rfl rfl rfl ?_
          refine AT.spoilt rfl ?_
          refine AH.done (by kernel_rfl) ?_
          refine AK.seqN (AC.exit (AK.seqX (AK.blkX (AK.seqN (AC.region ?_)))))
          refine AL.go (AO.add rfl rfl rfl (by omega) (by omega) (AL.go (AO.move rfl rfl (AL.nil ?_))))
          have hnm : ¬ markP (zips t)[q].1 := by rw [hz]; exact c32
          have e1 : (declsR ((zips t).take q)).map (·.1) ++ [t.words[q]] = (declsR ((zips t).take (q + 1))).map (·.1) := by rw [← decl_yes hqz hnm, hz]; simp
          have e2 : (declsR ((zips t).take q)).map (·.2) ++ [t.kids[q]] = (declsR ((zips t).take (q + 1))).map (·.2) := by rw [← decl_yes hqz hnm, hz]; simp
          rw [e1, e2, term_no hqz hnm]
          exact AK.next (q + 1, (a38, k38, z38), (a43, k43, z43), (aT, kT, cT)) ⟨by simp only; omega, odd_step hqz hno (fun hm => absurd hm hnm)⟩ (by simp only; omega) (by repeat (first | exact SubR.nil | refine SubR.cons rfl ?_)) (Sub.drop.trans (by repeat (first | exact Sub.refl _ _ | refine Sub.trans Sub.dropF ?_)))
  · refine AL.nil (AK.seqN (AC.seq (AC.condF rfl (AC.exit (AK.seqX ?_)))))
    refine AK.seqX (AK.blkX (AK.seqN (AC.seq (AC.region (AL.go (AO.move rfl rfl ?_))))))
    have hq9 : (zips t).take q = zips t := List.take_of_length_le (by omega)
    rw [hq9] at hno ⊢
    have htl := termsA_len (zips t)
    have hdl := declsR_len (zips t)
    refine AL.go (AO.call rfl rfl (sortTm_c (termsA (zips t)) (fun x hx => by have := termsA_in hzin x hx; omega) (by omega) (i := 0) rfl (fun bs hbp hbs => ?_)))
    rw [terms_sort (m := l.length) (fun z hz _ => hzin z hz) hbp hbs]
    have hrl : (termsR l.length (zips t)).length ≤ 20 := by
     have e9 := terms_sort (m := l.length) (fun z hz _ => hzin z hz) hbp hbs
     have := hbp.length_eq
     rw [← e9]; omega
    simp only [List.set_cons_zero]
    refine AL.nil (AK.seqN (AC.seq (AC.seq (AC.region (AL.go (AO.move rfl rfl ?_))))))
    refine AL.go (AO.lenO (i := 0) rfl rfl rfl (fun hk88 => ?_))
    rw [List.length_map]
    refine AL.go (AO.move rfl rfl (AL.nil (AK.seqN (AC.block ?_))))
    refine AC.loop (fun (x : Nat × (Option Addr × Nat × Nat) × (Option Addr × Nat × Nat)) => x.1 ≤ (termsR l.length (zips t)).length) (fun x => [(4, .pointer (some ⟨b4, 0, none⟩)), (6, .pointer (some ⟨b6, 0, none⟩)), (87, .slice aT kT cT), (88, .int .i64 (termsR l.length (zips t)).length), (89, .int .i64 (x.1 : Int))]) (fun x => Res.own (.slice aT kT cT) 94 2 ((termsR l.length (zips t)).map eTm) :: Res.own (.slice x.2.2.1 x.2.2.2.1 x.2.2.2.2) 3 1 (((declsR (zips t) ++ (termsR l.length (zips t)).take x.1).map (·.2)).map eI) :: Res.own (.slice x.2.1.1 x.2.1.2.1 x.2.1.2.2) 9 1 (((declsR (zips t) ++ (termsR l.length (zips t)).take x.1).map (·.1)).map eS) :: Res.cells b6 #[.int .i64 t.kind, S t.name, .int .i64 t.n, .slice x.2.1.1 x.2.1.2.1 x.2.1.2.2, .slice x.2.2.1 x.2.2.2.1 x.2.2.2.2] 31 :: _) (fun _ => F) (fun x => (termsR l.length (zips t)).length - x.1) (0, (aW, kW, cW), (aK, kK, cK)) (Nat.zero_le _) (by repeat (first | exact SubR.nil | refine SubR.cons rfl ?_)) (Sub.ofEq (by rw [List.take_zero, List.append_nil])) ?_
    rintro ⟨u, ⟨aW, kW, cW⟩, ⟨aK, kK, cK⟩⟩ hu
    simp only at hu ⊢
    refine AC.seq (AC.region ?_)
    refine AL.go (AO.lss rfl rfl rfl (fun c90 => ?_) (fun c90 => ?_))
    · refine AL.nil (AK.seqN (AC.seq (AC.condT rfl (AC.skip (AK.seqN ?_)))))
      refine AC.seq (AC.block (AC.seq (AC.region ?_)))
      have hul : u < (termsR l.length (zips t)).length := by omega
      have hal : (declsR (zips t) ++ (termsR l.length (zips t)).take u).length ≤ 40 := by rw [List.length_append, List.length_take]; omega
      refine AL.go (AO.indexAddrO (i := 0) (q := u) rfl rfl rfl rfl rfl (by rw [List.length_map]; exact hul) (fun bo2 ho2 => ?_))
      subst ho2
      refine AL.go (AO.loadOA (i := 0) (q := u) (vs := [S (termsR l.length (zips t))[u].1, .int .i64 (termsR l.length (zips t))[u].2]) rfl rfl rfl rfl (eTm_get hul) rfl ?_)
      refine AL.go (AO.alloc rfl (fun b14 => ?_))
      refine AL.go (AO.storeBA rfl rfl rfl rfl ?_)
      refine AT.sub (Sub.ofEq (L' := Res.cells b14 #[S (termsR l.length (zips t))[u].1, .int .i64 (termsR l.length (zips t))[u].2] 94 :: _) rfl) ?_
      refine AL.nil (AK.seqN ?_)
      refine AC.draw (fun i => Nat.beq i 13 || Nat.beq i 15) [(b6, _, _), (b14, _, _)] (by repeat (first | exact BxIn.nil | refine BxIn.cons (by repeat (first | exact has0 | assumption | apply hasS)) ?_)) rfl (fun hx hX => ?_)
      refine AH.takeW (i := 0) rfl (Y.field rfl) (by kernel_rfl) rfl rfl ?_
      refine AH.takeS (i := 1) rfl (Y.loadB rfl (by repeat (first | exact List.Mem.head _ | refine List.Mem.tail _ ?_)) (by rfl)) (by kernel_rfl) (by kernel_rfl) rfl rfl rfl ?_
      refine AH.takeW (i := 2) rfl (Y.field rfl) (by kernel_rfl) rfl rfl ?_
      refine AH.takeS (i := 3) rfl (Y.loadB rfl (by repeat (first | exact List.Mem.head _ | refine List.Mem.tail _ ?_)) (by rfl)) (by kernel_rfl) (by kernel_rfl) rfl rfl rfl ?_
      refine AH.takeW (i := 6) rfl (Y.field rfl) (by kernel_rfl) rfl rfl ?_
      refine AH.takeS (i := 7) rfl (Y.loadB rfl (by repeat (first | exact List.Mem.head _ | refine List.Mem.tail _ ?_)) (by rfl)) (by kernel_rfl) (by kernel_rfl) rfl rfl rfl ?_
      refine AH.takeW (i := 8) rfl (Y.field rfl) (by kernel_rfl) rfl rfl ?_
      refine AH.two (i := 4) (j := 9) (by kernel_rfl) rfl rfl rfl rfl (fun _ => ?_) (fun _ => ?_)
      · refine AO.buildSlice rfl rfl rfl rfl rfl (fun b97 => ?_)
        refine AT.sub ((Sub.lit (i := 0) (k := 1) (enc := eS) (sz := 1) [(termsR l.length (zips t))[u].1] rfl (.val .nil) (fun _ => rfl) rfl (by omega)).trans Sub.drop) ?_
        refine AT.held (by repeat (first | exact BxIn.nil | refine BxIn.cons (by repeat (first | exact has0 | assumption | apply hasS)) ?_)) (by repeat (first | exact mem0 | refine memS ?_)) ?_
        refine AH.two (i := 5) (j := 9) (by kernel_rfl) rfl rfl rfl rfl (fun _ => ?_) (fun _ => ?_)
        · refine AO.appendF (i := 3) (enc := eS) (lst := (declsR (zips t) ++ (termsR l.length (zips t)).take u).map (·.1)) (lst2 := [(termsR l.length (zips t))[u].1]) rfl rfl rfl rfl (by repeat (first | exact mem0 | assumption | refine memS ?_)) (fun x d hd v hv => eS_one hd hv) (fun _ => rfl) (by simp only [List.length_map, List.length_cons, List.length_nil]; omega) (by simp only [List.length_map, List.length_cons, List.length_nil]; omega) (fun a98 k98 z98 => ?_)
          simp only [List.set_cons_zero, List.set_cons_succ]
          refine AT.held (by repeat (first | exact BxIn.nil | refine BxIn.cons (by repeat (first | exact has0 | assumption | apply hasS)) ?_)) (by repeat (first | exact mem0 | refine memS ?_)) ?_
          refine AH.takeW (i := 12) rfl (Y.field rfl) (by kernel_rfl) rfl rfl ?_
          refine AH.one (i := 9) (by kernel_rfl) rfl rfl (fun _ => ?_)
          refine AO.loadB (cs := [S (termsR l.length (zips t))[u].1, .int .i64 (termsR l.length (zips t))[u].2]) rfl rfl ?_
          refine AT.held (by repeat (first | exact BxIn.nil | refine BxIn.cons (by repeat (first | exact has0 | assumption | apply hasS)) ?_)) (by repeat (first | exact mem0 | refine memS ?_)) ?_
          refine AH.one (i := 10) (by kernel_rfl) rfl rfl (fun _ => ?_)
          refine AO.buildSlice rfl rfl rfl rfl rfl (fun b103 => ?_)
          refine AT.sub ((Sub.lit (i := 0) (k := 1) (enc := eI) (sz := 1) [(termsR l.length (zips t))[u].2] rfl (.val .nil) (fun _ => rfl) rfl (by omega)).trans Sub.drop) ?_
          refine AT.held (by repeat (first | exact BxIn.nil | refine BxIn.cons (by repeat (first | exact has0 | assumption | apply hasS)) ?_)) (by repeat (first | exact mem0 | refine memS ?_)) ?_
          refine AH.one (i := 11) (by kernel_rfl) rfl rfl (fun _ => ?_)
          refine AO.appendF (i := 2) (enc := eI) (lst := (declsR (zips t) ++ (termsR l.length (zips t)).take u).map (·.2)) (lst2 := [(termsR l.length (zips t))[u].2]) rfl rfl rfl rfl (by repeat (first | exact mem0 | assumption | refine memS ?_)) (fun x d hd v hv => eI_one hd hv) (fun _ => rfl) (by simp only [List.length_map, List.length_cons, List.length_nil]; omega) (by simp only [List.length_map, List.length_cons, List.length_nil]; omega) (fun a104 k104 z104 => ?_)
          simp only [List.set_cons_zero, List.set_cons_succ]
          refine AT.held (by repeat (first | exact BxIn.nil | refine BxIn.cons (by repeat (first | exact has0 | assumption | apply hasS)) ?_)) (by repeat (first | exact mem0 | refine memS ?_)) ?_
          refine AH.one (i := 13) (by kernel_rfl) rfl rfl (fun _ => ?_)
          refine AO.storeB rfl rfl rfl ?_
          refine AT.spoilt rfl ?_
          refine AH.takeW (i := 14) rfl (Y.field rfl) (by kernel_rfl) rfl rfl ?_
          refine AH.one (i := 15) (by kernel_rfl) rfl rfl (fun _ => ?_)
          refine AO.storeB rfl rfl rfl ?_
          refine AT.spoilt rfl ?_
          refine AH.done (by kernel_rfl) ?_
          refine AK.blkN (AK.seqN (AC.region (AL.go (AO.add rfl rfl rfl (by omega) (by omega) (AL.go (AO.move rfl rfl (AL.nil ?_)))))))
          rw [fst_snoc, snd_snoc, take_snoc hul]
          exact AK.next (u + 1, (a98, k98, z98), (a104, k104, z104)) (by simp only; omega) (by simp only; omega) (by repeat (first | exact SubR.nil | refine SubR.cons rfl ?_)) (Sub.drop.trans (by repeat (first | exact Sub.refl _ _ | refine Sub.trans Sub.dropF ?_)))
        · refine AO.loadB (cs := [S (termsR l.length (zips t))[u].1, .int .i64 (termsR l.length (zips t))[u].2]) rfl rfl ?_
          refine AT.held (by repeat (first | exact BxIn.nil | refine BxIn.cons (by repeat (first | exact has0 | assumption | apply hasS)) ?_)) (by repeat (first | exact mem0 | refine memS ?_)) ?_
          refine AH.two (i := 5) (j := 10) (by kernel_rfl) rfl rfl rfl rfl (fun _ => ?_) (fun _ => ?_)
          · refine AO.appendF (i := 3) (enc := eS) (lst := (declsR (zips t) ++ (termsR l.length (zips t)).take u).map (·.1)) (lst2 := [(termsR l.length (zips t))[u].1]) rfl rfl rfl rfl (by repeat (first | exact mem0 | assumption | refine memS ?_)) (fun x d hd v hv => eS_one hd hv) (fun _ => rfl) (by simp only [List.length_map, List.length_cons, List.length_nil]; omega) (by simp only [List.length_map, List.length_cons, List.length_nil]; omega) (fun a98 k98 z98 => ?_)
            simp only [List.set_cons_zero, List.set_cons_succ]
            refine AT.held (by repeat (first | exact BxIn.nil | refine BxIn.cons (by repeat (first | exact has0 | assumption | apply hasS)) ?_)) (by repeat (first | exact mem0 | refine memS ?_)) ?_
            refine AH.takeW (i := 12) rfl (Y.field rfl) (by kernel_rfl) rfl rfl ?_
            refine AH.one (i := 10) (by kernel_rfl) rfl rfl (fun _ => ?_)
            refine AO.buildSlice rfl rfl rfl rfl rfl (fun b103 => ?_)
            refine AT.sub ((Sub.lit (i := 0) (k := 1) (enc := eI) (sz := 1) [(termsR l.length (zips t))[u].2] rfl (.val .nil) (fun _ => rfl) rfl (by omega)).trans Sub.drop) ?_
            refine AT.held (by repeat (first | exact BxIn.nil | refine BxIn.cons (by repeat (first | exact has0 | assumption | apply hasS)) ?_)) (by repeat (first | exact mem0 | refine memS ?_)) ?_
            refine AH.one (i := 11) (by kernel_rfl) rfl rfl (fun _ => ?_)
            refine AO.appendF (i := 2) (enc := eI) (lst := (declsR (zips t) ++ (termsR l.length (zips t)).take u).map (·.2)) (lst2 := [(termsR l.length (zips t))[u].2]) rfl rfl rfl rfl (by repeat (first | exact mem0 | assumption | refine memS ?_)) (fun x d hd v hv => eI_one hd hv) (fun _ => rfl) (by simp only [List.length_map, List.length_cons, List.length_nil]; omega) (by simp only [List.length_map, List.length_cons, List.length_nil]; omega) (fun a104 k104 z104 => ?_)
            simp only [List.set_cons_zero, List.set_cons_succ]
            refine AT.held (by repeat (first | exact BxIn.nil | refine BxIn.cons (by repeat (first | exact has0 | assumption | apply hasS)) ?_)) (by repeat (first | exact mem0 | refine memS ?_)) ?_
            refine AH.one (i := 13) (by kernel_rfl) rfl rfl (fun _ => ?_)
            refine AO.storeB rfl rfl rfl ?_
            refine AT.spoilt rfl ?_
            refine AH.takeW (i := 14) rfl (Y.field rfl) (by kernel_rfl) rfl rfl ?_
            refine AH.one (i := 15) (by kernel_rfl) rfl rfl (fun _ => ?_)
            refine AO.storeB rfl rfl rfl ?_
            refine AT.spoilt rfl ?_
            refine AH.done (by kernel_rfl) ?_
            refine AK.blkN (AK.seqN (AC.region (AL.go (AO.add rfl rfl rfl (by omega) (by omega) (AL.go (AO.move rfl rfl (AL.nil ?_)))))))
            rw [fst_snoc, snd_snoc, take_snoc hul]
            exact AK.next (u + 1, (a98, k98, z98), (a104, k104, z104)) (by simp only; omega) (by simp only; omega) (by repeat (first | exact SubR.nil | refine SubR.cons rfl ?_)) (Sub.drop.trans (by repeat (first | exact Sub.refl _ _ | refine Sub.trans Sub.dropF ?_)))
          · refine AO.buildSlice rfl rfl rfl rfl rfl (fun b103 => ?_)
            refine AT.sub ((Sub.lit (i := 0) (k := 1) (enc := eI) (sz := 1) [(termsR l.length (zips t))[u].2] rfl (.val .nil) (fun _ => rfl) rfl (by omega)).trans Sub.drop) ?_
            refine AT.held (by repeat (first | exact BxIn.nil | refine BxIn.cons (by repeat (first | exact has0 | assumption | apply hasS)) ?_)) (by repeat (first | exact mem0 | refine memS ?_)) ?_
            refine AH.one (i := 5) (by kernel_rfl) rfl rfl (fun _ => ?_)
            refine AO.appendF (i := 3) (enc := eS) (lst := (declsR (zips t) ++ (termsR l.length (zips t)).take u).map (·.1)) (lst2 := [(termsR l.length (zips t))[u].1]) rfl rfl rfl rfl (by repeat (first | exact mem0 | assumption | refine memS ?_)) (fun x d hd v hv => eS_one hd hv) (fun _ => rfl) (by simp only [List.length_map, List.length_cons, List.length_nil]; omega) (by simp only [List.length_map, List.length_cons, List.length_nil]; omega) (fun a98 k98 z98 => ?_)
            simp only [List.set_cons_zero, List.set_cons_succ]
            refine AT.held (by repeat (first | exact BxIn.nil | refine BxIn.cons (by repeat (first | exact has0 | assumption | apply hasS)) ?_)) (by repeat (first | exact mem0 | refine memS ?_)) ?_
            refine AH.takeW (i := 12) rfl (Y.field rfl) (by kernel_rfl) rfl rfl ?_
            refine AH.one (i := 11) (by kernel_rfl) rfl rfl (fun _ => ?_)
            refine AO.appendF (i := 2) (enc := eI) (lst := (declsR (zips t) ++ (termsR l.length (zips t)).take u).map (·.2)) (lst2 := [(termsR l.length (zips t))[u].2]) rfl rfl rfl rfl (by repeat (first | exact mem0 | assumption | refine memS ?_)) (fun x d hd v hv => eI_one hd hv) (fun _ => rfl) (by simp only [List.length_map, List.length_cons, List.length_nil]; omega) (by simp only [List.length_map, List.length_cons, List.length_nil]; omega) (fun a104 k104 z104 => ?_)
            simp only [List.set_cons_zero, List.set_cons_succ]
            refine AT.held (by repeat (first | exact BxIn.nil | refine BxIn.cons (by repeat (first | exact has0 | assumption | apply hasS)) ?_)) (by repeat (first | exact mem0 | refine memS ?_)) ?_
            refine AH.one (i := 13) (by kernel_rfl) rfl rfl (fun _ => ?_)
            refine AO.storeB rfl rfl rfl ?_
            refine AT.spoilt rfl ?_
            refine AH.takeW (i := 14) rfl (Y.field rfl) (by kernel_rfl) rfl rfl ?_
            refine AH.one (i := 15) (by kernel_rfl) rfl rfl (fun _ => ?_)
            refine AO.storeB rfl rfl rfl ?_
            refine AT.spoilt rfl ?_
            refine AH.done (by kernel_rfl) ?_
            refine AK.blkN (AK.seqN (AC.region (AL.go (AO.add rfl rfl rfl (by omega) (by omega) (AL.go (AO.move rfl rfl (AL.nil ?_)))))))
            rw [fst_snoc, snd_snoc, take_snoc hul]
            exact AK.next (u + 1, (a98, k98, z98), (a104, k104, z104)) (by simp only; omega) (by simp only; omega) (by repeat (first | exact SubR.nil | refine SubR.cons rfl ?_)) (Sub.drop.trans (by repeat (first | exact Sub.refl _ _ | refine Sub.trans Sub.dropF ?_)))
      · refine AO.loadB (cs := [S (termsR l.length (zips t))[u].1, .int .i64 (termsR l.length (zips t))[u].2]) rfl rfl ?_
        refine AT.held (by repeat (first | exact BxIn.nil | refine BxIn.cons (by repeat (first | exact has0 | assumption | apply hasS)) ?_)) (by repeat (first | exact mem0 | refine memS ?_)) ?_
        refine AH.two (i := 4) (j := 10) (by kernel_rfl) rfl rfl rfl rfl (fun _ => ?_) (fun _ => ?_)
        · refine AO.buildSlice rfl rfl rfl rfl rfl (fun b97 => ?_)
          refine AT.sub ((Sub.lit (i := 0) (k := 1) (enc := eS) (sz := 1) [(termsR l.length (zips t))[u].1] rfl (.val .nil) (fun _ => rfl) rfl (by omega)).trans Sub.drop) ?_
          refine AT.held (by repeat (first | exact BxIn.nil | refine BxIn.cons (by repeat (first | exact has0 | assumption | apply hasS)) ?_)) (by repeat (first | exact mem0 | refine memS ?_)) ?_
          refine AH.two (i := 5) (j := 10) (by kernel_rfl) rfl rfl rfl rfl (fun _ => ?_) (fun _ => ?_)
          · refine AO.appendF (i := 3) (enc := eS) (lst := (declsR (zips t) ++ (termsR l.length (zips t)).take u).map (·.1)) (lst2 := [(termsR l.length (zips t))[u].1]) rfl rfl rfl rfl (by repeat (first | exact mem0 | assumption | refine memS ?_)) (fun x d hd v hv => eS_one hd hv) (fun _ => rfl) (by simp only [List.length_map, List.length_cons, List.length_nil]; omega) (by simp only [List.length_map, List.length_cons, List.length_nil]; omega) (fun a98 k98 z98 => ?_)
            simp only [List.set_cons_zero, List.set_cons_succ]
            refine AT.held (by repeat (first | exact BxIn.nil | refine BxIn.cons (by repeat (first | exact has0 | assumption | apply hasS)) ?_)) (by repeat (first | exact mem0 | refine memS ?_)) ?_
            refine AH.takeW (i := 12) rfl (Y.field rfl) (by kernel_rfl) rfl rfl ?_
            refine AH.one (i := 10) (by kernel_rfl) rfl rfl (fun _ => ?_)
            refine AO.buildSlice rfl rfl rfl rfl rfl (fun b103 => ?_)
            refine AT.sub ((Sub.lit (i := 0) (k := 1) (enc := eI) (sz := 1) [(termsR l.length (zips t))[u].2] rfl (.val .nil) (fun _ => rfl) rfl (by omega)).trans Sub.drop) ?_
            refine AT.held (by repeat (first | exact BxIn.nil | refine BxIn.cons (by repeat (first | exact has0 | assumption | apply hasS)) ?_)) (by repeat (first | exact mem0 | refine memS ?_)) ?_
            refine AH.one (i := 11) (by kernel_rfl) rfl rfl (fun _ => ?_)
            refine AO.appendF (i := 2) (enc := eI) (lst := (declsR (zips t) ++ (termsR l.length (zips t)).take u).map (·.2)) (lst2 := [(termsR l.length (zips t))[u].2]) rfl rfl rfl rfl (by repeat (first | exact mem0 | assumption | refine memS ?_)) (fun x d hd v hv => eI_one hd hv) (fun _ => rfl) (by simp only [List.length_map, List.length_cons, List.length_nil]; omega) (by simp only [List.length_map, List.length_cons, List.length_nil]; omega) (fun a104 k104 z104 => ?_)
            simp only [List.set_cons_zero, List.set_cons_succ]
            refine AT.held (by repeat (first | exact BxIn.nil | refine BxIn.cons (by repeat (first | exact has0 | assumption | apply hasS)) ?_)) (by repeat (first | exact mem0 | refine memS ?_)) ?_
            refine AH.one (i := 13) (by kernel_rfl) rfl rfl (fun _ => ?_)
            refine AO.storeB rfl rfl rfl ?_
            refine AT.spoilt rfl ?_
            refine AH.takeW (i := 14) rfl (Y.field rfl) (by kernel_rfl) rfl rfl ?_
            refine AH.one (i := 15) (by kernel_rfl) rfl rfl (fun _ => ?_)
            refine AO.storeB rfl rfl rfl ?_
            refine AT.spoilt rfl ?_
            refine AH.done (by kernel_rfl) ?_
            refine AK.blkN (AK.seqN (AC.region (AL.go (AO.add rfl rfl rfl (by omega) (by omega) (AL.go (AO.move rfl rfl (AL.nil ?_)))))))
            rw [fst_snoc, snd_snoc, take_snoc hul]
            exact AK.next (u + 1, (a98, k98, z98), (a104, k104, z104)) (by simp only; omega) (by simp only; omega) (by repeat (first | exact SubR.nil | refine SubR.cons rfl ?_)) (Sub.drop.trans (by repeat (first | exact Sub.refl _ _ | refine Sub.trans Sub.dropF ?_)))
          · refine AO.buildSlice rfl rfl rfl rfl rfl (fun b103 => ?_)
            refine AT.sub ((Sub.lit (i := 0) (k := 1) (enc := eI) (sz := 1) [(termsR l.length (zips t))[u].2] rfl (.val .nil) (fun _ => rfl) rfl (by omega)).trans Sub.drop) ?_
            refine AT.held (by repeat (first | exact BxIn.nil | refine BxIn.cons (by repeat (first | exact has0 | assumption | apply hasS)) ?_)) (by repeat (first | exact mem0 | refine memS ?_)) ?_
            refine AH.one (i := 5) (by kernel_rfl) rfl rfl (fun _ => ?_)
            refine AO.appendF (i := 3) (enc := eS) (lst := (declsR (zips t) ++ (termsR l.length (zips t)).take u).map (·.1)) (lst2 := [(termsR l.length (zips t))[u].1]) rfl rfl rfl rfl (by repeat (first | exact mem0 | assumption | refine memS ?_)) (fun x d hd v hv => eS_one hd hv) (fun _ => rfl) (by simp only [List.length_map, List.length_cons, List.length_nil]; omega) (by simp only [List.length_map, List.length_cons, List.length_nil]; omega) (fun a98 k98 z98 => ?_)
            simp only [List.set_cons_zero, List.set_cons_succ]
            refine AT.held (by repeat (first | exact BxIn.nil | refine BxIn.cons (by repeat (first | exact has0 | assumption | apply hasS)) ?_)) (by repeat (first | exact mem0 | refine memS ?_)) ?_
            refine AH.takeW (i := 12) rfl (Y.field rfl) (by kernel_rfl) rfl rfl ?_
            refine AH.one (i := 11) (by kernel_rfl) rfl rfl (fun _ => ?_)
            refine AO.appendF (i := 2) (enc := eI) (lst := (declsR (zips t) ++ (termsR l.length (zips t)).take u).map (·.2)) (lst2 := [(termsR l.length (zips t))[u].2]) rfl rfl rfl rfl (by repeat (first | exact mem0 | assumption | refine memS ?_)) (fun x d hd v hv => eI_one hd hv) (fun _ => rfl) (by simp only [List.length_map, List.length_cons, List.length_nil]; omega) (by simp only [List.length_map, List.length_cons, List.length_nil]; omega) (fun a104 k104 z104 => ?_)
            simp only [List.set_cons_zero, List.set_cons_succ]
            refine AT.held (by repeat (first | exact BxIn.nil | refine BxIn.cons (by repeat (first | exact has0 | assumption | apply hasS)) ?_)) (by repeat (first | exact mem0 | refine memS ?_)) ?_
            refine AH.one (i := 13) (by kernel_rfl) rfl rfl (fun _ => ?_)
            refine AO.storeB rfl rfl rfl ?_
            refine AT.spoilt rfl ?_
            refine AH.takeW (i := 14) rfl (Y.field rfl) (by kernel_rfl) rfl rfl ?_
            refine AH.one (i := 15) (by kernel_rfl) rfl rfl (fun _ => ?_)
            refine AO.storeB rfl rfl rfl ?_
            refine AT.spoilt rfl ?_
            refine AH.done (by kernel_rfl) ?_
            refine AK.blkN (AK.seqN (AC.region (AL.go (AO.add rfl rfl rfl (by omega) (by omega) (AL.go (AO.move rfl rfl (AL.nil ?_)))))))
            rw [fst_snoc, snd_snoc, take_snoc hul]
            exact AK.next (u + 1, (a98, k98, z98), (a104, k104, z104)) (by simp only; omega) (by simp only; omega) (by repeat (first | exact SubR.nil | refine SubR.cons rfl ?_)) (Sub.drop.trans (by repeat (first | exact Sub.refl _ _ | refine Sub.trans Sub.dropF ?_)))
        · refine AO.buildSlice rfl rfl rfl rfl rfl (fun b103 => ?_)
          refine AT.sub ((Sub.lit (i := 0) (k := 1) (enc := eI) (sz := 1) [(termsR l.length (zips t))[u].2] rfl (.val .nil) (fun _ => rfl) rfl (by omega)).trans Sub.drop) ?_
          refine AT.held (by repeat (first | exact BxIn.nil | refine BxIn.cons (by repeat (first | exact has0 | assumption | apply hasS)) ?_)) (by repeat (first | exact mem0 | refine memS ?_)) ?_
          refine AH.one (i := 4) (by kernel_rfl) rfl rfl (fun _ => ?_)
          refine AO.buildSlice rfl rfl rfl rfl rfl (fun b97 => ?_)
          refine AT.sub ((Sub.lit (i := 0) (k := 1) (enc := eS) (sz := 1) [(termsR l.length (zips t))[u].1] rfl (.val .nil) (fun _ => rfl) rfl (by omega)).trans Sub.drop) ?_
          refine AT.held (by repeat (first | exact BxIn.nil | refine BxIn.cons (by repeat (first | exact has0 | assumption | apply hasS)) ?_)) (by repeat (first | exact mem0 | refine memS ?_)) ?_
          refine AH.one (i := 5) (by kernel_rfl) rfl rfl (fun _ => ?_)
          refine AO.appendF (i := 3) (enc := eS) (lst := (declsR (zips t) ++ (termsR l.length (zips t)).take u).map (·.1)) (lst2 := [(termsR l.length (zips t))[u].1]) rfl rfl rfl rfl (by repeat (first | exact mem0 | assumption | refine memS ?_)) (fun x d hd v hv => eS_one hd hv) (fun _ => rfl) (by simp only [List.length_map, List.length_cons, List.length_nil]; omega) (by simp only [List.length_map, List.length_cons, List.length_nil]; omega) (fun a98 k98 z98 => ?_)
          simp only [List.set_cons_zero, List.set_cons_succ]
          refine AT.held (by repeat (first | exact BxIn.nil | refine BxIn.cons (by repeat (first | exact has0 | assumption | apply hasS)) ?_)) (by repeat (first | exact mem0 | refine memS ?_)) ?_
          refine AH.takeW (i := 12) rfl (Y.field rfl) (by kernel_rfl) rfl rfl ?_
          refine AH.one (i := 11) (by kernel_rfl) rfl rfl (fun _ => ?_)
          refine AO.appendF (i := 2) (enc := eI) (lst := (declsR (zips t) ++ (termsR l.length (zips t)).take u).map (·.2)) (lst2 := [(termsR l.length (zips t))[u].2]) rfl rfl rfl rfl (by repeat (first | exact mem0 | assumption | refine memS ?_)) (fun x d hd v hv => eI_one hd hv) (fun _ => rfl) (by simp only [List.length_map, List.length_cons, List.length_nil]; omega) (by simp only [List.length_map, List.length_cons, List.length_nil]; omega) (fun a104 k104 z104 => ?_)
          simp only [List.set_cons_zero, List.set_cons_succ]
          refine AT.held (by repeat (first | exact BxIn.nil | refine BxIn.cons (by repeat (first | exact has0 | assumption | apply hasS)) ?_)) (by repeat (first | exact mem0 | refine memS ?_)) ?_
          refine AH.one (i := 13) (by kernel_rfl) rfl rfl (fun _ => ?_)
          refine AO.storeB rfl rfl rfl ?_
          refine AT.spoilt rfl ?_
          refine AH.takeW (i := 14) rfl (Y.field rfl) (by kernel_rfl) rfl rfl ?_
          refine AH.one (i := 15) (by kernel_rfl) rfl rfl (fun _ => ?_)
          refine AO.storeB rfl rfl rfl ?_
          refine AT.spoilt rfl ?_
          refine AH.done (by kernel_rfl) ?_
          refine AK.blkN (AK.seqN (AC.region (AL.go (AO.add rfl rfl rfl (by omega) (by omega) (AL.go (AO.move rfl rfl (AL.nil ?_)))))))
          rw [fst_snoc, snd_snoc, take_snoc hul]
          exact AK.next (u + 1, (a98, k98, z98), (a104, k104, z104)) (by simp only; omega) (by simp only; omega) (by repeat (first | exact SubR.nil | refine SubR.cons rfl ?_)) (Sub.drop.trans (by repeat (first | exact Sub.refl _ _ | refine Sub.trans Sub.dropF ?_)))
    · refine AL.nil (AK.seqN (AC.seq (AC.condF rfl (AC.exit (AK.seqX ?_)))))
      refine AK.seqX (AK.blkX (AK.seqN (AC.seq (AC.region ?_))))
      have hu9 : (termsR l.length (zips t)).take u = termsR l.length (zips t) := List.take_of_length_le (by omega)
      rw [hu9, hname]
      refine AT.sub ((Sub.commit (i := 1) rfl).trans (Sub.commit (i := 2) rfl)) ?_
      simp only [List.set_cons_zero, List.set_cons_succ]
      refine AL.go (AO.loadBA rfl rfl ?_)
      refine AL.go (AO.storeBA rfl rfl rfl rfl ?_)
      refine AL.go (AO.assign rfl rfl (AL.nil (AK.seqN (AC.ret ?_))))
      exact AK.retV (rs := [.cell 4 _, .tmp 5]) (L' := L) (F' := fW (termsT l.length t) _ _ _ :: fK (termsT l.length t) _ _ _ :: F) Tryd.results39 (.agg (j := 4) rfl rfl rfl (.tmp rfl .nil)) (Sub.drop.trans (Sub.drop.trans (Sub.drop.trans (Sub.drop.trans (Sub.drop.trans (Sub.drop.trans (Sub.facts (mem2 (by repeat (first | exact mem0 | assumption | refine memS ?_)) (by repeat (first | exact mem0 | assumption | refine memS ?_)) (fun x hx => by repeat (first | exact hx | refine List.mem_cons_of_mem _ ?_)))))))))) (hF (odd_not hno) _ _ _ _ _ _)
end
end Go.Sy
