/- A type with others instead of its params, by the program: the function itself. -/
import Derived.Test.YthbngbiodamndaaDoorSubG
namespace Go.Sy
open Go Go.Proofs Go.RowKit

attribute [local irreducible] AC AT AO AK AH ACalls Sub Res.cells Res.obj Res.nix Res.own Res.map Exit.then Exit.inBlock bodyPost Code.wp Next Post Kont
section
variable {W0 : World} {L : List Res} {F : List Fact} {R : Value → List Res → List Fact → Prop}
set_option maxRecDepth 100000
set_option maxHeartbeats 16000000
theorem substIn_c (g : Glob W0) (l : List Ty) (hok : ∀ t ∈ l, TyOk t) (hr : rightP l) (n : Nat) (hn : n < l.length) (args : List Int) (hargs : args.length ≤ 1000) {a a2 : Option Addr} {k c k2 c2 : Nat} (mL : fL l a k c ∈ F) (mA : fI args a2 k2 c2 ∈ F) (mN : Fact.slc (.slice none 0 0) 5 [] ∈ F)
    (h3 : ∀ e, subR l n args = .error e → R (.tuple #[.slice none 0 0, .int .i64 0, .int .i64 e]) L (fL [] none 0 0 :: F))
    (h4 : ∀ o q a k c, subR l n args = .ok (o, q) → R (.tuple #[.slice a k c, .int .i64 q, .int .i64 0]) L (fL o a k c :: F)) :
    ACalls Tryd.prog W0 23 #[.slice a k c, .int .i64 (n : Int), .slice a2 k2 c2] L F R := by
  have h400 := hr.2.1
  have hAl := asks_len l (n + 1) (by omega)
  have hAget := getD_eq (l := asksL (l.take (n + 1))) (0 : Int) (q := n) (by omega)
  have hMl : (partsL l n).length = n + 1 := partsN_len l n (n + 1)
  refine ACalls.body Tryd.func23 rfl Tryd.ntmps23 rfl ?_
  refine AC.seq (AC.region (AL.go (AO.box rfl rfl (fun b3 => ?_))))
  refine AL.go (AO.assign rfl rfl (AL.go (AO.assign rfl rfl (AL.go (AO.assign rfl rfl (AL.nil (AK.seqN (AC.seq ?_))))))))
  refine AC.seq (AC.region ?_)
  refine AL.go (AO.loadB rfl rfl ?_)
  refine AL.go (AO.move rfl rfl ?_)
  refine AL.go (AO.call rfl rfl (there_c g l hok (n : Int) (by repeat (first | exact mem0 | assumption | refine memS ?_)) (fun c => absurd hr c) (fun _ c => absurd (by omega) c) (fun _ _ => ?_)))
  refine AL.go (AO.assign rfl rfl (AL.nil (AK.seqN (AC.seq (AC.region (AL.go (AO.move rfl rfl ?_)))))))
  refine AL.go (AO.neq rfl rfl rfl (fun c28 => absurd rfl c28) (fun _ => ?_))
  refine AL.nil (AK.seqN (AC.condF rfl (AC.skip (AK.seqN (AC.seq ?_)))))
  refine AC.region ?_
  refine AL.go (AO.loadB rfl rfl ?_)
  refine AL.go (AO.move rfl rfl ?_)
  refine AL.go (AO.call rfl rfl (asks_c l hr n hn (by repeat (first | exact mem0 | assumption | refine memS ?_)) (fun a32 k32 z32 => ?_)))
  refine AL.go (AO.assign rfl rfl (AL.nil (AK.seqN (AC.seq (AC.region ?_)))))
  refine AL.go (AO.makeFunc rfl rfl ?_)
  refine AL.go (AO.assign rfl rfl (AL.nil (AK.seqN (AC.seq (AC.seq (AC.region ?_))))))
  refine AL.go (AO.move rfl rfl (AL.go (AO.move rfl rfl ?_)))
  refine AL.go (AO.call rfl rfl (containsFuncI_c args (show fI args a2 k2 c2 ∈ _ from (by repeat (first | exact mem0 | assumption | refine memS ?_))) _ [.pointer (some ⟨b3, 0, none⟩)] (fun s => s < 0 ∨ s ≥ l.length) (fun s F' hF' R hT hF => sub1_c l s (i := 0) (hF' _ (by repeat (first | exact mem0 | assumption | refine memS ?_))) rfl hT hF) (fun c36 => ?_) (fun c36 => ?_)))
  · refine AL.go (AO.move rfl rfl (AL.no rfl rfl rfl rfl (AL.no rfl rfl rfl rfl (AL.no rfl rfl rfl rfl (AL.no rfl rfl rfl rfl (AL.no rfl rfl rfl rfl ?_))))))
    refine AL.no rfl rfl rfl rfl (AL.no rfl rfl rfl rfl (AL.go (AO.pickT rfl rfl rfl (AL.nil (AK.seqN (AC.condT rfl ?_))))))
    refine AC.seq (AC.region (AL.go (AO.assign rfl rfl (AL.go (AO.assign rfl rfl (AL.go (AO.assign rfl rfl (AL.nil ?_))))))))
    refine AK.seqN (AC.ret (AK.seqR ?_))
    exact AK.ret3 (L' := L) (F' := fL [] none 0 0 :: F) Tryd.results23 rfl rfl rfl (Sub.drop.trans (Sub.facts (mem1 (by repeat (first | exact mem0 | assumption | refine memS ?_)) (fun x hx => by repeat (first | exact hx | refine List.mem_cons_of_mem _ ?_))))) (h3 1 (subR_bad (.inr (bad_of c36))))
  · refine AL.go (AO.move rfl rfl (AL.yes rfl rfl (AO.move rfl rfl ?_)))
    refine AL.yes rfl rfl (AO.len rfl rfl (fun hl39 => ?_) (enc := eI) (lst := args) (hm := (show fI args a2 k2 c2 ∈ _ from (by repeat (first | exact mem0 | assumption | refine memS ?_)))))
    refine AL.yes rfl rfl (AO.move rfl rfl (AL.yes rfl rfl (AO.move rfl rfl ?_)))
    refine AL.yes rfl rfl (AO.indexAddr (k := n) rfl rfl rfl rfl (enc := eI) (lst := asksL (l.take (n + 1))) (by repeat (first | exact mem0 | assumption | refine memS ?_)) (by omega) (fun _ _ => ?_))
    rw [← hAget]
    refine AL.yes rfl rfl (AO.loadF rfl rfl ?_)
    intros
    refine AL.yes rfl rfl (AO.lss rfl rfl rfl (fun c44 => ?_) (fun c44 => ?_))
    · refine AL.go (AO.pickF rfl rfl rfl (AL.nil (AK.seqN (AC.condT rfl (AC.seq (AC.region ?_))))))
      refine AL.go (AO.assign rfl rfl (AL.go (AO.assign rfl rfl (AL.go (AO.assign rfl rfl (AL.nil (AK.seqN (AC.ret ?_))))))))
      refine AK.seqR ?_
      exact AK.ret3 (L' := L) (F' := fL [] none 0 0 :: F) Tryd.results23 rfl rfl rfl (Sub.drop.trans (Sub.facts (mem1 (by repeat (first | exact mem0 | assumption | refine memS ?_)) (fun x hx => by repeat (first | exact hx | refine List.mem_cons_of_mem _ ?_))))) (h3 1 (subR_bad (.inl c44)))
    · refine AL.go (AO.pickF rfl rfl rfl (AL.nil (AK.seqN (AC.condF rfl (AC.skip (AK.seqN ?_))))))
      refine AC.seq (AC.region ?_)
      refine AL.go (AO.makeMap vI vI rfl (fun b46 => ?_))
      refine AL.go (AO.assign rfl rfl (AL.nil (AK.seqN (AC.seq (AC.region ?_)))))
      refine AL.go (AO.loadB rfl rfl ?_)
      refine AL.go (AO.assign rfl rfl (AL.nil (AK.seqN (AC.seq (AC.seq (AC.region ?_))))))
      refine AL.go (AO.loadB rfl rfl ?_)
      refine AL.go (AO.move rfl rfl ?_)
      have hgood := good_of c36
      have hnb : ¬ badArgs l n args := not_bad hgood (by omega)
      refine AL.go (AO.call rfl rfl (parts_c l hr n hn (by repeat (first | exact mem0 | assumption | refine memS ?_)) (fun a50 k50 z50 => ?_)))
      refine AL.go (AO.len rfl rfl (fun hl51 => ?_) (enc := eBl) (lst := partsL l n) (hm := (by repeat (first | exact mem0 | assumption | refine memS ?_))))
      refine AL.go (AO.move rfl rfl (AL.nil (AK.seqN (AC.block ?_))))
      refine AC.loop (fun (x : Nat × (List Ty × List Int × (Int → Option Int)) × (Option Addr × Nat × Nat)) => x.1 ≤ n + 1 ∧ subN l args (asksL (l.take (n + 1))) (partsL l n) x.1 = .ok (x.2.1.1, x.2.1.2.1) ∧ SubOk l x.1 x.2.1.1 x.2.1.2.1 ∧ MapS (partsL l n) x.2.1.2.1 x.1 x.2.1.2.2) (fun x => [(1, .int .i64 (n : Int)), (2, .slice a2 k2 c2), (3, .pointer (some ⟨b3, 0, none⟩)), (10, .slice a32 k32 z32), (12, .map (some b46)), (13, .slice x.2.2.1 x.2.2.2.1 x.2.2.2.2), (50, .slice a50 k50 z50), (51, .int .i64 (partsL l n).length), (52, .int .i64 (x.1 : Int))]) (fun x => Res.map b46 vI vI x.2.1.2.2 :: Res.cells b3 #[.slice a k c] 22 :: L) (fun x => fL x.2.1.1 x.2.2.1 x.2.2.2.1 x.2.2.2.2 :: _) (fun x => n + 1 - x.1) (0, (l, [], fun _ => none), (a, k, c)) ⟨Nat.zero_le _, rfl, ⟨hr, List.prefix_rfl, rfl, fun p hp => absurd hp (by simp)⟩, fun p hp => absurd hp (by simp)⟩ (by repeat (first | exact SubR.nil | refine SubR.cons rfl ?_)) (Sub.facts (mem1 (by repeat (first | exact mem0 | assumption | refine memS ?_)) (fun x hx => hx))) ?_
      rintro ⟨q, ⟨out, ins, m⟩, ⟨a13, k13, c13⟩⟩ ⟨hq, hs, hso, hm⟩
      simp only at hq hs hso hm ⊢
      refine AC.seq (AC.region ?_)
      refine AL.go (AO.lss rfl rfl rfl (fun c53 => ?_) (fun c53 => ?_))
      · refine AL.nil (AK.seqN (AC.seq (AC.condT rfl (AC.skip (AK.seqN ?_)))))
        refine AC.seq (AC.block (AC.seq (AC.region (AL.go (AO.move rfl rfl ?_)))))
        have hqn : q < n + 1 := by omega
        have hql : q < l.length := by omega
        have hqA : q < (asksL (l.take (n + 1))).length := by omega
        have hqM : q < (partsL l n).length := by omega
        have hMq := getD_eq false hqM
        have hAq := getD_eq (0 : Int) hqA
        have hrt := rt_of_right hr hql
        have hout := hso.right.2.1
        have hol := hso.pre.length_le
        refine AL.go (AO.indexAddr rfl rfl rfl rfl (enc := eBl) (lst := partsL l n) (by repeat (first | exact mem0 | assumption | refine memS ?_)) hqM (fun _ _ => ?_))
        rw [← hMq]
        refine AL.go (AO.loadF rfl rfl ?_)
        intros
        refine AL.go (AO.assign rfl rfl (AL.go (AO.assign rfl rfl (AL.nil (AK.seqN (AC.seq (AC.region ?_)))))))
        refine AL.go (AO.loadB rfl rfl ?_)
        refine AL.go (AO.move rfl rfl ?_)
        refine AL.go (AO.indexAddr rfl rfl rfl rfl (show fL l a k c ∈ _ from (by repeat (first | exact mem0 | assumption | refine memS ?_))) hql (fun _ _ => ?_))
        refine AL.go (AO.loadFA rfl rfl ?_)
        intro a60 k60 z60 d60 e60 f60
        refine AL.go (AO.alloc rfl (fun b16 => ?_))
        refine AL.go (AO.storeBA rfl rfl rfl rfl ?_)
        refine AL.nil (AK.seqN (AC.seq (AC.block (AC.seq (AC.region ?_)))))
        refine AL.go (AO.move rfl rfl (AL.go (AO.not rfl rfl (AL.go (AO.assign rfl rfl (AL.nil (AK.seqN ?_)))))))
        refine AC.cond rfl (fun c61 => ?_) (fun c61 => ?_)
        · refine AC.exit (AK.blkY rfl (AK.seqX (AK.blkX (AK.seqN (AC.region ?_)))))
          refine AL.go (AO.add rfl rfl rfl (by omega) (by omega) (AL.go (AO.move rfl rfl (AL.nil ?_))))
          have hM0 : (partsL l n).getD q false = false := by simpa using c61
          exact AK.next (q + 1, (out, ins ++ [(q : Int)], m), (a13, k13, c13)) ⟨by simp only; omega, sub_out hs (.inl hM0), hso.step hso.right List.prefix_rfl (by simp only; omega), hm.skip hso.len _ hM0⟩ (by simp only; omega) (by repeat (first | exact SubR.nil | refine SubR.cons rfl ?_)) (Sub.drop.trans (Sub.facts (mem1 (by repeat (first | exact mem0 | assumption | refine memS ?_)) (fun x hx => by repeat (first | exact hx | refine List.mem_cons_of_mem _ ?_)))))
        · refine AC.seq (AC.region (AL.go (AO.field rfl rfl ?_)))
          refine AL.go (AO.loadB rfl rfl ?_)
          refine AL.go (AO.eql rfl rfl rfl (fun c67 => ?_) (fun c67 => ?_))
          · refine AL.go (AO.assign rfl rfl (AL.nil (AK.seqN (AC.condT rfl (AC.seq (AC.region ?_))))))
            refine AL.go (AO.move rfl rfl (AL.go (AO.move rfl rfl (AL.go (AO.move rfl rfl (AL.go (AO.field rfl rfl ?_)))))))
            refine AL.go (AO.loadB rfl rfl ?_)
            have hM1 : (partsL l n).getD q false = true := by simpa using c61
            have hp9 := hrt.param c67
            have hask := parts_ask hr hn (n + 1) (Nat.le_refl _) hM1
            have hA9 : (asksL (l.take (n + 1))).getD q 0 = l[q].n + 1 := by
             rw [asks_at hn (by omega)]; unfold ask1 ask0; rw [if_pos c67, hp9.2.2]; rfl
            have hna : l[q].n.toNat < args.length := by omega
            have hga := getD_eq (0 : Int) hna
            have hgr := hgood _ (List.getElem_mem hna)
            refine AL.go (AO.indexAddr (k := l[q].n.toNat) rfl rfl rfl (by omega) (show fI args a2 k2 c2 ∈ _ from (by repeat (first | exact mem0 | assumption | refine memS ?_))) hna (fun _ _ => ?_))
            rw [← hga]
            refine AL.go (AO.loadF rfl rfl ?_)
            intros
            refine AL.go (AO.mapUpdate (kenc := vI) (venc := vI) (m := m) (i := 1) (q : Int) (args.getD l[q].n.toNat 0) rfl rfl rfl rfl ?_)
            simp only [List.set_cons_zero, List.set_cons_succ]
            refine AL.nil (AK.seqN (AC.exit (AK.blkY rfl (AK.seqX (AK.blkX ?_)))))
            refine AK.seqN (AC.region (AL.go (AO.add rfl rfl rfl (by omega) (by omega) (AL.go (AO.move rfl rfl (AL.nil ?_))))))
            exact AK.next (q + 1, (out, ins ++ [args.getD l[q].n.toNat 0], upd m (q : Int) (args.getD l[q].n.toNat 0)), (a13, k13, c13)) ⟨by simp only; omega, sub_param hs hM1 (by omega) hql c67, hso.step hso.right List.prefix_rfl (by simp only; rw [hga]; omega), hm.upd hso.len _⟩ (by simp only; omega) (by repeat (first | exact SubR.nil | refine SubR.cons rfl ?_)) (Sub.drop.trans (Sub.facts (mem1 (by repeat (first | exact mem0 | assumption | refine memS ?_)) (fun x hx => by repeat (first | exact hx | refine List.mem_cons_of_mem _ ?_)))))
          · refine AL.go (AO.assign rfl rfl (AL.nil (AK.seqN (AC.condF rfl (AC.seq (AC.region ?_))))))
            refine AL.go (AO.move rfl rfl (AL.go (AO.move rfl rfl ?_)))
            have hM1 : (partsL l n).getD q false = true := by simpa using c61
            refine AL.go (AO.indexAddr rfl rfl rfl rfl (enc := eI) (lst := asksL (l.take (n + 1))) (by repeat (first | exact mem0 | assumption | refine memS ?_)) hqA (fun _ _ => ?_))
            rw [← hAq]
            refine AL.go (AO.loadF rfl rfl ?_)
            intros
            refine AL.go (AO.eql rfl rfl rfl (fun c80 => ?_) (fun c80 => ?_))
            · refine AL.go (AO.assign rfl rfl (AL.nil (AK.seqN (AC.condT rfl (AC.seq (AC.region ?_))))))
              refine AL.go (AO.move rfl rfl (AL.go (AO.move rfl rfl (AL.go (AO.move rfl rfl ?_)))))
              refine AL.go (AO.mapUpdate (kenc := vI) (venc := vI) (m := m) (i := 1) (q : Int) (q : Int) rfl rfl rfl rfl ?_)
              simp only [List.set_cons_zero, List.set_cons_succ]
              refine AL.nil (AK.seqN (AC.exit (AK.blkY rfl (AK.seqX (AK.blkX ?_)))))
              refine AK.seqN (AC.region (AL.go (AO.add rfl rfl rfl (by omega) (by omega) (AL.go (AO.move rfl rfl (AL.nil ?_))))))
              exact AK.next (q + 1, (out, ins ++ [(q : Int)], upd m (q : Int) (q : Int)), (a13, k13, c13)) ⟨by simp only; omega, sub_out hs (.inr c80), hso.step hso.right List.prefix_rfl (by simp only; omega), hm.upd hso.len _⟩ (by simp only; omega) (by repeat (first | exact SubR.nil | refine SubR.cons rfl ?_)) (Sub.drop.trans (Sub.facts (mem1 (by repeat (first | exact mem0 | assumption | refine memS ?_)) (fun x hx => by repeat (first | exact hx | refine List.mem_cons_of_mem _ ?_)))))
            · refine AL.go (AO.assign rfl rfl (AL.nil (AK.seqN (AC.condF rfl (AC.skip (AK.blkN ?_))))))
              refine AK.seqN (AC.seq (AC.region (AL.go (AO.field rfl rfl ?_))))
              refine AL.go (AO.loadB rfl rfl ?_)
              refine AL.go (AO.call rfl rfl (clone_c l[q].kids (by have := hrt.few; omega) (show fK l[q] _ _ _ ∈ _ from (by repeat (first | exact mem0 | assumption | refine memS ?_))) (fun a86 k86 z86 => ?_)))
              rw [← kidsS_zero ins l[q].kids]
              refine AL.go (AO.field rfl rfl ?_)
              refine AL.go (AO.storeB rfl rfl rfl ?_)
              refine AL.nil (AK.seqN (AC.seq (AC.seq (AC.region (AL.go (AO.field rfl rfl ?_))))))
              refine AL.go (AO.loadB rfl rfl ?_)
              refine AL.go (AO.lenO (i := 0) rfl rfl rfl (fun hk90 => ?_))
              rw [List.length_map, kidsS_len]
              refine AL.go (AO.move rfl rfl (AL.nil (AK.seqN (AC.block ?_))))
              refine AC.loop (fun (v : Nat) => v ≤ l[q].kids.length) (fun v => [(1, .int .i64 (n : Int)), (2, .slice a2 k2 c2), (3, .pointer (some ⟨b3, 0, none⟩)), (10, .slice a32 k32 z32), (12, .map (some b46)), (13, .slice a13 k13 c13), (50, .slice a50 k50 z50), (51, .int .i64 (partsL l n).length), (52, .int .i64 (q : Int)), (14, .int .i64 (q : Int)), (16, .pointer (some ⟨b16, 0, none⟩)), (89, .slice a86 k86 z86), (90, .int .i64 l[q].kids.length), (91, .int .i64 (v : Int))]) (fun v => Res.own (.slice a86 k86 z86) 3 1 ((kidsS ins l[q].kids v).map eI) :: _) (fun _ => _) (fun v => l[q].kids.length - v) 0 (Nat.zero_le _) (by repeat (first | exact SubR.nil | refine SubR.cons rfl ?_)) (Sub.refl _ _) ?_
              rintro v hv
              refine AC.seq (AC.region ?_)
              refine AL.go (AO.lss rfl rfl rfl (fun c92 => ?_) (fun c92 => ?_))
              · refine AL.nil (AK.seqN (AC.seq (AC.condT rfl (AC.skip (AK.seqN ?_)))))
                refine AC.seq (AC.block (AC.seq (AC.region (AL.go (AO.move rfl rfl ?_)))))
                have hkf := hrt.few
                have hvl : v < l[q].kids.length := by omega
                have hb := hrt.kids _ (List.getElem_mem hvl)
                have hMk := parts_kid hr hn (by omega) hM1 (List.getElem_mem hvl)
                have hmk := hm l[q].kids[v].toNat (by omega) hMk
                rw [show ((l[q].kids[v].toNat : Nat) : Int) = l[q].kids[v] by omega] at hmk
                have hkl := kidsS_len ins l[q].kids v
                refine AL.go (AO.indexAddrO (i := 0) (q := v) rfl rfl rfl rfl rfl (by rw [List.length_map]; omega) (fun bo ho => ?_))
                subst ho
                refine AL.go (AO.loadO (i := 0) (q := v) rfl rfl rfl rfl (eIs_get (kidsS_get hvl)) ?_)
                refine AL.go (AO.assign rfl rfl (AL.go (AO.assign rfl rfl (AL.nil (AK.seqN (AC.region (AL.go (AO.field rfl rfl ?_))))))))
                refine AL.go (AO.loadB rfl rfl ?_)
                refine AL.go (AO.move rfl rfl (AL.go (AO.move rfl rfl (AL.go (AO.move rfl rfl ?_)))))
                refine AL.go (AO.lookup (kenc := vI) (venc := vI) (m := m) (i := 2) l[q].kids[v] rfl rfl rfl rfl ?_)
                rw [hmk]
                refine AL.go (AO.indexAddrO (i := 0) (q := v) rfl rfl rfl rfl rfl (by rw [List.length_map]; omega) (fun bo2 ho2 => ?_))
                cases ho2
                refine AL.go (AO.storeO (i := 0) (q := v) (v := .int .i64 (ins.getD l[q].kids[v].toNat 0)) rfl rfl rfl rfl rfl (by rw [List.length_map]; omega) ?_)
                rw [eIs_set, kidsS_set hvl]
                refine AL.nil (AK.blkN (AK.seqN (AC.region (AL.go (AO.add rfl rfl rfl (by omega) (by omega) (AL.go (AO.move rfl rfl ?_)))))))
                refine AL.nil ?_
                refine AK.next (v + 1) (by omega) (by omega) (by repeat (first | exact SubR.nil | refine SubR.cons rfl ?_)) (by repeat (first | exact Sub.refl _ _ | refine Sub.trans Sub.dropF ?_))
              · refine AL.nil (AK.seqN (AC.seq (AC.condF rfl (AC.exit (AK.seqX ?_)))))
                refine AK.seqX (AK.blkX (AK.seqN (AC.seq (AC.seq (AC.region ?_)))))
                refine AL.go (AO.field rfl rfl ?_)
                refine AL.go (AO.loadB rfl rfl ?_)
                have hkd : ∀ k ∈ (mapK ins l[q]).kids, 0 ≤ k ∧ k < out.length := mapK_kids hso.ins hrt.kids
                have htok : TyOk (mapK ins l[q]) := mapK_ok hout (right_ok hr _ (List.getElem_mem hql)) hkd
                have hput := sub_put hs hM1 c80 hql c67
                rw [kidsS_all ins l[q].kids (show l[q].kids.length ≤ v by omega)]
                refine AT.sub ((Sub.commit (i := 0) rfl).trans Sub.drop) ?_
                refine AL.go (AO.eql rfl rfl rfl (fun c106 => ?_) (fun c106 => ?_))
                · refine AL.nil (AK.seqN (AC.condT rfl (AC.seq (AC.region (AL.go (AO.move rfl rfl ?_))))))
                  refine AL.go (AO.loadBA rfl rfl ?_)
                  have hwk : (mapK ins l[q]).words.length = (mapK ins l[q]).kids.length := by unfold mapK; simp only [List.length_map]; exact hrt.iface c106
                  refine AL.go (AO.call rfl rfl (terms_c out hout (mapK ins l[q]) htok.kids hkd hwk (hrt.bare c106) (show fL out a13 k13 c13 ∈ _ from (by repeat (first | exact mem0 | assumption | refine memS ?_))) (show fW (mapK ins l[q]) _ _ _ ∈ _ from (by repeat (first | exact mem0 | assumption | refine memS ?_))) (show fK (mapK ins l[q]) _ _ _ ∈ _ from (by repeat (first | exact mem0 | assumption | refine memS ?_))) (fun c110 => ?_) (fun c110 p1 p2 p3 p4 p5 p6 => ?_)))
                  · refine AL.go (AO.move rfl rfl (AL.go (AO.extract rfl rfl rfl ?_)))
                    refine AL.go (AO.extract rfl rfl rfl ?_)
                    refine AL.go (AO.alloc rfl (fun b19 => ?_))
                    refine AL.go (AO.storeBA rfl rfl rfl rfl ?_)
                    refine AL.go (AO.assign rfl rfl (AL.nil (AK.seqN (AC.seq (AC.seq (AC.region ?_))))))
                    refine AL.go (AO.move rfl rfl (AL.go (AO.not rfl rfl (AL.nil (AK.seqN (AC.condT rfl (AC.seq ?_)))))))
                    refine AC.region (AL.go (AO.assign rfl rfl (AL.go (AO.assign rfl rfl (AL.go (AO.assign rfl rfl (AL.nil (AK.seqN ?_))))))))
                    refine AC.ret (AK.seqR (AK.seqR (AK.blkR (AK.seqR (AK.seqR ?_)))))
                    refine AK.blkR (AK.seqR ?_)
                    exact AK.ret3 (L' := L) (F' := fL [] none 0 0 :: F) Tryd.results23 rfl rfl rfl (Sub.drop.trans (Sub.drop.trans (Sub.drop.trans (Sub.drop.trans (Sub.facts (mem1 (by repeat (first | exact mem0 | assumption | refine memS ?_)) (fun x hx => by repeat (first | exact hx | refine List.mem_cons_of_mem _ ?_)))))))) (h3 11 (subR_error hnb hqn (hput.trans (put_odd c106 c110))))
                  · refine AL.go (AO.move rfl rfl (AL.go (AO.extract rfl rfl rfl ?_)))
                    refine AL.go (AO.extract rfl rfl rfl ?_)
                    refine AL.go (AO.alloc rfl (fun b19 => ?_))
                    refine AL.go (AO.storeBA rfl rfl rfl rfl ?_)
                    refine AL.go (AO.assign rfl rfl (AL.nil (AK.seqN (AC.seq (AC.seq (AC.region ?_))))))
                    refine AL.go (AO.move rfl rfl (AL.go (AO.not rfl rfl (AL.nil (AK.seqN (AC.condF rfl (AC.skip ?_)))))))
                    refine AK.seqN (AC.region ?_)
                    refine AL.go (AO.loadBA rfl rfl ?_)
                    refine AL.go (AO.storeBA rfl rfl rfl rfl ?_)
                    refine AL.nil (AK.seqN (AC.seq (AC.region (AL.go (AO.move rfl rfl ?_)))))
                    refine AL.go (AO.loadBA rfl rfl ?_)
                    refine AL.go (AO.call rfl rfl (add2_c g out (right_ok hso.right) (termsT out.length (mapK ins l[q])) (termsT_ok hout htok hwk hkd) (show fL out a13 k13 c13 ∈ _ from (by repeat (first | exact mem0 | assumption | refine memS ?_))) (show fW (termsT out.length (mapK ins l[q])) p1 p2 p3 ∈ _ from (by repeat (first | exact mem0 | assumption | refine memS ?_))) (show fK (termsT out.length (mapK ins l[q])) p4 p5 p6 ∈ _ from (by repeat (first | exact mem0 | assumption | refine memS ?_))) (fun c => absurd hso.right c) (fun _ o2 i2 e2 a119 k119 c119 hP => ?_)))
                    rw [put_iface (t := mapK ins l[q]) hso.right c106 c110 hP] at hput
                    refine AL.go (AO.move rfl rfl (AL.go (AO.extract rfl rfl rfl (AL.go (AO.extract rfl rfl rfl (AL.go (AO.extract rfl rfl rfl (AL.go (AO.assign rfl rfl (AL.go (AO.assign rfl rfl ?_)))))))))))
                    refine AL.go (AO.assign rfl rfl (AL.nil (AK.seqN (AC.seq (AC.seq (AC.region ?_))))))
                    refine AL.go (AO.move rfl rfl ?_)
                    refine AL.go (AO.neq rfl rfl rfl (fun c124 => ?_) (fun c124 => ?_))
                    · refine AL.nil (AK.seqN (AC.condT rfl (AC.seq (AC.region (AL.go (AO.move rfl rfl ?_))))))
                      refine AL.go (AO.assign rfl rfl (AL.go (AO.assign rfl rfl (AL.go (AO.assign rfl rfl (AL.nil (AK.seqN (AC.ret ?_))))))))
                      refine AK.seqR (AK.blkR (AK.seqR (AK.seqR (AK.blkR (AK.seqR ?_)))))
                      rw [if_neg c124] at hput
                      first
                      | exact AK.ret3 (L' := L) (F' := fL [] none 0 0 :: F) Tryd.results23 rfl rfl rfl (Sub.drop.trans (Sub.drop.trans (Sub.drop.trans (Sub.drop.trans (Sub.facts (mem1 (by repeat (first | exact mem0 | assumption | refine memS ?_)) (fun x hx => by repeat (first | exact hx | refine List.mem_cons_of_mem _ ?_)))))))) (h3 e2 (subR_error hnb (by omega) hput))
                      | exact AK.ret3 (L' := L) (F' := fL [] none 0 0 :: F) Tryd.results23 rfl rfl rfl (Sub.drop.trans (Sub.drop.trans (Sub.drop.trans (Sub.facts (mem1 (by repeat (first | exact mem0 | assumption | refine memS ?_)) (fun x hx => by repeat (first | exact hx | refine List.mem_cons_of_mem _ ?_))))))) (h3 e2 (subR_error hnb (by omega) hput))
                    · refine AL.nil (AK.seqN (AC.condF rfl (AC.skip (AK.seqN (AC.region ?_)))))
                      refine AL.go (AO.move rfl rfl (AL.go (AO.move rfl rfl (AL.go (AO.move rfl rfl (AL.go (AO.move rfl rfl (AL.go (AO.assign rfl rfl ?_)))))))))
                      have hmi : m = m := rfl
                      refine AL.go (AO.mapUpdate (kenc := vI) (venc := vI) (m := m) (q : Int) i2 rfl rfl rfl (by repeat (first | exact has0 | apply hasS)) ?_)
                      simp only [List.set_cons_zero, List.set_cons_succ]
                      refine AL.nil (AK.blkN (AK.seqN (AC.region (AL.go (AO.add rfl rfl rfl (by omega) (by omega) (AL.go (AO.move rfl rfl ?_)))))))
                      refine AL.nil ?_
                      rw [if_pos c124] at hput
                      obtain ⟨hr2, hp2, hi2, hi3⟩ := add_pre hso.right hP c124
                      first
                      | exact AK.next (q + 1, (o2, ins ++ [i2], upd m (q : Int) i2), (a119, k119, c119)) ⟨by simp only; omega, hput, hso.step hr2 hp2 ⟨hi2, hi3⟩, hm.upd hso.len _⟩ (by simp only; omega) (by repeat (first | exact SubR.nil | refine SubR.cons rfl ?_)) (Sub.drop.trans (Sub.drop.trans (Sub.facts (mem1 (by repeat (first | exact mem0 | assumption | refine memS ?_)) (fun x hx => by repeat (first | exact hx | refine List.mem_cons_of_mem _ ?_))))))
                      | exact AK.next (q + 1, (o2, ins ++ [i2], upd m (q : Int) i2), (a119, k119, c119)) ⟨by simp only; omega, hput, hso.step hr2 hp2 ⟨hi2, hi3⟩, hm.upd hso.len _⟩ (by simp only; omega) (by repeat (first | exact SubR.nil | refine SubR.cons rfl ?_)) (Sub.drop.trans (Sub.facts (mem1 (by repeat (first | exact mem0 | assumption | refine memS ?_)) (fun x hx => by repeat (first | exact hx | refine List.mem_cons_of_mem _ ?_)))))
                · refine AL.nil (AK.seqN (AC.condF rfl (AC.skip (AK.seqN (AC.seq ?_)))))
                  refine AC.region (AL.go (AO.move rfl rfl ?_))
                  refine AL.go (AO.loadBA rfl rfl ?_)
                  refine AL.go (AO.call rfl rfl (add2_c g out (right_ok hso.right) (mapK ins l[q]) htok (show fL out a13 k13 c13 ∈ _ from (by repeat (first | exact mem0 | assumption | refine memS ?_))) (show fW (mapK ins l[q]) _ _ _ ∈ _ from (by repeat (first | exact mem0 | assumption | refine memS ?_))) (show fK (mapK ins l[q]) _ _ _ ∈ _ from (by repeat (first | exact mem0 | assumption | refine memS ?_))) (fun c => absurd hso.right c) (fun _ o2 i2 e2 a119 k119 c119 hP => ?_)))
                  rw [put_plain (t := mapK ins l[q]) hso.right c106 hP] at hput
                  refine AL.go (AO.move rfl rfl (AL.go (AO.extract rfl rfl rfl (AL.go (AO.extract rfl rfl rfl (AL.go (AO.extract rfl rfl rfl (AL.go (AO.assign rfl rfl (AL.go (AO.assign rfl rfl ?_)))))))))))
                  refine AL.go (AO.assign rfl rfl (AL.nil (AK.seqN (AC.seq (AC.seq (AC.region ?_))))))
                  refine AL.go (AO.move rfl rfl ?_)
                  refine AL.go (AO.neq rfl rfl rfl (fun c124 => ?_) (fun c124 => ?_))
                  · refine AL.nil (AK.seqN (AC.condT rfl (AC.seq (AC.region (AL.go (AO.move rfl rfl ?_))))))
                    refine AL.go (AO.assign rfl rfl (AL.go (AO.assign rfl rfl (AL.go (AO.assign rfl rfl (AL.nil (AK.seqN (AC.ret ?_))))))))
                    refine AK.seqR (AK.blkR (AK.seqR (AK.seqR (AK.blkR (AK.seqR ?_)))))
                    rw [if_neg c124] at hput
                    first
                    | exact AK.ret3 (L' := L) (F' := fL [] none 0 0 :: F) Tryd.results23 rfl rfl rfl (Sub.drop.trans (Sub.drop.trans (Sub.drop.trans (Sub.drop.trans (Sub.facts (mem1 (by repeat (first | exact mem0 | assumption | refine memS ?_)) (fun x hx => by repeat (first | exact hx | refine List.mem_cons_of_mem _ ?_)))))))) (h3 e2 (subR_error hnb (by omega) hput))
                    | exact AK.ret3 (L' := L) (F' := fL [] none 0 0 :: F) Tryd.results23 rfl rfl rfl (Sub.drop.trans (Sub.drop.trans (Sub.drop.trans (Sub.facts (mem1 (by repeat (first | exact mem0 | assumption | refine memS ?_)) (fun x hx => by repeat (first | exact hx | refine List.mem_cons_of_mem _ ?_))))))) (h3 e2 (subR_error hnb (by omega) hput))
                  · refine AL.nil (AK.seqN (AC.condF rfl (AC.skip (AK.seqN (AC.region ?_)))))
                    refine AL.go (AO.move rfl rfl (AL.go (AO.move rfl rfl (AL.go (AO.move rfl rfl (AL.go (AO.move rfl rfl (AL.go (AO.assign rfl rfl ?_)))))))))
                    have hmi : m = m := rfl
                    refine AL.go (AO.mapUpdate (kenc := vI) (venc := vI) (m := m) (q : Int) i2 rfl rfl rfl (by repeat (first | exact has0 | apply hasS)) ?_)
                    simp only [List.set_cons_zero, List.set_cons_succ]
                    refine AL.nil (AK.blkN (AK.seqN (AC.region (AL.go (AO.add rfl rfl rfl (by omega) (by omega) (AL.go (AO.move rfl rfl ?_)))))))
                    refine AL.nil ?_
                    rw [if_pos c124] at hput
                    obtain ⟨hr2, hp2, hi2, hi3⟩ := add_pre hso.right hP c124
                    first
                    | exact AK.next (q + 1, (o2, ins ++ [i2], upd m (q : Int) i2), (a119, k119, c119)) ⟨by simp only; omega, hput, hso.step hr2 hp2 ⟨hi2, hi3⟩, hm.upd hso.len _⟩ (by simp only; omega) (by repeat (first | exact SubR.nil | refine SubR.cons rfl ?_)) (Sub.drop.trans (Sub.drop.trans (Sub.facts (mem1 (by repeat (first | exact mem0 | assumption | refine memS ?_)) (fun x hx => by repeat (first | exact hx | refine List.mem_cons_of_mem _ ?_))))))
                    | exact AK.next (q + 1, (o2, ins ++ [i2], upd m (q : Int) i2), (a119, k119, c119)) ⟨by simp only; omega, hput, hso.step hr2 hp2 ⟨hi2, hi3⟩, hm.upd hso.len _⟩ (by simp only; omega) (by repeat (first | exact SubR.nil | refine SubR.cons rfl ?_)) (Sub.drop.trans (Sub.facts (mem1 (by repeat (first | exact mem0 | assumption | refine memS ?_)) (fun x hx => by repeat (first | exact hx | refine List.mem_cons_of_mem _ ?_)))))
      · refine AL.nil (AK.seqN (AC.seq (AC.condF rfl (AC.exit (AK.seqX ?_)))))
        refine AK.seqX (AK.blkX (AK.seqN (AC.seq ?_)))
        refine AC.draw (fun _ => false) [] (by repeat (first | exact BxIn.nil | refine BxIn.cons (by repeat (first | exact has0 | assumption | apply hasS)) ?_)) rfl (fun hx hX => ?_)
        have hq9 : q = n + 1 := by omega
        subst hq9
        have hmn := hm n (by omega) (parts_self hr hn)
        refine AH.takeW (i := 0) rfl (Y.move rfl) (by kernel_rfl) rfl rfl ?_
        refine AH.takeW (i := 1) rfl (Y.move rfl) (by kernel_rfl) rfl rfl ?_
        refine AH.takeW (i := 2) rfl (Y.move rfl) (by kernel_rfl) rfl rfl ?_
        refine AH.takeW (i := 4) rfl (Y.assign rfl) (by kernel_rfl) rfl rfl ?_
        refine AH.one (i := 3) (by kernel_rfl) rfl rfl (fun _ => ?_)
        refine AO.lookup (kenc := vI) (venc := vI) (m := m) (i := 0) (n : Int) rfl rfl rfl rfl ?_
        rw [hmn]
        refine AT.held (by repeat (first | exact BxIn.nil | refine BxIn.cons (by repeat (first | exact has0 | assumption | apply hasS)) ?_)) (by repeat (first | exact mem0 | refine memS ?_)) ?_
        refine AH.takeW (i := 5) rfl (Y.assign rfl) (by kernel_rfl) rfl rfl ?_
        refine AH.takeW (i := 6) rfl (Y.assign rfl) (by kernel_rfl) rfl rfl ?_
        refine AH.done (by kernel_rfl) ?_
        refine AK.seqN (AC.ret ?_)
        exact AK.ret3 (L' := L) (F' := fL out a13 k13 c13 :: F) Tryd.results23 rfl rfl rfl (Sub.drop.trans (Sub.drop.trans (Sub.facts (mem1 (by repeat (first | exact mem0 | assumption | refine memS ?_)) (fun x hx => by repeat (first | exact hx | refine List.mem_cons_of_mem _ ?_)))))) (h4 _ _ _ _ _ (subR_ok hnb hs))
end
end Go.Sy
