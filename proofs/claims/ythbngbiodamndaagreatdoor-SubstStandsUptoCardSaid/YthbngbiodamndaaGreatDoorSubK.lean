/- A type with others instead of its params, as the document says: the walk. -/
import Derived.Test.YthbngbiodamndaaGreatDoorSubJ
namespace Go.Sy
open Go Go.Proofs Go.RowKit

theorem bool_cases {p : Bool → Prop} {b : Bool} (h1 : b = true → p true) (h2 : b = false → p false) : p b := by
  cases b
  · exact h2 rfl
  · exact h1 rfl
theorem mapTake {ins ks : List Int} {v : Nat} (hv : v < ks.length) : (ks.take v).map (fun k => ins.getD k.toNat 0) ++ [ins.getD ks[v].toNat 0] = (ks.take (v + 1)).map (fun k => ins.getD k.toNat 0) := by
  rw [List.take_succ_eq_append_getElem hv, List.map_append]; rfl
theorem args_step {l : List Ty} {args : List Int} {u : Nat} (hu : u < args.length) (h : ∀ j (hj : j < args.length), j < u → 0 ≤ args[j] ∧ args[j] < l.length) (h2 : 0 ≤ args[u] ∧ args[u] < l.length) : ∀ j (hj : j < args.length), j < u + 1 → 0 ≤ args[j] ∧ args[j] < l.length := by
  intro j hj hju
  rcases Nat.lt_succ_iff_lt_or_eq.1 hju with k | rfl
  · exact h j hj k
  · exact h2

attribute [local irreducible] AC AT AO AK AH ACalls Sub Res.cells Res.obj Res.nix Res.own Res.map Exit.then Exit.inBlock bodyPost Code.wp Next Post Kont
section
variable {W0 : World} {L : List Res} {F : List Fact} {R : Value → List Res → List Fact → Prop}
set_option maxRecDepth 100000
set_option maxHeartbeats 16000000
theorem rsubst_c (l : List Ty) (hr : rightP l) (n : Nat) (hn : n < l.length) (args : List Int) (hargs : args.length ≤ 1000) {a a2 : Option Addr} {k c k2 c2 : Nat} (mL : fL l a k c ∈ F) (mA : fI args a2 k2 c2 ∈ F) (mN : Fact.slc (.slice none 0 0) 5 [] ∈ F)
    (h3 : ∀ e, subR l n args = .error e → R (.agg #[.slice none 0 0, .int .i64 0, .int .i64 e]) L (fL [] none 0 0 :: F))
    (h4 : ∀ o q a k c, subR l n args = .ok (o, q) → R (.agg #[.slice a k c, .int .i64 q, .int .i64 0]) L (fL o a k c :: F)) :
    ACalls Tryz.prog W0 9 #[.slice a k c, .int .i64 (n : Int), .slice a2 k2 c2] L F R := by
  have h400 := hr.2.1
  have hAl := asks_len l (n + 1) (by omega)
  have hAget := getD_eq (l := asksL (l.take (n + 1))) (0 : Int) (q := n) (by omega)
  have hMl : (partsL l n).length = n + 1 := partsN_len l n (n + 1)
  refine ACalls.body Tryz.func9 rfl Tryz.ntmps9 rfl ?_
  refine AC.seq (AC.region (AL.go (AO.alloc rfl (fun b6 => ?_))))
  refine AL.nil (AK.seqN (AC.seq (AC.region (AL.go (AO.move rfl rfl (AL.go (AO.move rfl rfl ?_)))))))
  refine AL.go (AO.call rfl rfl (rasks_c l hr n hn (by repeat (first | exact mem0 | assumption | refine memS ?_)) (fun a21 k21 z21 => ?_)))
  refine AL.go (AO.assign rfl rfl (AL.nil (AK.seqN (AC.seq (AC.seq (AC.region ?_))))))
  refine AL.go (AO.move rfl rfl ?_)
  refine AL.go (AO.len rfl rfl (fun hl23 => ?_) (enc := eI) (lst := args) (hm := (show fI args a2 k2 c2 ∈ _ from (by repeat (first | exact mem0 | assumption | refine memS ?_)))))
  refine AL.go (AO.move rfl rfl (AL.go (AO.move rfl rfl ?_)))
  refine AL.go (AO.indexAddr (k := n) rfl rfl rfl rfl (enc := eI) (lst := asksL (l.take (n + 1))) (by repeat (first | exact mem0 | assumption | refine memS ?_)) (by omega) (fun _ _ => ?_))
  rw [← hAget]
  refine AL.go (AO.loadF rfl rfl ?_)
  intros
  refine AL.go (AO.lss rfl rfl rfl (fun c28 => ?_) (fun c28 => ?_))
  · refine AL.nil (AK.seqN (AC.condT rfl (AC.seq (AC.region ?_))))
    refine AL.go (AO.build rfl rfl rfl ?_)
    refine AL.go (AO.storeBA rfl rfl rfl rfl ?_)
    refine AL.nil (AK.seqN (AC.ret (AK.seqR ?_)))
    exact AK.retV (rs := [.cell 6 _]) (L' := L) (F' := fL [] none 0 0 :: F) Tryz.results9 (.agg (j := 0) rfl rfl rfl .nil) (Sub.drop.trans (Sub.facts (mem1 (by repeat (first | exact mem0 | assumption | refine memS ?_)) (fun x hx => by repeat (first | exact hx | refine List.mem_cons_of_mem _ ?_))))) (h3 1 (subR_bad (.inl c28)))
  · refine AL.nil (AK.seqN (AC.condF rfl (AC.skip (AK.seqN (AC.seq ?_)))))
    refine AC.seq (AC.region (AL.go (AO.move rfl rfl ?_)))
    refine AL.go (AO.len rfl rfl (fun hl31 => ?_) (enc := eI) (lst := args) (hm := (show fI args a2 k2 c2 ∈ _ from (by repeat (first | exact mem0 | assumption | refine memS ?_)))))
    refine AL.go (AO.move rfl rfl (AL.nil (AK.seqN (AC.block ?_))))
    refine AC.loop (fun (u : Nat) => u ≤ args.length ∧ ∀ j (hj : j < args.length), j < u → 0 ≤ args[j] ∧ args[j] < l.length) (fun u => [(0, .slice a k c), (1, .int .i64 (n : Int)), (2, .slice a2 k2 c2), (6, .pointer (some ⟨b6, 0, none⟩)), (7, .slice a21 k21 z21), (30, .slice a2 k2 c2), (31, .int .i64 args.length), (32, .int .i64 (u : Int))]) (fun _ => _) (fun _ => _) (fun u => args.length - u) 0 ⟨Nat.zero_le _, fun j hj h => absurd h (by omega)⟩ (by repeat (first | exact SubR.nil | refine SubR.cons rfl ?_)) (Sub.refl _ _) ?_
    rintro u ⟨hu, hgo⟩
    refine AC.seq (AC.region ?_)
    refine AL.go (AO.lss rfl rfl rfl (fun c33 => ?_) (fun c33 => ?_))
    · refine AL.nil (AK.seqN (AC.seq (AC.condT rfl (AC.skip (AK.seqN ?_)))))
      refine AC.seq (AC.block (AC.seq (AC.region ?_)))
      have hul : u < args.length := by omega
      refine AL.go (AO.indexAddr rfl rfl rfl rfl (show fI args a2 k2 c2 ∈ _ from (by repeat (first | exact mem0 | assumption | refine memS ?_))) hul (fun _ _ => ?_))
      refine AL.go (AO.loadF rfl rfl ?_)
      intros
      refine AL.go (AO.assign rfl rfl (AL.nil (AK.seqN (AC.seq (AC.region (AL.go (AO.move rfl rfl ?_)))))))
      refine AL.go (AO.lss rfl rfl rfl (fun c37 => ?_) (fun c37 => ?_))
      · refine AL.go (AO.move rfl rfl (AL.no rfl rfl rfl rfl (AL.no rfl rfl rfl rfl (AL.no rfl rfl rfl rfl (AL.no rfl rfl rfl rfl (AL.go (AO.pickT rfl rfl rfl ?_)))))))
        refine AL.nil (AK.seqN (AC.condT rfl (AC.seq (AC.region ?_))))
        refine AL.go (AO.build rfl rfl rfl ?_)
        refine AL.go (AO.storeBA rfl rfl rfl rfl ?_)
        refine AL.nil (AK.seqN (AC.ret (AK.blkR (AK.seqR (AK.seqR ?_)))))
        refine AK.blkR (AK.seqR ?_)
        exact AK.retV (rs := [.cell 6 _]) (L' := L) (F' := fL [] none 0 0 :: F) Tryz.results9 (.agg (j := 0) rfl rfl rfl .nil) (Sub.drop.trans (Sub.facts (mem1 (by repeat (first | exact mem0 | assumption | refine memS ?_)) (fun x hx => by repeat (first | exact hx | refine List.mem_cons_of_mem _ ?_))))) (h3 1 (subR_bad (.inr ⟨args[u], List.getElem_mem hul, by omega⟩)))
      · refine AL.go (AO.move rfl rfl (AL.yes rfl rfl (AO.move rfl rfl (AL.yes rfl rfl (AO.move rfl rfl ?_)))))
        refine AL.yes rfl rfl (AO.len rfl rfl (fun hl41 => ?_) (enc := eTy) (lst := l) (hm := (show fL l a k c ∈ _ from (by repeat (first | exact mem0 | assumption | refine memS ?_)))))
        refine AL.yes rfl rfl (AO.geq rfl rfl rfl (fun c42 => ?_) (fun c42 => ?_))
        · refine AL.go (AO.pickF rfl rfl rfl (AL.nil (AK.seqN (AC.condT rfl (AC.seq (AC.region ?_))))))
          refine AL.go (AO.build rfl rfl rfl ?_)
          refine AL.go (AO.storeBA rfl rfl rfl rfl ?_)
          refine AL.nil (AK.seqN (AC.ret (AK.blkR (AK.seqR (AK.seqR ?_)))))
          refine AK.blkR (AK.seqR ?_)
          exact AK.retV (rs := [.cell 6 _]) (L' := L) (F' := fL [] none 0 0 :: F) Tryz.results9 (.agg (j := 0) rfl rfl rfl .nil) (Sub.drop.trans (Sub.facts (mem1 (by repeat (first | exact mem0 | assumption | refine memS ?_)) (fun x hx => by repeat (first | exact hx | refine List.mem_cons_of_mem _ ?_))))) (h3 1 (subR_bad (.inr ⟨args[u], List.getElem_mem hul, by omega⟩)))
        · refine AL.go (AO.pickF rfl rfl rfl (AL.nil (AK.seqN (AC.condF rfl (AC.skip (AK.blkN ?_))))))
          refine AK.seqN (AC.region (AL.go (AO.add rfl rfl rfl (by omega) (by omega) (AL.go (AO.move rfl rfl (AL.nil ?_))))))
          exact AK.next (u + 1) ⟨by omega, args_step hul hgo (by omega)⟩ (by omega) (by repeat (first | exact SubR.nil | refine SubR.cons rfl ?_)) (by repeat (first | exact Sub.refl _ _ | refine Sub.trans Sub.dropF ?_))
    · refine AL.nil (AK.seqN (AC.seq (AC.condF rfl (AC.exit (AK.seqX ?_)))))
      refine AK.seqX (AK.blkX (AK.seqN (AC.seq (AC.region (AL.go (AO.move rfl rfl ?_))))))
      refine AL.go (AO.move rfl rfl ?_)
      have hgood : ∀ a ∈ args, 0 ≤ a ∧ a < l.length := fun x hx => by
       obtain ⟨j, hj, rfl⟩ := List.getElem_of_mem hx
       exact hgo j hj (by omega)
      have hnb : ¬ badArgs l n args := not_bad hgood (by omega)
      refine AL.go (AO.call rfl rfl (rparts_c l hr n hn (show fL l a k c ∈ _ from (by repeat (first | exact mem0 | assumption | refine memS ?_))) (fun a48 k48 z48 => ?_)))
      refine AL.go (AO.assign rfl rfl (AL.nil (AK.seqN (AC.seq (AC.region ?_)))))
      refine AL.go (AO.buildSlice0 rfl (fun b49 => ?_))
      refine AT.sub (Sub.toOwn (i := 0) (k := 0) (sz := 1) (enc := eI) [] rfl .nil (fun _ => rfl) rfl (by decide)) ?_
      refine AL.go (AO.assign rfl rfl (AL.nil (AK.seqN (AC.seq (AC.region (AL.go (AO.move rfl rfl ?_)))))))
      refine AL.go (AO.assign rfl rfl (AL.nil (AK.seqN (AC.seq (AC.seq (AC.region ?_))))))
      refine AL.go (AO.move rfl rfl (AL.go (AO.move rfl rfl (AL.go (AO.add rfl rfl rfl (by omega) (by omega) ?_)))))
      refine AL.go (AO.sliceH (j' := n + 1) rfl rfl rfl (by omega) (enc := eTy) (lst := l) (show fL l a k c ∈ _ from (by repeat (first | exact mem0 | assumption | refine memS ?_))) (by omega) (fun a54 k54 c54 => ?_))
      have htl : (l.take (n + 1)).length = n + 1 := by rw [List.length_take]; omega
      refine AL.go (AO.len rfl rfl (fun hl55 => ?_) (enc := eTy) (lst := l.take (n + 1)) (hm := (by repeat (first | exact mem0 | assumption | refine memS ?_))))
      refine AL.go (AO.move rfl rfl (AL.nil (AK.seqN (AC.block ?_))))
      refine AC.loop (fun (x : Nat × (List Ty × List Int) × (Option Addr × Nat × Nat) × (Option Addr × Nat × Nat)) => x.1 ≤ n + 1 ∧ subN l args (asksL (l.take (n + 1))) (partsL l n) x.1 = .ok (x.2.1.1, x.2.1.2) ∧ SubOk l x.1 x.2.1.1 x.2.1.2) (fun x => [(0, .slice a k c), (1, .int .i64 (n : Int)), (2, .slice a2 k2 c2), (6, .pointer (some ⟨b6, 0, none⟩)), (7, .slice a21 k21 z21), (10, .slice a48 k48 z48), (11, .slice x.2.2.1.1 x.2.2.1.2.1 x.2.2.1.2.2), (12, .slice x.2.2.2.1 x.2.2.2.2.1 x.2.2.2.2.2), (54, .slice a54 k54 c54), (55, .int .i64 (l.take (n + 1)).length), (56, .int .i64 (x.1 : Int))]) (fun x => Res.own (.slice x.2.2.1.1 x.2.2.1.2.1 x.2.2.1.2.2) 3 1 (x.2.1.2.map eI) :: _) (fun x => fL x.2.1.1 x.2.2.2.1 x.2.2.2.2.1 x.2.2.2.2.2 :: _) (fun x => n + 1 - x.1) (0, (l, []), (some ⟨b49, 0, none⟩, 0, 0), (a, k, c)) ⟨Nat.zero_le _, rfl, ⟨hr, List.prefix_rfl, rfl, fun p hp => absurd hp (by simp)⟩⟩ (by repeat (first | exact SubR.nil | refine SubR.cons rfl ?_)) (Sub.facts (mem1 (by repeat (first | exact mem0 | assumption | refine memS ?_)) (fun x hx => hx))) ?_
      rintro ⟨q, ⟨out, ins⟩, ⟨aI, kI, cI⟩, ⟨aO, kO, cO⟩⟩ ⟨hq, hs, hso⟩
      simp only at hq hs hso ⊢
      refine AC.seq (AC.region ?_)
      refine AL.go (AO.lss rfl rfl rfl (fun c57 => ?_) (fun c57 => ?_))
      · refine AL.nil (AK.seqN (AC.seq (AC.condT rfl (AC.skip (AK.seqN ?_)))))
        refine AC.seq (AC.block (AC.seq (AC.region (AL.go (AO.move rfl rfl ?_)))))
        have hqn : q < n + 1 := by omega
        have hql : q < l.length := by omega
        have hqt : q < (l.take (n + 1)).length := by omega
        have hget : (l.take (n + 1))[q] = l[q] := List.getElem_take
        have hqA : q < (asksL (l.take (n + 1))).length := by omega
        have hqM : q < (partsL l n).length := by omega
        have hMq := getD_eq false hqM
        have hAq := getD_eq (0 : Int) hqA
        have hrt := rt_of_right hr hql
        have hout := hso.right.2.1
        have hol := hso.pre.length_le
        have hil := hso.len
        have hkf := hrt.few
        refine AL.go (AO.indexAddr rfl rfl rfl rfl (enc := eTy) (lst := l.take (n + 1)) (by repeat (first | exact mem0 | assumption | refine memS ?_)) hqt (fun _ _ => ?_))
        rw [hget]
        refine AL.go (AO.loadFA rfl rfl ?_)
        intro a60 k60 z60 d60 e60 f60
        refine AL.go (AO.alloc rfl (fun b14 => ?_))
        refine AL.go (AO.assign rfl rfl ?_)
        refine AL.go (AO.storeBA rfl rfl rfl rfl ?_)
        refine AL.nil (AK.seqN (AC.seq (AC.seq (AC.region (AL.go (AO.move rfl rfl ?_))))))
        refine AL.go (AO.move rfl rfl ?_)
        refine AL.go (AO.indexAddr rfl rfl rfl rfl (enc := eBl) (lst := partsL l n) (by repeat (first | exact mem0 | assumption | refine memS ?_)) hqM (fun _ _ => ?_))
        rw [← hMq]
        refine AL.go (AO.loadF rfl rfl ?_)
        refine bool_cases (b := (partsL l n).getD q false) (p := fun b => AT _ _ _ ((_, .bool b) :: _) _ _) (fun hM => ?_) (fun hM => ?_)
        · refine AL.go (AO.not rfl rfl (AL.go (AO.move rfl rfl (AL.yes rfl rfl (AO.move rfl rfl (AL.yes rfl rfl (AO.move rfl rfl ?_)))))))
          refine AL.yes rfl rfl (AO.indexAddr rfl rfl rfl rfl (enc := eI) (lst := asksL (l.take (n + 1))) (by repeat (first | exact mem0 | assumption | refine memS ?_)) hqA (fun _ _ => ?_))
          rw [← hAq]
          refine AL.yes rfl rfl (AO.loadF rfl rfl ?_)
          intros
          refine AL.yes rfl rfl (AO.eql rfl rfl rfl (fun c71 => ?_) (fun c71 => ?_))
          · refine AL.go (AO.pickF rfl rfl rfl (AL.nil (AK.seqN (AC.condT rfl (AC.seq (AC.region ?_))))))
            refine AL.go (AO.move rfl rfl (AL.go (AO.move rfl rfl ?_)))
            refine AL.go (AO.buildSlice rfl rfl rfl rfl rfl (fun b75 => ?_))
            refine AL.go (AO.append (i := 1) (enc := eI) (lst := ins) [(q : Int)] rfl rfl rfl rfl (.val .nil) rfl rfl (fun _ => rfl) (by simp only [maxLen]; omega) (by omega) (fun a76 k76 z76 => ?_))
            simp only [List.set_cons_zero, List.set_cons_succ]
            refine AL.go (AO.assign rfl rfl (AL.nil (AK.seqN (AC.exit (AK.seqX (AK.blkX ?_))))))
            refine AK.seqN (AC.region (AL.go (AO.add rfl rfl rfl (by omega) (by omega) (AL.go (AO.move rfl rfl (AL.nil ?_))))))
            exact AK.next (q + 1, (out, ins ++ [(q : Int)]), (a76, k76, z76), (aO, kO, cO)) ⟨by simp only; omega, sub_out hs (.inr c71), hso.step hso.right List.prefix_rfl (by simp only; omega)⟩ (by simp only; omega) (by repeat (first | exact SubR.nil | refine SubR.cons rfl ?_)) (Sub.drop.trans (Sub.facts (mem1 (by repeat (first | exact mem0 | assumption | refine memS ?_)) (fun x hx => by repeat (first | exact hx | refine List.mem_cons_of_mem _ ?_)))))
          · refine AL.go (AO.pickF rfl rfl rfl (AL.nil (AK.seqN (AC.condF rfl (AC.skip (AK.seqN ?_))))))
            refine AC.seq (AC.seq (AC.region (AL.go (AO.field rfl rfl ?_))))
            refine AL.go (AO.loadB rfl rfl ?_)
            refine AL.go (AO.eql rfl rfl rfl (fun c79 => ?_) (fun c79 => ?_))
            · refine AL.nil (AK.seqN (AC.condT rfl (AC.seq (AC.region (AL.go (AO.move rfl rfl ?_))))))
              refine AL.go (AO.move rfl rfl (AL.go (AO.field rfl rfl ?_)))
              refine AL.go (AO.loadB rfl rfl ?_)
              have hp9 := hrt.param c79
              have hask := parts_ask hr hn (n + 1) (Nat.le_refl _) hM
              have hA9 : (asksL (l.take (n + 1))).getD q 0 = l[q].n + 1 := by
               rw [asks_at hn (by omega)]; unfold ask1 ask0; rw [if_pos c79, hp9.2.2]; rfl
              have hna : l[q].n.toNat < args.length := by omega
              have hga := getD_eq (0 : Int) hna
              have hgr := hgood _ (List.getElem_mem hna)
              refine AL.go (AO.indexAddr (k := l[q].n.toNat) rfl rfl rfl (by omega) (show fI args a2 k2 c2 ∈ _ from (by repeat (first | exact mem0 | assumption | refine memS ?_))) hna (fun _ _ => ?_))
              rw [← hga]
              refine AL.go (AO.loadF rfl rfl ?_)
              intros
              refine AL.go (AO.buildSlice rfl rfl rfl rfl rfl (fun b86 => ?_))
              refine AL.go (AO.append (i := 1) (enc := eI) (lst := ins) [args.getD l[q].n.toNat 0] rfl rfl rfl rfl (.val .nil) rfl rfl (fun _ => rfl) (by simp only [maxLen]; omega) (by omega) (fun a87 k87 z87 => ?_))
              simp only [List.set_cons_zero, List.set_cons_succ]
              refine AL.go (AO.assign rfl rfl (AL.nil (AK.seqN (AC.exit (AK.seqX (AK.blkX ?_))))))
              refine AK.seqN (AC.region (AL.go (AO.add rfl rfl rfl (by omega) (by omega) (AL.go (AO.move rfl rfl (AL.nil ?_))))))
              exact AK.next (q + 1, (out, ins ++ [args.getD l[q].n.toNat 0]), (a87, k87, z87), (aO, kO, cO)) ⟨by simp only; omega, sub_param hs hM c71 hql c79, hso.step hso.right List.prefix_rfl (by simp only; rw [hga]; omega)⟩ (by simp only; omega) (by repeat (first | exact SubR.nil | refine SubR.cons rfl ?_)) (Sub.drop.trans (Sub.facts (mem1 (by repeat (first | exact mem0 | assumption | refine memS ?_)) (fun x hx => by repeat (first | exact hx | refine List.mem_cons_of_mem _ ?_)))))
            · refine AL.nil (AK.seqN (AC.condF rfl (AC.skip (AK.seqN (AC.seq ?_)))))
              refine AC.region ?_
              refine AL.go (AO.buildSlice0 rfl (fun b88 => ?_))
              refine AT.sub (Sub.toOwn (i := 0) (k := 0) (sz := 1) (enc := eI) [] rfl .nil (fun _ => rfl) rfl (by decide)) ?_
              refine AL.go (AO.assign rfl rfl (AL.nil (AK.seqN (AC.seq (AC.seq (AC.region ?_))))))
              refine AL.go (AO.field rfl rfl ?_)
              refine AL.go (AO.loadB rfl rfl ?_)
              refine AL.go (AO.len rfl rfl (fun hl91 => ?_) (enc := eI) (lst := l[q].kids) (hm := (show fK l[q] _ _ _ ∈ _ from (by repeat (first | exact mem0 | assumption | refine memS ?_)))))
              refine AL.go (AO.move rfl rfl (AL.nil (AK.seqN (AC.block ?_))))
              refine AC.loop (fun (x : Nat × (Option Addr × Nat × Nat)) => x.1 ≤ l[q].kids.length) (fun x => [(0, .slice a k c), (1, .int .i64 (n : Int)), (2, .slice a2 k2 c2), (6, .pointer (some ⟨b6, 0, none⟩)), (7, .slice a21 k21 z21), (10, .slice a48 k48 z48), (11, .slice aI kI cI), (12, .slice aO kO cO), (54, .slice a54 k54 c54), (55, .int .i64 (l.take (n + 1)).length), (56, .int .i64 (q : Int)), (14, .pointer (some ⟨b14, 0, none⟩)), (15, .slice x.2.1 x.2.2.1 x.2.2.2), (90, .slice d60 e60 f60), (91, .int .i64 l[q].kids.length), (92, .int .i64 (x.1 : Int))]) (fun x => Res.own (.slice x.2.1 x.2.2.1 x.2.2.2) 3 1 (((l[q].kids.take x.1).map (fun k => ins.getD k.toNat 0)).map eI) :: _) (fun _ => _) (fun x => l[q].kids.length - x.1) (0, (some ⟨b88, 0, none⟩, 0, 0)) (Nat.zero_le _) (by repeat (first | exact SubR.nil | refine SubR.cons rfl ?_)) (Sub.refl _ _) ?_
              rintro ⟨v, ⟨a15, k15, c15⟩⟩ hv
              simp only at hv ⊢
              refine AC.seq (AC.region ?_)
              refine AL.go (AO.lss rfl rfl rfl (fun c93 => ?_) (fun c93 => ?_))
              · refine AL.nil (AK.seqN (AC.seq (AC.condT rfl (AC.skip (AK.seqN ?_)))))
                refine AC.seq (AC.block (AC.seq (AC.region ?_)))
                have hvl : v < l[q].kids.length := by omega
                have hb := hrt.kids _ (List.getElem_mem hvl)
                have hki : l[q].kids[v].toNat < ins.length := by omega
                refine AL.go (AO.indexAddr rfl rfl rfl rfl (show fK l[q] _ _ _ ∈ _ from (by repeat (first | exact mem0 | assumption | refine memS ?_))) hvl (fun _ _ => ?_))
                refine AL.go (AO.loadF rfl rfl ?_)
                intros
                refine AL.go (AO.assign rfl rfl (AL.nil (AK.seqN (AC.region (AL.go (AO.move rfl rfl (AL.go (AO.move rfl rfl ?_))))))))
                refine AL.go (AO.move rfl rfl ?_)
                refine AL.go (AO.indexAddrO (i := 2) (q := l[q].kids[v].toNat) rfl rfl rfl (by omega) rfl (by rw [List.length_map]; exact hki) (fun bo ho => ?_))
                subst ho
                refine AL.go (AO.loadO (i := 2) (q := l[q].kids[v].toNat) rfl rfl rfl rfl (eI_get hki) ?_)
                refine AL.go (AO.buildSlice rfl rfl rfl rfl rfl (fun b101 => ?_))
                refine AL.go (AO.append (i := 0) (enc := eI) (lst := (l[q].kids.take v).map (fun k => ins.getD k.toNat 0)) [ins.getD l[q].kids[v].toNat 0] rfl rfl rfl rfl (.val .nil) rfl rfl (fun _ => rfl) (by simp only [List.length_map, List.length_take, maxLen]; omega) (by simp only [List.length_map, List.length_take]; omega) (fun a102 k102 z102 => ?_))
                simp only [List.set_cons_zero, List.set_cons_succ]
                rw [mapTake hvl]
                refine AL.go (AO.assign rfl rfl (AL.nil (AK.blkN (AK.seqN (AC.region (AL.go (AO.add rfl rfl rfl (by omega) (by omega) ?_)))))))
                refine AL.go (AO.move rfl rfl (AL.nil ?_))
                exact AK.next (v + 1, (a102, k102, z102)) (by simp only; omega) (by simp only; omega) (by repeat (first | exact SubR.nil | refine SubR.cons rfl ?_)) (by repeat (first | exact Sub.refl _ _ | refine Sub.trans Sub.dropF ?_))
              · refine AL.nil (AK.seqN (AC.seq (AC.condF rfl (AC.exit (AK.seqX ?_)))))
                refine AK.seqX (AK.blkX (AK.seqN (AC.seq (AC.region ?_))))
                have hkd : ∀ k ∈ (mapK ins l[q]).kids, 0 ≤ k ∧ k < out.length := mapK_kids hso.ins hrt.kids
                have htok : TyOk (mapK ins l[q]) := mapK_ok hout (right_ok hr _ (List.getElem_mem hql)) hkd
                have hput := sub_put hs hM c71 hql c79
                have hv9 : l[q].kids.take v = l[q].kids := List.take_of_length_le (by omega)
                rw [hv9]
                refine AT.sub ((Sub.commit (i := 0) rfl).trans Sub.drop) ?_
                refine AL.go (AO.move rfl rfl ?_)
                refine AL.go (AO.field rfl rfl ?_)
                refine AL.go (AO.storeB rfl rfl rfl ?_)
                refine AL.nil (AK.seqN (AC.seq (AC.seq (AC.region (AL.go (AO.field rfl rfl ?_))))))
                refine AL.go (AO.loadB rfl rfl ?_)
                refine AL.go (AO.eql rfl rfl rfl (fun c108 => ?_) (fun c108 => ?_))
                · refine AL.nil (AK.seqN (AC.condT rfl (AC.seq (AC.seq (AC.region ?_)))))
                  refine AL.go (AO.move rfl rfl ?_)
                  refine AL.go (AO.loadBA rfl rfl ?_)
                  have hwk : (mapK ins l[q]).words.length = (mapK ins l[q]).kids.length := by unfold mapK; simp only [List.length_map]; exact hrt.iface c108
                  have hwl : (mapK ins l[q]).words.length ≤ 1000 := by have := htok.words; omega
                  refine AL.go (AO.call rfl rfl (rodd_c out (mapK ins l[q]) hwl hkd hwk (show fL out aO kO cO ∈ _ from (by repeat (first | exact mem0 | assumption | refine memS ?_))) (show fW (mapK ins l[q]) _ _ _ ∈ _ from (by repeat (first | exact mem0 | assumption | refine memS ?_))) (show fK (mapK ins l[q]) _ _ _ ∈ _ from (by repeat (first | exact mem0 | assumption | refine memS ?_))) (fun c111 => ?_) (fun c111 => ?_)))
                  · refine AL.nil (AK.seqN (AC.condT rfl (AC.seq (AC.region ?_))))
                    refine AL.go (AO.build rfl rfl rfl ?_)
                    refine AL.go (AO.storeBA rfl rfl rfl rfl ?_)
                    refine AL.nil (AK.seqN (AC.ret (AK.seqR (AK.seqR (AK.blkR ?_)))))
                    refine AK.seqR (AK.seqR (AK.blkR (AK.seqR ?_)))
                    exact AK.retV (rs := [.cell 6 _]) (L' := L) (F' := fL [] none 0 0 :: F) Tryz.results9 (.agg (j := 2) rfl rfl rfl .nil) (Sub.drop.trans (Sub.drop.trans (Sub.drop.trans (Sub.facts (mem1 (by repeat (first | exact mem0 | assumption | refine memS ?_)) (fun x hx => by repeat (first | exact hx | refine List.mem_cons_of_mem _ ?_))))))) (h3 11 (subR_error hnb hqn (hput.trans (put_odd c108 c111))))
                  · refine AL.nil (AK.seqN (AC.condF rfl (AC.skip (AK.seqN (AC.region ?_)))))
                    refine AL.go (AO.move rfl rfl ?_)
                    refine AL.go (AO.loadBA rfl rfl ?_)
                    refine AL.go (AO.call rfl rfl (rterms_c out hout (mapK ins l[q]) htok.kids hkd hwk (show fL out aO kO cO ∈ _ from (by repeat (first | exact mem0 | assumption | refine memS ?_))) (show fW (mapK ins l[q]) _ _ _ ∈ _ from (by repeat (first | exact mem0 | assumption | refine memS ?_))) (show fK (mapK ins l[q]) _ _ _ ∈ _ from (by repeat (first | exact mem0 | assumption | refine memS ?_))) (fun p1 p2 p3 p4 p5 p6 => ?_)))
                    refine AL.go (AO.storeBA rfl rfl rfl rfl ?_)
                    refine AL.nil (AK.seqN (AC.seq (AC.region (AL.go (AO.move rfl rfl ?_)))))
                    refine AL.go (AO.loadBA rfl rfl ?_)
                    refine AL.go (AO.call rfl rfl (radd_c out (by omega) (termsT out.length (mapK ins l[q])) (termsT_ok hout htok hwk hkd) (show fL out aO kO cO ∈ _ from (by repeat (first | exact mem0 | assumption | refine memS ?_))) (show fW (termsT out.length (mapK ins l[q])) p1 p2 p3 ∈ _ from (by repeat (first | exact mem0 | assumption | refine memS ?_))) (show fK (termsT out.length (mapK ins l[q])) p4 p5 p6 ∈ _ from (by repeat (first | exact mem0 | assumption | refine memS ?_))) (fun o2 i2 e2 a118 k118 c118 hP => ?_)))
                    rw [put_iface (t := mapK ins l[q]) hso.right c108 c111 hP] at hput
                    refine AL.go (AO.alloc rfl (fun b18 => ?_))
                    refine AL.go (AO.storeBA rfl rfl rfl rfl ?_)
                    refine AL.nil (AK.seqN (AC.seq (AC.seq (AC.region (AL.go (AO.field rfl rfl ?_))))))
                    refine AL.go (AO.loadB rfl rfl ?_)
                    refine AL.go (AO.neq rfl rfl rfl (fun c121 => ?_) (fun c121 => ?_))
                    · refine AL.nil (AK.seqN (AC.condT rfl (AC.seq (AC.region (AL.go (AO.field rfl rfl ?_))))))
                      refine AL.go (AO.loadB rfl rfl ?_)
                      refine AL.go (AO.build rfl rfl rfl ?_)
                      refine AL.go (AO.storeBA rfl rfl rfl rfl ?_)
                      refine AL.nil (AK.seqN (AC.ret (AK.seqR (AK.blkR (AK.seqR ?_)))))
                      refine AK.seqR (AK.blkR (AK.seqR ?_))
                      rw [if_neg c121] at hput
                      exact AK.retV (rs := [.cell 6 _]) (L' := L) (F' := fL [] none 0 0 :: F) Tryz.results9 (.agg (j := 3) rfl rfl rfl .nil) (Sub.drop.trans (Sub.drop.trans (Sub.drop.trans (Sub.drop.trans (Sub.facts (mem1 (by repeat (first | exact mem0 | assumption | refine memS ?_)) (fun x hx => by repeat (first | exact hx | refine List.mem_cons_of_mem _ ?_)))))))) (h3 e2 (subR_error hnb (by omega) hput))
                    · refine AL.nil (AK.seqN (AC.condF rfl (AC.skip (AK.seqN (AC.seq ?_)))))
                      refine AC.region (AL.go (AO.field rfl rfl ?_))
                      refine AL.go (AO.loadB rfl rfl ?_)
                      refine AL.go (AO.assign rfl rfl (AL.nil (AK.seqN (AC.region (AL.go (AO.move rfl rfl (AL.go (AO.field rfl rfl ?_))))))))
                      refine AL.go (AO.loadB rfl rfl ?_)
                      refine AL.go (AO.buildSlice rfl rfl rfl rfl rfl (fun b130 => ?_))
                      refine AL.go (AO.append (i := 2) (enc := eI) (lst := ins) [i2] rfl rfl rfl rfl (.val .nil) rfl rfl (fun _ => rfl) (by simp only [maxLen]; omega) (by omega) (fun a131 k131 z131 => ?_))
                      simp only [List.set_cons_zero, List.set_cons_succ]
                      refine AL.go (AO.assign rfl rfl (AL.nil (AK.blkN (AK.seqN (AC.region (AL.go (AO.add rfl rfl rfl (by omega) (by omega) ?_)))))))
                      refine AL.go (AO.move rfl rfl (AL.nil ?_))
                      rw [if_pos c121] at hput
                      obtain ⟨hr2, hp2, hi2, hi3⟩ := add_pre hso.right hP c121
                      exact AK.next (q + 1, (o2, ins ++ [i2]), (a131, k131, z131), (a118, k118, c118)) ⟨by simp only; omega, hput, hso.step hr2 hp2 ⟨hi2, hi3⟩⟩ (by simp only; omega) (by repeat (first | exact SubR.nil | refine SubR.cons rfl ?_)) (Sub.drop.trans (Sub.drop.trans (Sub.facts (mem1 (by repeat (first | exact mem0 | assumption | refine memS ?_)) (fun x hx => by repeat (first | exact hx | refine List.mem_cons_of_mem _ ?_))))))
                · refine AL.nil (AK.seqN (AC.condF rfl (AC.skip (AK.seqN (AC.seq ?_)))))
                  refine AC.region (AL.go (AO.move rfl rfl ?_))
                  refine AL.go (AO.loadBA rfl rfl ?_)
                  refine AL.go (AO.call rfl rfl (radd_c out (by omega) (mapK ins l[q]) htok (show fL out aO kO cO ∈ _ from (by repeat (first | exact mem0 | assumption | refine memS ?_))) (show fW (mapK ins l[q]) _ _ _ ∈ _ from (by repeat (first | exact mem0 | assumption | refine memS ?_))) (show fK (mapK ins l[q]) _ _ _ ∈ _ from (by repeat (first | exact mem0 | assumption | refine memS ?_))) (fun o2 i2 e2 a118 k118 c118 hP => ?_)))
                  rw [put_plain (t := mapK ins l[q]) hso.right c108 hP] at hput
                  refine AL.go (AO.alloc rfl (fun b18 => ?_))
                  refine AL.go (AO.storeBA rfl rfl rfl rfl ?_)
                  refine AL.nil (AK.seqN (AC.seq (AC.seq (AC.region (AL.go (AO.field rfl rfl ?_))))))
                  refine AL.go (AO.loadB rfl rfl ?_)
                  refine AL.go (AO.neq rfl rfl rfl (fun c121 => ?_) (fun c121 => ?_))
                  · refine AL.nil (AK.seqN (AC.condT rfl (AC.seq (AC.region (AL.go (AO.field rfl rfl ?_))))))
                    refine AL.go (AO.loadB rfl rfl ?_)
                    refine AL.go (AO.build rfl rfl rfl ?_)
                    refine AL.go (AO.storeBA rfl rfl rfl rfl ?_)
                    refine AL.nil (AK.seqN (AC.ret (AK.seqR (AK.blkR (AK.seqR ?_)))))
                    refine AK.seqR (AK.blkR (AK.seqR ?_))
                    rw [if_neg c121] at hput
                    exact AK.retV (rs := [.cell 6 _]) (L' := L) (F' := fL [] none 0 0 :: F) Tryz.results9 (.agg (j := 3) rfl rfl rfl .nil) (Sub.drop.trans (Sub.drop.trans (Sub.drop.trans (Sub.drop.trans (Sub.facts (mem1 (by repeat (first | exact mem0 | assumption | refine memS ?_)) (fun x hx => by repeat (first | exact hx | refine List.mem_cons_of_mem _ ?_)))))))) (h3 e2 (subR_error hnb (by omega) hput))
                  · refine AL.nil (AK.seqN (AC.condF rfl (AC.skip (AK.seqN (AC.seq ?_)))))
                    refine AC.region (AL.go (AO.field rfl rfl ?_))
                    refine AL.go (AO.loadB rfl rfl ?_)
                    refine AL.go (AO.assign rfl rfl (AL.nil (AK.seqN (AC.region (AL.go (AO.move rfl rfl (AL.go (AO.field rfl rfl ?_))))))))
                    refine AL.go (AO.loadB rfl rfl ?_)
                    refine AL.go (AO.buildSlice rfl rfl rfl rfl rfl (fun b130 => ?_))
                    refine AL.go (AO.append (i := 2) (enc := eI) (lst := ins) [i2] rfl rfl rfl rfl (.val .nil) rfl rfl (fun _ => rfl) (by simp only [maxLen]; omega) (by omega) (fun a131 k131 z131 => ?_))
                    simp only [List.set_cons_zero, List.set_cons_succ]
                    refine AL.go (AO.assign rfl rfl (AL.nil (AK.blkN (AK.seqN (AC.region (AL.go (AO.add rfl rfl rfl (by omega) (by omega) ?_)))))))
                    refine AL.go (AO.move rfl rfl (AL.nil ?_))
                    rw [if_pos c121] at hput
                    obtain ⟨hr2, hp2, hi2, hi3⟩ := add_pre hso.right hP c121
                    exact AK.next (q + 1, (o2, ins ++ [i2]), (a131, k131, z131), (a118, k118, c118)) ⟨by simp only; omega, hput, hso.step hr2 hp2 ⟨hi2, hi3⟩⟩ (by simp only; omega) (by repeat (first | exact SubR.nil | refine SubR.cons rfl ?_)) (Sub.drop.trans (Sub.drop.trans (Sub.facts (mem1 (by repeat (first | exact mem0 | assumption | refine memS ?_)) (fun x hx => by repeat (first | exact hx | refine List.mem_cons_of_mem _ ?_))))))
        · refine AL.go (AO.not rfl rfl (AL.go (AO.move rfl rfl (AL.no rfl rfl rfl rfl (AL.no rfl rfl rfl rfl (AL.no rfl rfl rfl rfl (AL.no rfl rfl rfl rfl ?_)))))))
          refine AL.no rfl rfl rfl rfl (AL.go (AO.pickT rfl rfl rfl (AL.nil (AK.seqN (AC.condT rfl (AC.seq ?_))))))
          refine AC.region (AL.go (AO.move rfl rfl (AL.go (AO.move rfl rfl ?_))))
          refine AL.go (AO.buildSlice rfl rfl rfl rfl rfl (fun b75 => ?_))
          refine AL.go (AO.append (i := 1) (enc := eI) (lst := ins) [(q : Int)] rfl rfl rfl rfl (.val .nil) rfl rfl (fun _ => rfl) (by simp only [maxLen]; omega) (by omega) (fun a76 k76 z76 => ?_))
          simp only [List.set_cons_zero, List.set_cons_succ]
          refine AL.go (AO.assign rfl rfl (AL.nil (AK.seqN (AC.exit (AK.seqX (AK.blkX ?_))))))
          refine AK.seqN (AC.region (AL.go (AO.add rfl rfl rfl (by omega) (by omega) (AL.go (AO.move rfl rfl (AL.nil ?_))))))
          exact AK.next (q + 1, (out, ins ++ [(q : Int)]), (a76, k76, z76), (aO, kO, cO)) ⟨by simp only; omega, sub_out hs (.inl hM), hso.step hso.right List.prefix_rfl (by simp only; omega)⟩ (by simp only; omega) (by repeat (first | exact SubR.nil | refine SubR.cons rfl ?_)) (Sub.drop.trans (Sub.facts (mem1 (by repeat (first | exact mem0 | assumption | refine memS ?_)) (fun x hx => by repeat (first | exact hx | refine List.mem_cons_of_mem _ ?_)))))
      · refine AL.nil (AK.seqN (AC.seq (AC.condF rfl (AC.exit (AK.seqX ?_)))))
        refine AK.seqX (AK.blkX (AK.seqN (AC.seq (AC.region (AL.go (AO.move rfl rfl ?_))))))
        refine AL.go (AO.move rfl rfl (AL.go (AO.move rfl rfl ?_)))
        have hq9 : q = n + 1 := by omega
        subst hq9
        have hil := hso.len
        refine AL.go (AO.indexAddrO (i := 0) (q := n) rfl rfl rfl rfl rfl (by rw [List.length_map]; omega) (fun bo ho => ?_))
        subst ho
        refine AL.go (AO.loadO (i := 0) (q := n) rfl rfl rfl rfl (eI_get (by omega)) ?_)
        refine AL.go (AO.build rfl rfl rfl ?_)
        refine AL.go (AO.storeBA rfl rfl rfl rfl ?_)
        refine AL.nil (AK.seqN (AC.ret ?_))
        exact AK.retV (rs := [.cell 6 _]) (L' := L) (F' := fL out aO kO cO :: F) Tryz.results9 (.agg (j := 1) rfl rfl rfl .nil) (Sub.drop.trans (Sub.drop.trans (Sub.facts (mem1 (by repeat (first | exact mem0 | assumption | refine memS ?_)) (fun x hx => by repeat (first | exact hx | refine List.mem_cons_of_mem _ ?_)))))) (h4 _ _ _ _ _ (subR_ok hnb hs))
end
end Go.Sy
