/- What the statements on substitution cut their arguments to; that the program answers at all: the walks. -/
import Derived.Test.YthbngbiodamndaaDoorSubI
namespace Go.Sy
open Go Go.Proofs Go.RowKit

/-- What the statement cuts a type to. -/
def oneS (t : Ty) : Ty := ⟨t.kind, t.name.take (min t.name.length 50), t.n, t.words.take (min t.words.length 18), t.kids.take (min t.kids.length 18)⟩
def fewS (l : List Ty) (most : Nat) : List Ty := (l.take (min l.length most)).map oneS
/-- What any argument of the type 'api.Type' is, of no great bulk. -/
structure TyUp (t : Ty) : Prop where
  inn : TyIn t
  word : ∀ w ∈ t.words, w.length ≤ 1048576
theorem oneS_ok {t : Ty} (h : TyUp t) : TyOk (oneS t) := by
  refine ⟨h.inn.kind, h.inn.n, by simp [oneS]; omega, by simp [oneS]; omega, ?_, by simp [oneS]; omega, fun k hk => h.inn.kid k (List.mem_of_mem_take hk)⟩
  intro w hw
  exact h.word w (List.mem_of_mem_take hw)
theorem fewS_ok {l : List Ty} {m : Nat} (h : ∀ t ∈ l, TyUp t) : ∀ t ∈ fewS l m, TyOk t := by
  intro t ht
  unfold fewS at ht
  obtain ⟨x, hx, rfl⟩ := List.mem_map.1 ht
  exact oneS_ok (h x (List.mem_of_mem_take hx))
theorem fewS_step {l : List Ty} {q : Nat} (hq : q < l.length) : (l.take q).map oneS ++ [oneS l[q]] = (l.take (q + 1)).map oneS := by
  rw [List.take_succ_eq_append_getElem hq, List.map_append]; rfl
/-- The arena that the statement asks first. -/
def paramT : Ty := ⟨9, [], 0, [], []⟩
def pslT : Ty := ⟨2, [], 0, [], [22]⟩
def aliveL : List Ty := startL ++ [paramT, pslT]

theorem alive_len : aliveL.length = 24 := by decide
theorem param_right : rightP (startL ++ [paramT]) := right_snoc start_right (by decide) ⟨fun k hk => by simp [paramT] at hk, by decide, fun _ => rfl, fun _ _ => rfl, (madeK_9 rfl).2 ⟨by decide, by decide, rfl⟩⟩ (by rw [start_len]; decide)
theorem alive_right : rightP aliveL := by
  have h : aliveL = (startL ++ [paramT]) ++ [pslT] := by unfold aliveL; simp
  rw [h]
  refine right_snoc param_right (by decide) ⟨fun k hk => ?_, by decide, fun _ => rfl, fun _ _ => rfl, Or.inr (Or.inl ⟨rfl, rfl, rfl⟩)⟩ (by decide)
  have : k = 22 := by simpa [pslT] using hk
  rw [this]; decide
theorem alive_low : ∀ q, q ≤ 22 → subN aliveL [2] (asksL (aliveL.take 24)) (partsL aliveL 23) q = .ok (aliveL, (List.range q).map Int.ofNat)
  | 0, _ => rfl
  | q + 1, h => by
    have hM : ∀ q, q < 22 → (partsL aliveL 23).getD q false = false := by decide
    rw [sub_out (alive_low q (by omega)) (.inl (hM q (by omega))), List.range_succ, List.map_append]; rfl
theorem alive_new : sliceT ∉ aliveL := by decide
theorem alive_made : madeP aliveL sliceT := by
  refine ⟨fun k hk => ?_, by decide, fun _ => rfl, fun _ _ => rfl, Or.inr (Or.inl ⟨rfl, rfl, rfl⟩)⟩
  have : k = 2 := by simpa [sliceT] using hk
  rw [alive_len]; omega
theorem alive_sub : subR aliveL 23 [2] = .ok (aliveL ++ [sliceT], 24) := by
  have h22 := alive_low 22 (by omega)
  have h23 := sub_param (q := 22) h22 (by decide) (by decide) (by decide) (by decide)
  have h24 := sub_put (q := 23) h23 (by decide) (by decide) (by decide) (by decide)
  have hP : AddP aliveL (mapK ((List.range 22).map Int.ofNat ++ [([2] : List Int).getD (aliveL[22]'(by decide)).n.toNat 0]) (aliveL[23]'(by decide))) (aliveL ++ [sliceT]) 24 0 :=
    Or.inr ⟨alive_new, Or.inr (Or.inr ⟨alive_made, by decide, rfl, rfl, rfl⟩)⟩
  rw [put_plain alive_right (by decide) hP, if_pos rfl] at h24
  have hb : ¬ badArgs aliveL 23 [2] := not_bad (by decide) (by decide)
  rw [subR_ok hb h24]
  rfl
theorem alive_text : ∀ t ∈ aliveL ++ [sliceT], TyOk t := right_ok (right_snoc alive_right alive_new alive_made (by decide))
theorem ok_inj {a b : List Ty} {i j : Int} {x : Except Int (List Ty × Int)} (h1 : x = .ok (a, i)) (h2 : x = .ok (b, j)) : a = b ∧ i = j := by
  rw [h1] at h2; injection h2 with h; injection h with h h'; exact ⟨h, h'⟩
theorem err_inj {i j : Int} {x : Except Int (List Ty × Int)} (h1 : x = .error i) (h2 : x = .error j) : i = j := by
  rw [h1] at h2; injection h2
theorem err_ok {i j : Int} {b : List Ty} {x : Except Int (List Ty × Int)} (h1 : x = .error i) (h2 : x = .ok (b, j)) : False := by
  rw [h1] at h2; cases h2
def fewI (l : List Int) (m : Nat) : List Int := l.take (min l.length m)

attribute [local irreducible] AC AT AO AK AH ACalls Sub Res.cells Res.obj Res.nix Res.own Res.map Exit.then Exit.inBlock bodyPost Code.wp Next Post Kont
section
variable {W0 : World} {L : List Res} {F : List Fact} {R : Value → List Res → List Fact → Prop}
set_option maxRecDepth 100000
set_option maxHeartbeats 16000000
theorem rstartO_c (h : ∀ a k c, R (.slice a k c) (Res.own (.slice a k c) 31 5 (startL.map eTy) :: L) F) : ACalls Tryd.prog W0 11 #[] L F R := by
  refine ACalls.body Tryd.func11 rfl Tryd.ntmps11 rfl ?_
  refine AC.seq (AC.region (AL.go (AO.assign rfl rfl (AL.nil (AK.seqN (AC.seq ?_))))))
  refine AC.region ?_
  refine AL.go (AO.buildSlice0 rfl (fun b4 => ?_))
  refine AT.sub (Sub.trans (Sub.toOwn (i := 0) (k := 0) (sz := 5) (enc := eTy) [] rfl .nil (fun _ => rfl) rfl (by decide)) (Sub.nilF (sz := 1))) ?_
  refine AL.go (AO.assign rfl rfl (AL.nil (AK.seqN (AC.seq (AC.seq (AC.region ?_))))))
  refine AL.go (AO.call rfl rfl (rnames_c (fun b5 => ?_)))
  refine AL.go (AO.len rfl rfl (fun hl6 => ?_) (hm := by repeat (first | exact mem0 | assumption | refine memS ?_)))
  refine AL.go (AO.move rfl rfl (AL.nil (AK.seqN (AC.block ?_))))
  refine AC.loop (fun (i : Nat × Option Addr × Nat × Nat) => i.1 ≤ startNames.length) (fun i => [(1, .slice i.2.1 i.2.2.1 i.2.2.2), (5, .slice (some ⟨b5, 0, none⟩) 20 20), (6, .int .i64 startNames.length), (7, .int .i64 (i.1 : Int))]) (fun i => Res.own (.slice i.2.1 i.2.2.1 i.2.2.2) 31 5 (((startNames.take i.1).map basicT).map eTy) :: L) (fun _ => _) (fun i => startNames.length - i.1) (0, some ⟨b4, 0, none⟩, 0, 0) (by simp) (by repeat (first | exact SubR.nil | refine SubR.cons rfl ?_)) (Sub.refl _ _) ?_
  rintro ⟨q, a1, k1, c1⟩ hq
  simp only at hq ⊢
  refine AC.seq (AC.region ?_)
  refine AL.go (AO.lss rfl rfl rfl (fun c8 => ?_) (fun c8 => ?_))
  · refine AL.nil (AK.seqN (AC.seq (AC.condT rfl (AC.skip (AK.seqN ?_)))))
    refine AC.seq (AC.block (AC.seq (AC.region ?_)))
    have hql : q < startNames.length := by omega
    have hnl := names_len
    have htl : ((startNames.take q).map basicT).length = q := by simp; omega
    refine AL.go (AO.indexAddr rfl rfl rfl rfl (by repeat (first | exact mem0 | assumption | refine memS ?_)) hql (fun _ _ => ?_))
    refine AL.go (AO.loadF rfl rfl ?_)
    intros
    refine AL.go (AO.assign rfl rfl (AL.nil (AK.seqN (AC.region (AL.go (AO.move rfl rfl (AL.go (AO.move rfl rfl ?_))))))))
    refine AL.go (AO.build rfl rfl rfl ?_)
    refine AL.go (AO.buildSlice rfl rfl rfl rfl rfl (fun b13 => ?_))
    refine AL.go (AO.append (i := 0) (enc := eTy) (lst := (startNames.take q).map basicT) [basicT startNames[q]] rfl rfl rfl rfl (.val (.val (.val (.slc (.slc .nil (by repeat (first | exact mem0 | assumption | refine memS ?_))) (by repeat (first | exact mem0 | assumption | refine memS ?_)))))) rfl rfl (fun _ => rfl) (by rw [htl]; simp [maxLen]; omega) (by rw [htl]; omega) (fun a14 k14 c14 => ?_))
    rw [basic_step hql]
    refine AL.go (AO.assign rfl rfl (AL.nil (AK.blkN (AK.seqN (AC.region (AL.go (AO.add rfl rfl rfl (by omega) (by omega) ?_)))))))
    refine AL.go (AO.move rfl rfl (AL.nil ?_))
    refine AK.next (q + 1, a14, k14, c14) (by simp only; omega) (by simp only; omega) (by repeat (first | exact SubR.nil | refine SubR.cons rfl ?_)) (by repeat (first | exact Sub.refl _ _ | refine Sub.trans Sub.dropF ?_))
  · refine AL.nil (AK.seqN (AC.seq (AC.condF rfl (AC.exit (AK.seqX ?_)))))
    refine AK.seqX (AK.blkX (AK.seqN (AC.seq (AC.region ?_))))
    refine AL.go (AO.move rfl rfl ?_)
    have hall : startNames.take q = startNames := List.take_of_length_le (by omega)
    rw [hall]
    refine AL.go (AO.build rfl rfl rfl ?_)
    refine AL.go (AO.build rfl rfl rfl ?_)
    refine AL.go (AO.buildSlice rfl rfl rfl rfl rfl (fun b19 => ?_))
    refine AL.go (AO.append (i := 0) (enc := eTy) (lst := startNames.map basicT) [⟨7, [], 0, [], []⟩, ⟨7, [], 1, [], []⟩] rfl rfl rfl rfl (.val (.val (.val (.slc (.slc (.val (.val (.val (.slc (.slc .nil (by repeat (first | exact mem0 | assumption | refine memS ?_))) (by repeat (first | exact mem0 | assumption | refine memS ?_)))))) (by repeat (first | exact mem0 | assumption | refine memS ?_))) (by repeat (first | exact mem0 | assumption | refine memS ?_)))))) rfl rfl (fun _ => rfl) (by decide) (by decide) (fun a20 k20 c20 => ?_))
    refine AL.go (AO.assign rfl rfl (AL.nil (AK.seqN (AC.seq (AC.region (AL.go (AO.move rfl rfl ?_)))))))
    refine AL.go (AO.assign rfl rfl (AL.nil (AK.seqN (AC.ret ?_))))
    exact AK.ret (L' := Res.own (.slice a20 k20 c20) 31 5 (startL.map eTy) :: L) (F' := F) Tryd.results11 rfl (by repeat (first | exact Sub.refl _ _ | refine Sub.trans Sub.dropF ?_)) (h _ _ _)
theorem sfew_c (l : List Ty) (most : Nat) (hm : most ≤ 402) {a : Option Addr} {k c : Nat} (m1 : fL l a k c ∈ F) (h : ∀ a k c, R (.slice a k c) L (fL (fewS l most) a k c :: F)) : ACalls Tryd.prog W0 20 #[.slice a k c, .int .i64 (most : Int)] L F R := by
  refine ACalls.body Tryd.func20 rfl Tryd.ntmps20 rfl ?_
  refine AC.seq (AC.region (AL.go (AO.assign rfl rfl (AL.nil (AK.seqN (AC.seq ?_))))))
  refine AC.region (AL.go (AO.assign rfl rfl (AL.nil (AK.seqN (AC.seq (AC.seq ?_))))))
  refine AC.region (AL.go (AO.move rfl rfl (AL.go (AO.move rfl rfl ?_))))
  refine AL.go (AO.len rfl rfl (fun hl10 => ?_) (hm := by repeat (first | exact mem0 | assumption | refine memS ?_)))
  refine AL.go (AO.move rfl rfl (AL.go (AO.min rfl rfl rfl ?_)))
  refine AL.go (AO.sliceH (j' := min l.length most) rfl rfl rfl (by omega) (enc := eTy) (lst := l) (by repeat (first | exact mem0 | assumption | refine memS ?_)) (by omega) (fun a13 k13 c13 => ?_))
  refine AL.go (AO.len rfl rfl (fun hl14 => ?_) (hm := by repeat (first | exact mem0 | assumption | refine memS ?_)))
  refine AL.go (AO.move rfl rfl (AL.nil (AK.seqN (AC.block ?_))))
  have hfew : fewS l most = (l.take (min l.length most)).map oneS := rfl
  have hwl : (l.take (min l.length most)).length ≤ 402 := by simp only [List.length_take]; omega
  generalize l.take (min l.length most) = l' at hwl hfew ⊢
  refine AC.loop (fun (i : Nat × Option Addr × Nat × Nat) => i.1 ≤ l'.length) (fun i => [(5, .slice i.2.1 i.2.2.1 i.2.2.2), (13, .slice a13 k13 c13), (14, .int .i64 l'.length), (15, .int .i64 (i.1 : Int))]) (fun i => Res.own (.slice i.2.1 i.2.2.1 i.2.2.2) 31 5 (((l'.take i.1).map oneS).map eTy) :: _) (fun _ => fL l' a13 k13 c13 :: F) (fun i => l'.length - i.1) (0, none, 0, 0) (by simp) (by repeat (first | exact SubR.nil | refine SubR.cons rfl ?_)) Sub.ownNil ?_
  rintro ⟨q, a3, k3, c3⟩ hq
  simp only at hq ⊢
  refine AC.seq (AC.region ?_)
  refine AL.go (AO.lss rfl rfl rfl (fun c16 => ?_) (fun c16 => ?_))
  · refine AL.nil (AK.seqN (AC.seq (AC.condT rfl (AC.skip (AK.seqN ?_)))))
    refine AC.seq (AC.block (AC.seq (AC.region ?_)))
    have hql : q < l'.length := by omega
    refine AL.go (AO.indexAddr rfl rfl rfl rfl (by repeat (first | exact mem0 | assumption | refine memS ?_)) hql (fun _ _ => ?_))
    refine AL.go (AO.loadFA rfl rfl ?_)
    intro a18 k18 z18 d18 e18 f18
    refine AL.go (AO.alloc rfl (fun b7 => ?_))
    refine AL.go (AO.storeBA rfl rfl rfl rfl ?_)
    refine AL.nil (AK.seqN (AC.seq ?_))
    refine AC.draw (fun i => Nat.beq i 22 || Nat.beq i 24 || Nat.beq i 26) [(b7, _, _)] (by repeat (first | exact BxIn.nil | refine BxIn.cons (by repeat (first | exact has0 | assumption | apply hasS)) ?_)) rfl (fun hx hX => ?_)
    have hk1 := (len_of_fact (hX (fW l'[q] a18 k18 z18) (by repeat (first | exact mem0 | assumption | refine memS ?_)))).1
    have hk2 := (len_of_fact (hX (fK l'[q] d18 e18 f18) (by repeat (first | exact mem0 | assumption | refine memS ?_)))).1
    have hc1 := (len_of_fact (hX (fW l'[q] a18 k18 z18) (by repeat (first | exact mem0 | assumption | refine memS ?_)))).2
    have hc2 := (len_of_fact (hX (fK l'[q] d18 e18 f18) (by repeat (first | exact mem0 | assumption | refine memS ?_)))).2
    subst hk1 hk2
    refine AH.weak (Sub.part (enc := eS) (lst := l'[q].words) 0 (min l'[q].words.length 18) z18 (show fW l'[q] _ _ z18 ∈ _ from (by repeat (first | exact mem0 | assumption | refine memS ?_))) (by omega) (by omega) (by omega) (by omega)) ?_
    refine AH.weak (Sub.part (enc := eI) (lst := l'[q].kids) 0 (min l'[q].kids.length 18) f18 (show fK l'[q] _ _ f18 ∈ _ from (by repeat (first | exact mem0 | assumption | refine memS ?_))) (by omega) (by omega) (by omega) (by omega)) ?_
    refine AH.takeW (i := 0) rfl (Y.field rfl) (by kernel_rfl) rfl rfl ?_
    refine AH.takeS (i := 1) rfl (Y.loadB rfl (by repeat (first | exact List.Mem.head _ | refine List.Mem.tail _ ?_)) (by rfl)) (by kernel_rfl) (by kernel_rfl) rfl rfl rfl ?_
    refine AH.takeW (i := 2) rfl (Y.field rfl) (by kernel_rfl) rfl rfl ?_
    refine AH.takeS (i := 3) rfl (Y.loadB rfl (by repeat (first | exact List.Mem.head _ | refine List.Mem.tail _ ?_)) (by rfl)) (by kernel_rfl) (by kernel_rfl) rfl rfl rfl ?_
    refine AH.takeW (i := 4) rfl (Y.lenS rfl) (by kernel_rfl) rfl rfl ?_
    refine AH.takeW (i := 5) rfl (Y.min rfl rfl) (by kernel_rfl) rfl rfl ?_
    refine AH.takeW (i := 6) rfl (Y.sliceSH (j' := min l'[q].name.length 50) rfl rfl (by omega) (by omega)) (by kernel_rfl) rfl rfl ?_
    refine AH.takeW (i := 7) rfl (Y.field rfl) (by kernel_rfl) rfl rfl ?_
    refine AH.takeS (i := 8) rfl (Y.loadB rfl (by repeat (first | exact List.Mem.head _ | refine List.Mem.tail _ ?_)) (by rfl)) (by kernel_rfl) (by kernel_rfl) rfl rfl rfl ?_
    refine AH.takeW (i := 9) rfl (Y.field rfl) (by kernel_rfl) rfl rfl ?_
    refine AH.takeS (i := 10) rfl (Y.loadB rfl (by repeat (first | exact List.Mem.head _ | refine List.Mem.tail _ ?_)) (by rfl)) (by kernel_rfl) (by kernel_rfl) rfl rfl rfl ?_
    refine AH.takeW (i := 11) rfl (Y.lenV rfl) (by kernel_rfl) rfl rfl ?_
    refine AH.takeW (i := 12) rfl (Y.min rfl rfl) (by kernel_rfl) rfl rfl ?_
    refine AH.takeW (i := 13) rfl (Y.sliceH (j' := min l'[q].words.length 18) rfl rfl (by omega) (by omega)) (by kernel_rfl) rfl rfl ?_
    refine AH.takeW (i := 14) rfl (Y.field rfl) (by kernel_rfl) rfl rfl ?_
    refine AH.takeS (i := 15) rfl (Y.loadB rfl (by repeat (first | exact List.Mem.head _ | refine List.Mem.tail _ ?_)) (by rfl)) (by kernel_rfl) (by kernel_rfl) rfl rfl rfl ?_
    refine AH.takeW (i := 16) rfl (Y.field rfl) (by kernel_rfl) rfl rfl ?_
    refine AH.takeS (i := 17) rfl (Y.loadB rfl (by repeat (first | exact List.Mem.head _ | refine List.Mem.tail _ ?_)) (by rfl)) (by kernel_rfl) (by kernel_rfl) rfl rfl rfl ?_
    refine AH.takeW (i := 18) rfl (Y.lenV rfl) (by kernel_rfl) rfl rfl ?_
    refine AH.takeW (i := 19) rfl (Y.min rfl rfl) (by kernel_rfl) rfl rfl ?_
    refine AH.takeW (i := 20) rfl (Y.sliceH (j' := min l'[q].kids.length 18) rfl rfl (by omega) (by omega)) (by kernel_rfl) rfl rfl ?_
    refine AH.takeW (i := 21) rfl (Y.field rfl) (by kernel_rfl) rfl rfl ?_
    refine AH.one (i := 22) (by kernel_rfl) rfl rfl (fun _ => ?_)
    refine AO.storeB rfl rfl rfl ?_
    refine AT.spoilt rfl ?_
    refine AH.takeW (i := 23) rfl (Y.field rfl) (by kernel_rfl) rfl rfl ?_
    refine AH.one (i := 24) (by kernel_rfl) rfl rfl (fun _ => ?_)
    refine AO.storeB rfl rfl rfl ?_
    refine AT.spoilt rfl ?_
    refine AH.takeW (i := 25) rfl (Y.field rfl) (by kernel_rfl) rfl rfl ?_
    refine AH.one (i := 26) (by kernel_rfl) rfl rfl (fun _ => ?_)
    refine AO.storeB rfl rfl rfl ?_
    refine AT.spoilt rfl ?_
    refine AH.done (by kernel_rfl) ?_
    refine AK.seqN (AC.region (AL.go (AO.move rfl rfl ?_)))
    refine AL.go (AO.loadBA rfl rfl ?_)
    refine AL.go (AO.buildSlice rfl rfl rfl rfl rfl (fun b45 => ?_))
    have htl : ((l'.take q).map oneS).length = q := by rw [List.length_map, List.length_take]; omega
    refine AL.go (AO.append (i := 1) (enc := eTy) (lst := (l'.take q).map oneS) [oneS l'[q]] rfl rfl rfl rfl (.val (.val (.val (.slc (.slc .nil (by repeat (first | exact mem0 | assumption | refine memS ?_))) (by repeat (first | exact mem0 | assumption | refine memS ?_)))))) rfl rfl (fun _ => rfl) (by rw [htl]; simp only [maxLen]; omega) (by rw [htl]; omega) (fun a23 k23 c23 => ?_))
    rw [fewS_step hql]
    refine AL.go (AO.assign rfl rfl (AL.nil (AK.blkN (AK.seqN (AC.region (AL.go (AO.add rfl rfl rfl (by omega) (by omega) ?_)))))))
    refine AL.go (AO.move rfl rfl (AL.nil ?_))
    refine AK.next (q + 1, a23, k23, c23) (by simp only; omega) (by simp only; omega) (by repeat (first | exact SubR.nil | refine SubR.cons rfl ?_)) (Sub.drop.trans (by repeat (first | exact Sub.refl _ _ | refine Sub.trans Sub.dropF ?_)))
  · refine AL.nil (AK.seqN (AC.seq (AC.condF rfl (AC.exit (AK.seqX ?_)))))
    refine AK.seqX (AK.blkX (AK.seqN (AC.seq (AC.region ?_))))
    refine AL.go (AO.move rfl rfl ?_)
    have hall : l'.take q = l' := List.take_of_length_le (by omega)
    rw [hall]
    refine AT.sub (Sub.commit (i := 0) rfl) ?_
    refine AL.go (AO.assign rfl rfl (AL.nil (AK.seqN (AC.ret ?_))))
    rw [hfew] at h
    exact AK.ret (L' := L) (F' := fL (l'.map oneS) a3 k3 c3 :: F) Tryd.results20 rfl (Sub.drop.trans (Sub.headF (fun x hx => by repeat (first | exact hx | refine List.mem_cons_of_mem _ ?_)))) (h _ _ _)
theorem substNo_c (g : Glob W0) (l : List Ty) (hok : ∀ t ∈ l, TyOk t) (i : Int) {a a2 : Option Addr} {k c k2 c2 : Nat} (mL : fL l a k c ∈ F) (h1 : ¬ rightP l → R (.tuple #[.slice none 0 0, .int .i64 0, .int .i64 1]) L F) (h2 : rightP l → R (.tuple #[.slice none 0 0, .int .i64 0, .int .i64 8]) L F) (hn : ¬(rightP l ∧ 0 ≤ i ∧ i < l.length)) :
    ACalls Tryd.prog W0 23 #[.slice a k c, .int .i64 i, .slice a2 k2 c2] L F R := by
  by_cases hr : rightP l
  · skip
    refine ACalls.body Tryd.func23 rfl Tryd.ntmps23 rfl ?_
    refine AC.seq (AC.region (AL.go (AO.box rfl rfl (fun b3 => ?_))))
    refine AL.go (AO.assign rfl rfl (AL.go (AO.assign rfl rfl (AL.go (AO.assign rfl rfl (AL.nil (AK.seqN (AC.seq ?_))))))))
    refine AC.seq (AC.region ?_)
    refine AL.go (AO.loadB rfl rfl ?_)
    refine AL.go (AO.move rfl rfl ?_)
    refine AL.go (AO.call rfl rfl (there_c g l hok i (by repeat (first | exact mem0 | assumption | refine memS ?_)) (fun c => absurd hr c) (fun _ _ => ?_) (fun _ c => absurd ⟨hr, c⟩ hn)))
    refine AL.go (AO.assign rfl rfl (AL.nil (AK.seqN (AC.seq (AC.region (AL.go (AO.move rfl rfl ?_)))))))
    refine AL.go (AO.neq rfl rfl rfl (fun _ => ?_) (fun c28 => absurd c28 (by decide)))
    refine AL.nil (AK.seqN (AC.condT rfl (AC.seq (AC.region (AL.go (AO.move rfl rfl ?_))))))
    refine AL.go (AO.assign rfl rfl (AL.go (AO.assign rfl rfl (AL.go (AO.assign rfl rfl (AL.nil (AK.seqN (AC.ret ?_))))))))
    refine AK.seqR ?_
    exact AK.ret3 (L' := L) (F' := F) Tryd.results23 rfl rfl rfl (by repeat (first | exact Sub.refl _ _ | refine Sub.trans Sub.drop ?_ | refine Sub.trans Sub.dropF ?_)) (h2 hr)
  · skip
    refine ACalls.body Tryd.func23 rfl Tryd.ntmps23 rfl ?_
    refine AC.seq (AC.region (AL.go (AO.box rfl rfl (fun b3 => ?_))))
    refine AL.go (AO.assign rfl rfl (AL.go (AO.assign rfl rfl (AL.go (AO.assign rfl rfl (AL.nil (AK.seqN (AC.seq ?_))))))))
    refine AC.seq (AC.region ?_)
    refine AL.go (AO.loadB rfl rfl ?_)
    refine AL.go (AO.move rfl rfl ?_)
    refine AL.go (AO.call rfl rfl (there_c g l hok i (by repeat (first | exact mem0 | assumption | refine memS ?_)) (fun _ => ?_) (fun c _ => absurd c hr) (fun c _ => absurd c hr)))
    refine AL.go (AO.assign rfl rfl (AL.nil (AK.seqN (AC.seq (AC.region (AL.go (AO.move rfl rfl ?_)))))))
    refine AL.go (AO.neq rfl rfl rfl (fun _ => ?_) (fun c28 => absurd c28 (by decide)))
    refine AL.nil (AK.seqN (AC.condT rfl (AC.seq (AC.region (AL.go (AO.move rfl rfl ?_))))))
    refine AL.go (AO.assign rfl rfl (AL.go (AO.assign rfl rfl (AL.go (AO.assign rfl rfl (AL.nil (AK.seqN (AC.ret ?_))))))))
    refine AK.seqR ?_
    exact AK.ret3 (L' := L) (F' := F) Tryd.results23 rfl rfl rfl (by repeat (first | exact Sub.refl _ _ | refine Sub.trans Sub.drop ?_ | refine Sub.trans Sub.dropF ?_)) (h1 hr)
theorem salive_c (g : Glob W0) (h : R (.bool true) L F) : ACalls Tryd.prog W0 22 #[] L F R := by
  refine ACalls.weak ((Sub.nilF (sz := 1)).trans (Sub.nilF (sz := 5))) ?_
  refine ACalls.body Tryd.func22 rfl Tryd.ntmps22 rfl ?_
  refine AC.seq (AC.region (AL.go (AO.assign rfl rfl (AL.nil (AK.seqN (AC.seq ?_))))))
  refine AC.region ?_
  refine AL.go (AO.call rfl rfl (rstartO_c (fun a7 k7 c7 => ?_)))
  refine AL.go (AO.build rfl rfl rfl ?_)
  refine AL.go (AO.buildSlice rfl rfl rfl rfl rfl (fun b9 => ?_))
  refine AT.sub (Sub.trans (Sub.lit (i := 0) (enc := eI) (sz := 1) [22] rfl (.val .nil) (fun _ => rfl) rfl (by decide)) Sub.drop) ?_
  refine AL.go (AO.build rfl rfl rfl ?_)
  refine AL.go (AO.buildSlice rfl rfl rfl rfl rfl (fun b11 => ?_))
  refine AL.go (AO.append (i := 0) (enc := eTy) (lst := startL) [paramT, pslT] rfl rfl rfl rfl (.val (.val (.val (.slc (.slc (.val (.val (.val (.slc (.slc .nil (by repeat (first | exact mem0 | assumption | refine memS ?_))) (by repeat (first | exact mem0 | assumption | refine memS ?_)))))) (by repeat (first | exact mem0 | assumption | refine memS ?_))) (by repeat (first | exact mem0 | assumption | refine memS ?_)))))) rfl rfl (fun _ => rfl) (by decide) (by decide) (fun a12 k12 c12 => ?_))
  refine AT.sub ((Sub.commit (i := 0) rfl).trans Sub.drop) ?_
  refine AL.go (AO.assign rfl rfl (AL.nil (AK.seqN (AC.seq (AC.region (AL.go (AO.move rfl rfl ?_)))))))
  refine AL.go (AO.buildSlice rfl rfl rfl rfl rfl (fun b15 => ?_))
  refine AT.sub (Sub.trans (Sub.lit (i := 0) (enc := eI) (sz := 1) [2] rfl (.val .nil) (fun _ => rfl) rfl (by decide)) Sub.drop) ?_
  refine AL.go (AO.call rfl rfl (substIn_c g aliveL (right_ok alive_right) alive_right 23 (by decide) [2] (by decide) (show fL aliveL _ _ _ ∈ _ from (by repeat (first | exact mem0 | assumption | refine memS ?_))) (show fI [2] _ _ _ ∈ _ from (by repeat (first | exact mem0 | assumption | refine memS ?_))) (by repeat (first | exact mem0 | assumption | refine memS ?_)) (fun e he => absurd (err_ok he alive_sub) id) (fun o q a16 k16 c16 hq => ?_)))
  obtain ⟨rfl, rfl⟩ := ok_inj hq alive_sub
  refine AL.go (AO.move rfl rfl (AL.go (AO.extract rfl rfl rfl (AL.go (AO.extract rfl rfl rfl (AL.go (AO.extract rfl rfl rfl (AL.go (AO.assign rfl rfl (AL.go (AO.assign rfl rfl ?_)))))))))))
  refine AL.go (AO.assign rfl rfl (AL.nil (AK.seqN (AC.seq (AC.region (AL.go (AO.move rfl rfl ?_)))))))
  refine AL.go (AO.move rfl rfl ?_)
  refine AL.go (AO.call rfl rfl (ptextS_c g (aliveL ++ [sliceT]) alive_text (right_snoc alive_right alive_new alive_made (by decide)) 24 2 (by decide) rfl (by decide) rfl rfl (by repeat (first | exact mem0 | assumption | refine memS ?_)) ?_))
  refine AL.go (AO.move rfl rfl (AL.go (AO.extract rfl rfl rfl (AL.go (AO.extract rfl rfl rfl (AL.go (AO.assign rfl rfl (AL.go (AO.assign rfl rfl (AL.nil ?_))))))))))
  refine AK.seqN (AC.seq (AC.region (AL.go (AO.move rfl rfl ?_))))
  refine AL.go (AO.eql rfl rfl rfl (fun c27 => ?_) (fun c27 => ?_))
  · refine AL.go (AO.move rfl rfl (AL.yes rfl rfl (AO.move rfl rfl ?_)))
    refine AL.yes rfl rfl (AO.eql rfl rfl rfl (fun c30 => ?_) (fun c30 => ?_))
    · refine AL.go (AO.pickT rfl rfl rfl (AL.go (AO.move rfl rfl (AL.yes rfl rfl (AO.move rfl rfl ?_)))))
      refine AL.yes rfl rfl (AO.eqlS rfl rfl rfl (fun c34 => ?_) (fun c34 => ?_))
      · refine AL.go (AO.pickT rfl rfl rfl (AL.go (AO.assign rfl rfl (AL.nil (AK.seqN (AC.ret ?_))))))
        first | exact AK.ret (L' := L) (F' := F) Tryd.results22 rfl (by repeat (first | exact Sub.refl _ _ | refine Sub.trans Sub.drop ?_ | refine Sub.trans Sub.dropF ?_)) h | exact absurd rfl c27 | exact absurd rfl c30 | exact absurd (by decide) c34
      · refine AL.go (AO.pickT rfl rfl rfl (AL.go (AO.assign rfl rfl (AL.nil (AK.seqN (AC.ret ?_))))))
        first | exact AK.ret (L' := L) (F' := F) Tryd.results22 rfl (by repeat (first | exact Sub.refl _ _ | refine Sub.trans Sub.drop ?_ | refine Sub.trans Sub.dropF ?_)) h | exact absurd rfl c27 | exact absurd rfl c30 | exact absurd (by decide) c34
    · refine AL.go (AO.pickT rfl rfl rfl (AL.go (AO.move rfl rfl (AL.no rfl rfl rfl rfl (AL.no rfl rfl rfl rfl (AL.go (AO.pickF rfl rfl rfl (AL.go (AO.assign rfl rfl ?_)))))))))
      refine AL.nil (AK.seqN (AC.ret ?_))
      first | exact AK.ret (L' := L) (F' := F) Tryd.results22 rfl (by repeat (first | exact Sub.refl _ _ | refine Sub.trans Sub.drop ?_ | refine Sub.trans Sub.dropF ?_)) h | exact absurd rfl c27 | exact absurd rfl c30 | exact absurd (by decide) c34
  · refine AL.go (AO.move rfl rfl (AL.no rfl rfl rfl rfl (AL.no rfl rfl rfl rfl (AL.go (AO.pickF rfl rfl rfl (AL.go (AO.move rfl rfl (AL.no rfl rfl rfl rfl ?_))))))))
    refine AL.no rfl rfl rfl rfl (AL.go (AO.pickF rfl rfl rfl (AL.go (AO.assign rfl rfl (AL.nil (AK.seqN (AC.ret ?_)))))))
    first | exact AK.ret (L' := L) (F' := F) Tryd.results22 rfl (by repeat (first | exact Sub.refl _ _ | refine Sub.trans Sub.drop ?_ | refine Sub.trans Sub.dropF ?_)) h | exact absurd rfl c27 | exact absurd rfl c30 | exact absurd (by decide) c34
end
end Go.Sy
