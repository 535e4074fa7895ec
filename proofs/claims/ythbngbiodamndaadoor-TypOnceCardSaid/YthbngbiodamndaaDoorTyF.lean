/- That the program answers at all; what the statements cut their arguments to: the walks. -/
import Derived.Test.YthbngbiodamndaaDoorTyE
namespace Go.Sy
open Go Go.Proofs Go.RowKit

/-- What a statement cuts a type to. -/
def cut30 (w : List UInt8) : List UInt8 := w.take (min w.length 30)
def oneT (t : Ty) : Ty := ⟨t.kind, t.name.take (min t.name.length 50), t.n, (t.words.take (min t.words.length 18)).map cut30, t.kids.take (min t.kids.length 18)⟩
def fewT (l : List Ty) (most : Nat) : List Ty := (l.take (min l.length most)).map oneT
/-- What any value of the type 'api.Type' is. -/
structure TyIn (t : Ty) : Prop where
  kind : -9223372036854775808 ≤ t.kind ∧ t.kind ≤ 9223372036854775807
  n : -9223372036854775808 ≤ t.n ∧ t.n ≤ 9223372036854775807
  kid : ∀ k ∈ t.kids, -9223372036854775808 ≤ k ∧ k ≤ 9223372036854775807
theorem one_ok {t : Ty} (h : TyIn t) : TyOk (oneT t) := by
  refine ⟨h.kind, h.n, by simp [oneT]; omega, by simp [oneT]; omega, ?_, by simp [oneT]; omega, fun k hk => h.kid k (List.mem_of_mem_take hk)⟩
  intro w hw
  simp only [oneT, List.mem_map] at hw
  obtain ⟨x, _, rfl⟩ := hw
  simp [cut30]; omega
theorem few_tok {l : List Ty} {m : Nat} (h : ∀ t ∈ l, TyIn t) : ∀ t ∈ fewT l m, TyOk t := by
  intro t ht
  unfold fewT at ht
  obtain ⟨x, hx, rfl⟩ := List.mem_map.1 ht
  exact one_ok (h x (List.mem_of_mem_take hx))
theorem few_step {l : List Ty} {q : Nat} (hq : q < l.length) : (l.take q).map oneT ++ [oneT l[q]] = (l.take (q + 1)).map oneT := by
  rw [List.take_succ_eq_append_getElem hq, List.map_append]; rfl
theorem cut_step {l : List (List UInt8)} {q : Nat} (hq : q < l.length) : (l.take q).map cut30 ++ [cut30 l[q]] = (l.take (q + 1)).map cut30 := by
  rw [List.take_succ_eq_append_getElem hq, List.map_append]; rfl
theorem right_snoc {l : List Ty} {t : Ty} (h : rightP l) (hn : t ∉ l) (hm : madeP l t) (hl : l.length < 400) : rightP (l ++ [t]) := by
  refine ⟨by have := h.1; simp; omega, by simp; omega, fun i hi => ?_⟩
  have h22 := h.1
  rcases Nat.lt_or_ge i l.length with k | k
  · have hr := h.2.2 i k
    unfold rowAt at hr ⊢
    rw [List.getElem_append_left k, List.take_append_of_le_length (by omega)]
    exact hr
  · have hil : i = l.length := by simp at hi; omega
    subst hil
    unfold rowAt
    rw [if_neg (by omega), List.getElem_append_right (by omega), List.take_append_of_le_length (by omega), List.take_length]
    simp only [Nat.sub_self, List.getElem_cons_zero]
    exact ⟨hm, hn⟩
/-- The type that the statements ask first. -/
def sliceT : Ty := ⟨2, [], 0, [], [2]⟩
theorem start_right : rightP startL := by
  have hl := start_len
  refine ⟨by omega, by omega, fun i hi => ?_⟩
  unfold rowAt
  rw [if_pos (by omega), start_get hi]
theorem slice_new : sliceT ∉ startL := by decide
theorem slice_made : madeP startL sliceT := by
  refine ⟨fun k hk => ?_, by decide, fun _ => rfl, fun _ _ => rfl, Or.inr (Or.inl ⟨rfl, rfl, rfl⟩)⟩
  have : k = 2 := by simpa [sliceT] using hk
  rw [start_len]; omega
theorem slice_right : rightP (startL ++ [sliceT]) := right_snoc start_right slice_new slice_made (by rw [start_len]; decide)
theorem slice_ok : TyOk sliceT := ⟨by decide, by decide, by decide, by decide, by decide, by decide, by decide⟩
theorem start_oks : ∀ t ∈ startL ++ [sliceT], TyOk t := fun t ht => by
  rcases List.mem_append.1 ht with h | h
  · exact start_ok t h
  · have : t = sliceT := by simpa using h
    subst this; exact slice_ok

attribute [local irreducible] AC AT AO AK AH ACalls Sub Res.cells Res.obj Res.nix Res.own Res.map Exit.then Exit.inBlock bodyPost Code.wp Next Post Kont
section
variable {W0 : World} {L : List Res} {F : List Fact} {R : Value → List Res → List Fact → Prop}
set_option maxRecDepth 100000
set_option maxHeartbeats 4000000
theorem ptextS_c (g : Glob W0) (l : List Ty) (hok : ∀ t ∈ l, TyOk t) (hright : rightP l) (q r : Nat) (hq : q < l.length) (hk : l[q].kind = 2) (hr : r < l.length) (hrk : l[r].kind = 0) (hkid : l[q].kids = [(r : Int)]) {a : Option Addr} {k c : Nat} (mL : fL l a k c ∈ F)
    (h : R (.tuple #[S (91 :: 93 :: l[r].name), .int .i64 0]) L F) : ACalls Tryd.prog W0 19 #[.slice a k c, .int .i64 (q : Int)] L F R := by
  have hn := (hok _ (List.getElem_mem hr)).name
  refine ACalls.body Tryd.func19 rfl Tryd.ntmps19 rfl ?_
  refine AC.seq (AC.region (AL.go (AO.assign rfl rfl (AL.go (AO.assign rfl rfl (AL.nil (AK.seqN ?_)))))))
  refine AC.seq (AC.block (AC.seq (AC.region (AL.go (AO.move rfl rfl ?_)))))
  refine AL.go (AO.call rfl rfl (right_c g l hok (by repeat (first | exact mem0 | assumption | refine memS ?_)) (fun c10 => ?_) (fun c10 => absurd hright c10)))
  refine AL.go (AO.not rfl rfl (AL.go (AO.assign rfl rfl (AL.nil (AK.seqN (AC.condF rfl (AC.seq ?_)))))))
  refine AC.region (AL.go (AO.move rfl rfl ?_))
  refine AL.go (AO.lss rfl rfl rfl (fun c14 => absurd c14 (by omega)) (fun c14 => ?_))
  refine AL.go (AO.move rfl rfl (AL.yes rfl rfl (AO.move rfl rfl (AL.yes rfl rfl (AO.move rfl rfl ?_)))))
  refine AL.yes rfl rfl (AO.len rfl rfl (fun hl18 => ?_) (hm := by repeat (first | exact mem0 | assumption | refine memS ?_)))
  refine AL.yes rfl rfl (AO.geq rfl rfl rfl (fun c19 => absurd c19 (by omega)) (fun c19 => ?_))
  refine AL.go (AO.pickF rfl rfl rfl (AL.go (AO.assign rfl rfl (AL.nil (AK.seqN (AC.condF rfl (AC.skip ?_)))))))
  refine AK.blkN (AK.seqN (AC.seq (AC.region (AL.go (AO.move rfl rfl ?_)))))
  refine AL.go (AO.makeMap vI S rfl (fun b22 => ?_))
  refine AL.go (AO.build rfl rfl rfl ?_)
  refine AL.go (AO.box rfl rfl (fun b24 => ?_))
  refine AL.go (AO.assign rfl rfl (AL.nil (AK.seqN (AC.seq (AC.region (AL.go (AO.move rfl rfl ?_)))))))
  refine AL.go (AO.move rfl rfl ?_)
  refine AL.go (AO.call rfl rfl (textS_c l (fun _ => none) q r hq hk hr hrk hn hkid rfl rfl (i := 0) (j := 1) (by repeat (first | exact mem0 | assumption | refine memS ?_)) rfl rfl (by decide) ?_))
  refine AL.go (AO.assign rfl rfl (AL.nil (AK.seqN (AC.seq (AC.seq (AC.region ?_))))))
  refine AL.go (AO.move rfl rfl (AL.go (AO.lenS rfl rfl ?_)))
  refine AL.go (AO.gtr rfl rfl rfl (fun c30 => absurd c30 (by simp only [List.length_cons]; omega)) (fun c30 => ?_))
  refine AL.nil (AK.seqN (AC.condF rfl (AC.skip (AK.seqN (AC.seq ?_)))))
  refine AC.region (AL.go (AO.move rfl rfl (AL.go (AO.assign rfl rfl (AL.go (AO.assign rfl rfl (AL.nil (AK.seqN ?_))))))))
  refine AC.ret ?_
  exact AK.ret2 (L' := L) (F' := F) Tryd.results19 rfl rfl (by repeat (first | exact Sub.refl _ _ | refine Sub.trans Sub.drop ?_ | refine Sub.trans Sub.dropF ?_)) h
theorem alive_c (g : Glob W0) (h : R (.bool true) L F) : ACalls Tryd.prog W0 8 #[] L F R := by
  refine ACalls.weak (Sub.nilF (sz := 1)) ?_
  refine ACalls.body Tryd.func8 rfl Tryd.ntmps8 rfl ?_
  refine AC.seq (AC.region (AL.go (AO.assign rfl rfl (AL.nil (AK.seqN (AC.seq ?_))))))
  refine AC.region ?_
  refine AL.go (AO.call rfl rfl (start_c (fun a7 k7 c7 => ?_)))
  refine AL.go (AO.buildSlice rfl rfl rfl rfl rfl (fun b8 => ?_))
  refine AT.sub (Sub.trans (Sub.lit (i := 0) (enc := eI) (sz := 1) [2] rfl (.val .nil) (fun _ => rfl) rfl (by decide)) Sub.drop) ?_
  refine AL.go (AO.build rfl rfl rfl ?_)
  refine AL.go (AO.call rfl rfl (add_c g startL start_ok sliceT slice_ok (show fL startL _ _ _ ∈ _ from (by repeat (first | exact mem0 | assumption | refine memS ?_))) (show Fact.slc (.slice none 0 0) 1 [] ∈ _ from (by repeat (first | exact mem0 | assumption | refine memS ?_))) (show Fact.slc _ 1 [eI 2] ∈ _ from (by repeat (first | exact mem0 | assumption | refine memS ?_))) (fun n => absurd start_right n) (fun _ q hq e => absurd (e ▸ List.getElem_mem hq) slice_new) (fun _ _ n => absurd slice_made n) (fun _ _ _ n => absurd n (by rw [start_len]; decide)) (fun _ _ _ _ a10 k10 z10 => ?_)))
  refine AL.go (AO.move rfl rfl (AL.go (AO.extract rfl rfl rfl (AL.go (AO.extract rfl rfl rfl (AL.go (AO.extract rfl rfl rfl (AL.go (AO.assign rfl rfl (AL.go (AO.assign rfl rfl ?_)))))))))))
  refine AL.go (AO.assign rfl rfl (AL.nil (AK.seqN (AC.seq (AC.region (AL.go (AO.move rfl rfl ?_)))))))
  refine AL.go (AO.move rfl rfl ?_)
  refine AL.go (AO.call rfl rfl (ptextS_c g (startL ++ [sliceT]) start_oks slice_right 22 2 (by decide) rfl (by decide) rfl rfl (by repeat (first | exact mem0 | assumption | refine memS ?_)) ?_))
  refine AL.go (AO.move rfl rfl (AL.go (AO.extract rfl rfl rfl (AL.go (AO.extract rfl rfl rfl (AL.go (AO.assign rfl rfl (AL.go (AO.assign rfl rfl (AL.nil ?_))))))))))
  refine AK.seqN (AC.seq (AC.region (AL.go (AO.move rfl rfl ?_))))
  refine AL.go (AO.eql rfl rfl rfl (fun c21 => ?_) (fun c21 => ?_))
  · refine AL.go (AO.move rfl rfl (AL.yes rfl rfl (AO.move rfl rfl ?_)))
    refine AL.yes rfl rfl (AO.eql rfl rfl rfl (fun c24 => ?_) (fun c24 => ?_))
    · refine AL.go (AO.pickT rfl rfl rfl (AL.go (AO.move rfl rfl (AL.yes rfl rfl (AO.move rfl rfl ?_)))))
      refine AL.yes rfl rfl (AO.eql rfl rfl rfl (fun c28 => ?_) (fun c28 => ?_))
      · refine AL.go (AO.pickT rfl rfl rfl (AL.go (AO.move rfl rfl (AL.yes rfl rfl (AO.move rfl rfl ?_)))))
        refine AL.yes rfl rfl (AO.eqlS rfl rfl rfl (fun c32 => ?_) (fun c32 => ?_))
        · refine AL.go (AO.pickT rfl rfl rfl (AL.go (AO.assign rfl rfl (AL.nil (AK.seqN (AC.ret ?_))))))
          first | exact AK.ret (L' := L) Tryd.results8 rfl (by repeat (first | exact Sub.refl _ _ | refine Sub.trans Sub.drop ?_ | refine Sub.trans Sub.dropF ?_)) h | exact absurd rfl c21 | exact absurd rfl c24 | exact absurd (by decide) c28 | exact absurd rfl c32
        · refine AL.go (AO.pickT rfl rfl rfl (AL.go (AO.assign rfl rfl (AL.nil (AK.seqN (AC.ret ?_))))))
          first | exact AK.ret (L' := L) Tryd.results8 rfl (by repeat (first | exact Sub.refl _ _ | refine Sub.trans Sub.drop ?_ | refine Sub.trans Sub.dropF ?_)) h | exact absurd rfl c21 | exact absurd rfl c24 | exact absurd (by decide) c28 | exact absurd rfl c32
      · refine AL.go (AO.pickT rfl rfl rfl (AL.go (AO.move rfl rfl (AL.no rfl rfl rfl rfl (AL.no rfl rfl rfl rfl (AL.go (AO.pickF rfl rfl rfl (AL.go (AO.assign rfl rfl ?_)))))))))
        refine AL.nil (AK.seqN (AC.ret ?_))
        first | exact AK.ret (L' := L) Tryd.results8 rfl (by repeat (first | exact Sub.refl _ _ | refine Sub.trans Sub.drop ?_ | refine Sub.trans Sub.dropF ?_)) h | exact absurd rfl c21 | exact absurd rfl c24 | exact absurd (by decide) c28 | exact absurd rfl c32
    · refine AL.go (AO.pickT rfl rfl rfl (AL.go (AO.move rfl rfl (AL.no rfl rfl rfl rfl (AL.no rfl rfl rfl rfl (AL.go (AO.pickF rfl rfl rfl (AL.go (AO.move rfl rfl ?_)))))))))
      refine AL.no rfl rfl rfl rfl (AL.no rfl rfl rfl rfl (AL.go (AO.pickF rfl rfl rfl (AL.go (AO.assign rfl rfl (AL.nil (AK.seqN ?_)))))))
      refine AC.ret ?_
      first | exact AK.ret (L' := L) Tryd.results8 rfl (by repeat (first | exact Sub.refl _ _ | refine Sub.trans Sub.drop ?_ | refine Sub.trans Sub.dropF ?_)) h | exact absurd rfl c21 | exact absurd rfl c24 | exact absurd (by decide) c28 | exact absurd rfl c32
  · refine AL.go (AO.move rfl rfl (AL.no rfl rfl rfl rfl (AL.no rfl rfl rfl rfl (AL.go (AO.pickF rfl rfl rfl (AL.go (AO.move rfl rfl (AL.no rfl rfl rfl rfl ?_))))))))
    refine AL.no rfl rfl rfl rfl (AL.go (AO.pickF rfl rfl rfl (AL.go (AO.move rfl rfl (AL.no rfl rfl rfl rfl (AL.no rfl rfl rfl rfl (AL.go (AO.pickF rfl rfl rfl ?_))))))))
    refine AL.go (AO.assign rfl rfl (AL.nil (AK.seqN (AC.ret ?_))))
    first | exact AK.ret (L' := L) Tryd.results8 rfl (by repeat (first | exact Sub.refl _ _ | refine Sub.trans Sub.drop ?_ | refine Sub.trans Sub.dropF ?_)) h | exact absurd rfl c21 | exact absurd rfl c24 | exact absurd (by decide) c28 | exact absurd rfl c32
theorem one_c (t : Ty) {a1 a2 : Option Addr} {k1 c1 k2 c2 : Nat} (m1 : fW t a1 k1 c1 ∈ F) (m2 : fK t a2 k2 c2 ∈ F)
    (h : ∀ a1 k1 c1 a2 k2 c2, R (vTy (oneT t) a1 k1 c1 a2 k2 c2) L (fW (oneT t) a1 k1 c1 :: fK (oneT t) a2 k2 c2 :: F)) : ACalls Tryd.prog W0 14 #[vTy t a1 k1 c1 a2 k2 c2] L F R := by
  refine ACalls.body Tryd.func14 rfl Tryd.ntmps14 rfl ?_
  refine AC.seq (AC.region (AL.go (AO.box rfl rfl (fun b1 => ?_))))
  refine AL.go (AO.alloc rfl (fun b2 => ?_))
  refine AL.nil (AK.seqN (AC.seq ?_))
  refine AC.draw (fun i => Nat.beq i 22 || Nat.beq i 24 || Nat.beq i 26) [(b1, _, _)] (by repeat (first | exact BxIn.nil | refine BxIn.cons (by repeat (first | exact has0 | assumption | apply hasS)) ?_)) rfl (fun hx hX => ?_)
  have hk1 := (len_of_fact (hX (fW t a1 k1 c1) (by repeat (first | exact mem0 | assumption | refine memS ?_)))).1
  have hk2 := (len_of_fact (hX (fK t a2 k2 c2) (by repeat (first | exact mem0 | assumption | refine memS ?_)))).1
  have hc1 := (len_of_fact (hX (fW t a1 k1 c1) (by repeat (first | exact mem0 | assumption | refine memS ?_)))).2
  have hc2 := (len_of_fact (hX (fK t a2 k2 c2) (by repeat (first | exact mem0 | assumption | refine memS ?_)))).2
  subst hk1 hk2
  refine AH.weak (Sub.part (enc := eS) (lst := t.words) 0 (min t.words.length 18) c1 (show fW t _ _ c1 ∈ _ from (by repeat (first | exact mem0 | assumption | refine memS ?_))) (by omega) (by omega) (by omega) (by omega)) ?_
  refine AH.weak (Sub.part (enc := eI) (lst := t.kids) 0 (min t.kids.length 18) c2 (show fK t _ _ c2 ∈ _ from (by repeat (first | exact mem0 | assumption | refine memS ?_))) (by omega) (by omega) (by omega) (by omega)) ?_
  refine AH.takeW (i := 0) rfl (Y.field rfl) (by kernel_rfl) rfl rfl ?_
  refine AH.takeS (i := 1) rfl (Y.loadB rfl (by repeat (first | exact List.Mem.head _ | refine List.Mem.tail _ ?_)) (by rfl)) (by kernel_rfl) (by kernel_rfl) rfl rfl rfl ?_
  refine AH.takeW (i := 2) rfl (Y.field rfl) (by kernel_rfl) rfl rfl ?_
  refine AH.takeS (i := 3) rfl (Y.loadB rfl (by repeat (first | exact List.Mem.head _ | refine List.Mem.tail _ ?_)) (by rfl)) (by kernel_rfl) (by kernel_rfl) rfl rfl rfl ?_
  refine AH.takeW (i := 4) rfl (Y.lenS rfl) (by kernel_rfl) rfl rfl ?_
  refine AH.takeW (i := 5) rfl (Y.min rfl rfl) (by kernel_rfl) rfl rfl ?_
  refine AH.takeW (i := 6) rfl (Y.sliceSH (j' := min t.name.length 50) rfl rfl (by omega) (by omega)) (by kernel_rfl) rfl rfl ?_
  refine AH.takeW (i := 7) rfl (Y.field rfl) (by kernel_rfl) rfl rfl ?_
  refine AH.takeS (i := 8) rfl (Y.loadB rfl (by repeat (first | exact List.Mem.head _ | refine List.Mem.tail _ ?_)) (by rfl)) (by kernel_rfl) (by kernel_rfl) rfl rfl rfl ?_
  refine AH.takeW (i := 9) rfl (Y.field rfl) (by kernel_rfl) rfl rfl ?_
  refine AH.takeS (i := 10) rfl (Y.loadB rfl (by repeat (first | exact List.Mem.head _ | refine List.Mem.tail _ ?_)) (by rfl)) (by kernel_rfl) (by kernel_rfl) rfl rfl rfl ?_
  refine AH.takeW (i := 11) rfl (Y.lenV rfl) (by kernel_rfl) rfl rfl ?_
  refine AH.takeW (i := 12) rfl (Y.min rfl rfl) (by kernel_rfl) rfl rfl ?_
  refine AH.takeW (i := 13) rfl (Y.sliceH (j' := min t.words.length 18) rfl rfl (by omega) (by omega)) (by kernel_rfl) rfl rfl ?_
  refine AH.takeW (i := 14) rfl (Y.field rfl) (by kernel_rfl) rfl rfl ?_
  refine AH.takeS (i := 15) rfl (Y.loadB rfl (by repeat (first | exact List.Mem.head _ | refine List.Mem.tail _ ?_)) (by rfl)) (by kernel_rfl) (by kernel_rfl) rfl rfl rfl ?_
  refine AH.takeW (i := 16) rfl (Y.field rfl) (by kernel_rfl) rfl rfl ?_
  refine AH.takeS (i := 17) rfl (Y.loadB rfl (by repeat (first | exact List.Mem.head _ | refine List.Mem.tail _ ?_)) (by rfl)) (by kernel_rfl) (by kernel_rfl) rfl rfl rfl ?_
  refine AH.takeW (i := 18) rfl (Y.lenV rfl) (by kernel_rfl) rfl rfl ?_
  refine AH.takeW (i := 19) rfl (Y.min rfl rfl) (by kernel_rfl) rfl rfl ?_
  refine AH.takeW (i := 20) rfl (Y.sliceH (j' := min t.kids.length 18) rfl rfl (by omega) (by omega)) (by kernel_rfl) rfl rfl ?_
  refine AH.takeW (i := 21) rfl (Y.field rfl) (by kernel_rfl) rfl rfl ?_
  refine AH.one (i := 22) (by kernel_rfl) rfl rfl (fun _ => ?_)
  refine AO.storeB rfl rfl rfl ?_
  refine AT.spoilt rfl ?_
  refine AH.takeW (i := 23) rfl (Y.field rfl) (by kernel_rfl) rfl rfl ?_
  refine AH.one (i := 24) (by kernel_rfl) rfl rfl (fun _ => ?_)
  refine AO.storeB rfl rfl rfl ?_
  refine AT.spoilt rfl ?_
  refine AH.takeW (i := 25) rfl (Y.field rfl) (by kernel_rfl) rfl rfl ?_
  refine AH.one (i := 26) (by kernel_rfl) rfl rfl (fun _ => ?_)
  refine AO.storeB rfl rfl rfl ?_
  refine AT.spoilt rfl ?_
  refine AH.done (by kernel_rfl) ?_
  refine AK.seqN (AC.seq (AC.region (AL.go (AO.assign rfl rfl (AL.nil (AK.seqN ?_))))))
  refine AC.seq (AC.seq (AC.region (AL.go (AO.field rfl rfl ?_))))
  refine AL.go (AO.loadB rfl rfl ?_)
  have hw9 : (t.words.take (min t.words.length 18)).length ≤ 18 := by simp only [List.length_take]; omega
  have hone : (oneT t).words = (t.words.take (min t.words.length 18)).map cut30 := rfl
  refine AL.go (AO.len rfl rfl (fun hl32 => ?_) (enc := eS) (lst := t.words.take (min t.words.length 18)) (hm := (by repeat (first | exact mem0 | assumption | refine memS ?_))))
  refine AL.go (AO.move rfl rfl (AL.nil (AK.seqN (AC.block ?_))))
  refine AC.loop (fun (i : Nat × Option Addr × Nat × Nat) => i.1 ≤ (t.words.take (min t.words.length 18)).length) (fun i => [(1, .pointer (some ⟨b1, 0, none⟩)), (2, .pointer (some ⟨b2, 0, none⟩)), (3, .slice i.2.1 i.2.2.1 i.2.2.2), (31, sliced a1 0 (min t.words.length 18) c1 1), (32, .int .i64 (t.words.take (min t.words.length 18)).length), (33, .int .i64 (i.1 : Int))]) (fun i => Res.own (.slice i.2.1 i.2.2.1 i.2.2.2) 9 1 ((((t.words.take (min t.words.length 18)).take i.1).map cut30).map eS) :: _) (fun _ => _) (fun i => (t.words.take (min t.words.length 18)).length - i.1) (0, none, 0, 0) (by simp) (by repeat (first | exact SubR.nil | refine SubR.cons rfl ?_)) Sub.ownNil ?_
  rintro ⟨q, a3, k3, c3⟩ hq
  simp only at hq ⊢
  refine AC.seq (AC.region ?_)
  refine AL.go (AO.lss rfl rfl rfl (fun c34 => ?_) (fun c34 => ?_))
  · refine AL.nil (AK.seqN (AC.seq (AC.condT rfl (AC.skip (AK.seqN ?_)))))
    refine AC.seq (AC.block (AC.seq (AC.region ?_)))
    have hql : q < (t.words.take (min t.words.length 18)).length := by omega
    refine AL.go (AO.indexAddr rfl rfl rfl rfl (enc := eS) (lst := t.words.take (min t.words.length 18)) (by repeat (first | exact mem0 | assumption | refine memS ?_)) hql (fun _ _ => ?_))
    refine AL.go (AO.loadF rfl rfl ?_)
    intros
    refine AL.go (AO.assign rfl rfl (AL.nil (AK.seqN (AC.region (AL.go (AO.move rfl rfl (AL.go (AO.move rfl rfl ?_))))))))
    refine AL.go (AO.move rfl rfl (AL.go (AO.lenS rfl rfl (AL.go (AO.min rfl rfl rfl ?_)))))
    refine AL.go (AO.sliceSH (j' := min (t.words.take (min t.words.length 18))[q].length 30) rfl rfl rfl (by omega) (by omega) ?_)
    refine AL.go (AO.buildSlice rfl rfl rfl rfl rfl (fun b43 => ?_))
    have htl : (((t.words.take (min t.words.length 18)).take q).map cut30).length = q := by rw [List.length_map, List.length_take]; omega
    refine AL.go (AO.append (i := 0) (enc := eS) (lst := ((t.words.take (min t.words.length 18)).take q).map cut30) [cut30 (t.words.take (min t.words.length 18))[q]] rfl rfl rfl rfl (.val .nil) rfl rfl (fun _ => rfl) (by rw [htl]; simp only [maxLen]; omega) (by rw [htl]; omega) (fun a44 k44 c44 => ?_))
    rw [cut_step hql]
    refine AL.go (AO.assign rfl rfl (AL.nil (AK.blkN (AK.seqN (AC.region (AL.go (AO.add rfl rfl rfl (by omega) (by omega) ?_)))))))
    refine AL.go (AO.move rfl rfl (AL.nil ?_))
    refine AK.next (q + 1, a44, k44, c44) (by simp only; omega) (by simp only; omega) (by repeat (first | exact SubR.nil | refine SubR.cons rfl ?_)) (by repeat (first | exact Sub.refl _ _ | refine Sub.trans Sub.dropF ?_))
  · refine AL.nil (AK.seqN (AC.seq (AC.condF rfl (AC.exit (AK.seqX ?_)))))
    refine AK.seqX (AK.blkX (AK.seqN (AC.seq (AC.region ?_))))
    refine AL.go (AO.move rfl rfl ?_)
    have hall : (t.words.take (min t.words.length 18)).take q = t.words.take (min t.words.length 18) := List.take_of_length_le (by omega)
    rw [hall]
    refine AT.sub (Sub.commit (i := 0) rfl) ?_
    refine AL.go (AO.field rfl rfl ?_)
    refine AL.go (AO.storeB rfl rfl rfl ?_)
    refine AL.nil (AK.seqN (AC.seq (AC.region ?_)))
    refine AL.go (AO.loadBA rfl rfl ?_)
    refine AL.go (AO.storeBA rfl rfl rfl rfl ?_)
    refine AL.nil (AK.seqN (AC.ret ?_))
    exact AK.retV (rs := [.cell 2 _]) (L' := L) (F' := fW (oneT t) a3 k3 c3 :: fK (oneT t) _ _ _ :: F) Tryd.results14 (.agg (j := 1) rfl rfl rfl .nil) (Sub.drop.trans (Sub.drop.trans (Sub.drop.trans (Sub.facts (mem2 (by repeat (first | exact mem0 | assumption | refine memS ?_)) (by repeat (first | exact mem0 | assumption | refine memS ?_)) (fun x hx => by repeat (first | exact hx | refine List.mem_cons_of_mem _ ?_))))))) (h _ _ _ _ _ _)
theorem tfew_c (l : List Ty) (most : Nat) (hm : most ≤ 402) {a : Option Addr} {k c : Nat} (m1 : fL l a k c ∈ F) (h : ∀ a k c, R (.slice a k c) L (fL (fewT l most) a k c :: F)) : ACalls Tryd.prog W0 7 #[.slice a k c, .int .i64 (most : Int)] L F R := by
  refine ACalls.body Tryd.func7 rfl Tryd.ntmps7 rfl ?_
  refine AC.seq (AC.region (AL.go (AO.assign rfl rfl (AL.nil (AK.seqN (AC.seq ?_))))))
  refine AC.region (AL.go (AO.assign rfl rfl (AL.nil (AK.seqN (AC.seq (AC.seq ?_))))))
  refine AC.region (AL.go (AO.move rfl rfl (AL.go (AO.move rfl rfl ?_))))
  refine AL.go (AO.len rfl rfl (fun hl10 => ?_) (hm := by repeat (first | exact mem0 | assumption | refine memS ?_)))
  refine AL.go (AO.move rfl rfl (AL.go (AO.min rfl rfl rfl ?_)))
  refine AL.go (AO.sliceH (j' := min l.length most) rfl rfl rfl (by omega) (enc := eTy) (lst := l) (by repeat (first | exact mem0 | assumption | refine memS ?_)) (by omega) (fun a13 k13 c13 => ?_))
  refine AL.go (AO.len rfl rfl (fun hl14 => ?_) (hm := by repeat (first | exact mem0 | assumption | refine memS ?_)))
  refine AL.go (AO.move rfl rfl (AL.nil (AK.seqN (AC.block ?_))))
  have hfew : fewT l most = (l.take (min l.length most)).map oneT := rfl
  have hwl : (l.take (min l.length most)).length ≤ 402 := by simp only [List.length_take]; omega
  generalize l.take (min l.length most) = l' at hwl hfew ⊢
  refine AC.loop (fun (i : Nat × Option Addr × Nat × Nat) => i.1 ≤ l'.length) (fun i => [(5, .slice i.2.1 i.2.2.1 i.2.2.2), (13, .slice a13 k13 c13), (14, .int .i64 l'.length), (15, .int .i64 (i.1 : Int))]) (fun i => Res.own (.slice i.2.1 i.2.2.1 i.2.2.2) 31 5 (((l'.take i.1).map oneT).map eTy) :: _) (fun _ => fL l' a13 k13 c13 :: F) (fun i => l'.length - i.1) (0, none, 0, 0) (by simp) (by repeat (first | exact SubR.nil | refine SubR.cons rfl ?_)) Sub.ownNil ?_
  rintro ⟨q, a3, k3, c3⟩ hq
  simp only at hq ⊢
  refine AC.seq (AC.region ?_)
  refine AL.go (AO.lss rfl rfl rfl (fun c16 => ?_) (fun c16 => ?_))
  · refine AL.nil (AK.seqN (AC.seq (AC.condT rfl (AC.skip (AK.seqN ?_)))))
    refine AC.seq (AC.block (AC.seq (AC.region ?_)))
    have hql : q < l'.length := by omega
    refine AL.go (AO.indexAddr rfl rfl rfl rfl (by repeat (first | exact mem0 | assumption | refine memS ?_)) hql (fun _ _ => ?_))
    refine AL.go (AO.loadFA rfl rfl ?_)
    intro a18 k18 z18 d18 e18 f18
    refine AL.go (AO.alloc rfl (fun b7 => ?_))
    refine AL.go (AO.storeBA rfl rfl rfl rfl ?_)
    refine AL.nil (AK.seqN (AC.region (AL.go (AO.move rfl rfl ?_))))
    refine AL.go (AO.loadBA rfl rfl ?_)
    refine AL.go (AO.call rfl rfl (one_c l'[q] (by repeat (first | exact mem0 | assumption | refine memS ?_)) (by repeat (first | exact mem0 | assumption | refine memS ?_)) (fun a21 k21 z21 d21 e21 f21 => ?_)))
    refine AL.go (AO.buildSlice rfl rfl rfl rfl rfl (fun b22 => ?_))
    have htl : ((l'.take q).map oneT).length = q := by rw [List.length_map, List.length_take]; omega
    refine AL.go (AO.append (i := 1) (enc := eTy) (lst := (l'.take q).map oneT) [oneT l'[q]] rfl rfl rfl rfl (.val (.val (.val (.slc (.slc .nil (by repeat (first | exact mem0 | assumption | refine memS ?_))) (by repeat (first | exact mem0 | assumption | refine memS ?_)))))) rfl rfl (fun _ => rfl) (by rw [htl]; simp only [maxLen]; omega) (by rw [htl]; omega) (fun a23 k23 c23 => ?_))
    rw [few_step hql]
    refine AL.go (AO.assign rfl rfl (AL.nil (AK.blkN (AK.seqN (AC.region (AL.go (AO.add rfl rfl rfl (by omega) (by omega) ?_)))))))
    refine AL.go (AO.move rfl rfl (AL.nil ?_))
    refine AK.next (q + 1, a23, k23, c23) (by simp only; omega) (by simp only; omega) (by repeat (first | exact SubR.nil | refine SubR.cons rfl ?_)) (Sub.drop.trans (by repeat (first | exact Sub.refl _ _ | refine Sub.trans Sub.dropF ?_)))
  · refine AL.nil (AK.seqN (AC.seq (AC.condF rfl (AC.exit (AK.seqX ?_)))))
    refine AK.seqX (AK.blkX (AK.seqN (AC.seq (AC.region ?_))))
    refine AL.go (AO.move rfl rfl ?_)
    have hall : l'.take q = l' := List.take_of_length_le (by omega)
    rw [hall]
    refine AT.sub (Sub.commit (i := 0) rfl) ?_
    refine AL.go (AO.assign rfl rfl (AL.nil (AK.seqN (AC.ret ?_))))
    rw [hfew] at h
    exact AK.ret (L' := L) (F' := fL (l'.map oneT) a3 k3 c3 :: F) Tryd.results7 rfl (Sub.drop.trans (Sub.headF (fun x hx => by repeat (first | exact hx | refine List.mem_cons_of_mem _ ?_)))) (h _ _ _)
theorem arenas_c (g : Glob W0) (l : List Ty) (hl : ∀ t ∈ l, TyIn t) {a : Option Addr} {k c : Nat} (m1 : fL l a k c ∈ F) (h : R (.bool true) L F) : ACalls Tryd.prog W0 3 #[.slice a k c] L F R := by
  have hok := few_tok (m := 60) hl
  refine ACalls.body Tryd.func3 rfl Tryd.ntmps3 rfl ?_
  refine AC.seq (AC.region (AL.go (AO.assign rfl rfl (AL.nil (AK.seqN (AC.seq ?_))))))
  refine AC.region (AL.go (AO.move rfl rfl ?_))
  refine AL.go (AO.call rfl rfl (tfew_c l 60 (by decide) (by repeat (first | exact mem0 | assumption | refine memS ?_)) (fun a4 k4 c4 => ?_)))
  refine AL.go (AO.assign rfl rfl (AL.nil (AK.seqN (AC.seq (AC.region ?_)))))
  refine AL.go (AO.call rfl rfl (alive_c g ?_))
  refine AL.go (AO.move rfl rfl ?_)
  refine AL.yes rfl rfl (AO.call rfl rfl (start_c (fun a7 k7 c7 => ?_)))
  refine AL.yes rfl rfl (AO.call rfl rfl (rstart_c (fun a8 k8 c8 => ?_)))
  refine AL.yes rfl rfl (AO.call rfl rfl (ref_Arenas_c startL startL (fun c9 => ?_) (fun c9 => absurd rfl c9) (by repeat (first | exact mem0 | assumption | refine memS ?_)) (by repeat (first | exact mem0 | assumption | refine memS ?_))))
  refine AL.go (AO.pickT rfl rfl rfl (AL.go (AO.move rfl rfl (AL.yes rfl rfl (AO.move rfl rfl ?_)))))
  refine AL.yes rfl rfl (AO.call rfl rfl (right_c g (fewT l 60) hok (by repeat (first | exact mem0 | assumption | refine memS ?_)) (fun c13 => ?_) (fun c13 => ?_)))
  · refine AL.yes rfl rfl (AO.move rfl rfl ?_)
    refine AL.yes rfl rfl (AO.call rfl rfl (rright_c (fewT l 60) hok (by repeat (first | exact mem0 | assumption | refine memS ?_)) (fun c15 => ?_) (fun c15 => absurd c13 c15)))
    refine AL.yes rfl rfl (AO.eqlB rfl rfl rfl (AL.go (AO.pickT rfl rfl rfl (AL.go (AO.assign rfl rfl (AL.nil (AK.seqN (AC.ret ?_))))))))
    exact AK.ret (L' := L) (F' := F) Tryd.results3 rfl (by repeat (first | exact Sub.refl _ _ | refine Sub.trans Sub.drop ?_ | refine Sub.trans Sub.dropF ?_)) h
  · refine AL.yes rfl rfl (AO.move rfl rfl ?_)
    refine AL.yes rfl rfl (AO.call rfl rfl (rright_c (fewT l 60) hok (by repeat (first | exact mem0 | assumption | refine memS ?_)) (fun c15 => absurd c15 c13) (fun c15 => ?_)))
    refine AL.yes rfl rfl (AO.eqlB rfl rfl rfl (AL.go (AO.pickT rfl rfl rfl (AL.go (AO.assign rfl rfl (AL.nil (AK.seqN (AC.ret ?_))))))))
    exact AK.ret (L' := L) (F' := F) Tryd.results3 rfl (by repeat (first | exact Sub.refl _ _ | refine Sub.trans Sub.drop ?_ | refine Sub.trans Sub.dropF ?_)) h
end
end Go.Sy
