/- A type put in an arena, by the program and by the document: what it comes to; the text of a slice of a basic type: the walks. -/
import Derived.Test.YthbngbiodamndaaDoorTyE
namespace Go.Sy
open Go Go.Proofs Go.RowKit

/-- What any value of the type 'api.Type' is. -/
structure TyIn (t : Ty) : Prop where
  kind : -9223372036854775808 ≤ t.kind ∧ t.kind ≤ 9223372036854775807
  n : -9223372036854775808 ≤ t.n ∧ t.n ≤ 9223372036854775807
  kid : ∀ k ∈ t.kids, -9223372036854775808 ≤ k ∧ k ≤ 9223372036854775807
theorem right_snoc {l : List Ty} {t : Ty} (h : rightP l) (hn : t ∉ l) (hm : madeP l t) (hl : l.length < 400) : rightP (l ++ [t]) := by
  refine ⟨by have := h.1; simp; omega, by simp; omega, fun i hi => ?_⟩
  have h22 := h.1
  rcases Nat.lt_or_ge i l.length with k | k
  · have hr := h.2.2 i k
    unfold rowAt at hr ⊢
    rw [List.getElem_append_left k, List.take_append_of_le_length (by omega)]
    exact hr
  · have hil : i = l.length := by simp at hi; omega
    subst hil
    unfold rowAt
    rw [if_neg (by omega), List.getElem_append_right (by omega), List.take_append_of_le_length (by omega), List.take_length]
    simp only [Nat.sub_self, List.getElem_cons_zero]
    exact ⟨hm, hn⟩
/-- The type that the statements ask first. -/
def sliceT : Ty := ⟨2, [], 0, [], [2]⟩
theorem start_right : rightP startL := by
  have hl := start_len
  refine ⟨by omega, by omega, fun i hi => ?_⟩
  unfold rowAt
  rw [if_pos (by omega), start_get hi]
theorem slice_new : sliceT ∉ startL := by decide
theorem slice_made : madeP startL sliceT := by
  refine ⟨fun k hk => ?_, by decide, fun _ => rfl, fun _ _ => rfl, Or.inr (Or.inl ⟨rfl, rfl, rfl⟩)⟩
  have : k = 2 := by simpa [sliceT] using hk
  rw [start_len]; omega
theorem slice_right : rightP (startL ++ [sliceT]) := right_snoc start_right slice_new slice_made (by rw [start_len]; decide)
theorem slice_ok : TyOk sliceT := ⟨by decide, by decide, by decide, by decide, by decide, by decide, by decide⟩
theorem start_oks : ∀ t ∈ startL ++ [sliceT], TyOk t := fun t ht => by
  rcases List.mem_append.1 ht with h | h
  · exact start_ok t h
  · have : t = sliceT := by simpa using h
    subst this; exact slice_ok
/-- What adding a type to an arena that may be comes to. -/
def AddP (l : List Ty) (t : Ty) (l' : List Ty) (i e : Int) : Prop :=
  (∃ q : Nat, ∃ hq : q < l.length, l[q] = t ∧ l' = l ∧ i = (q : Int) ∧ e = 0) ∨
  (t ∉ l ∧ ((¬ madeP l t ∧ l' = [] ∧ i = 0 ∧ e = 1) ∨ (madeP l t ∧ l.length = 400 ∧ l' = [] ∧ i = 0 ∧ e = 7) ∨ (madeP l t ∧ l.length ≠ 400 ∧ l' = l ++ [t] ∧ i = (l.length : Int) ∧ e = 0)))
theorem right_inj {l : List Ty} (h : rightP l) {i j : Nat} (hi : i < l.length) (hj : j < l.length) (e : l[i] = l[j]) : i = j := by
  rcases Nat.lt_trichotomy i j with k | k | k
  · refine absurd ?_ (right_once h j hj)
    rw [← e, List.mem_take_iff_getElem]
    exact ⟨i, by omega, rfl⟩
  · exact k
  · refine absurd ?_ (right_once h i hi)
    rw [e, List.mem_take_iff_getElem]
    exact ⟨j, by omega, rfl⟩
theorem addP_one {l : List Ty} {t : Ty} {l1 l2 : List Ty} {i1 e1 i2 e2 : Int} (hr : rightP l) (h1 : AddP l t l1 i1 e1) (h2 : AddP l t l2 i2 e2) : l1 = l2 ∧ i1 = i2 ∧ e1 = e2 := by
  rcases h1 with ⟨q, hq, a1, a2, a3, a4⟩ | ⟨n1, h1⟩
  · rcases h2 with ⟨r, hr', b1, b2, b3, b4⟩ | ⟨n2, _⟩
    · have := right_inj hr hq hr' (a1.trans b1.symm)
      subst this
      exact ⟨by rw [a2, b2], by rw [a3, b3], by rw [a4, b4]⟩
    · exact absurd (at_mem hq a1) n2
  · rcases h2 with ⟨r, hr', b1, _⟩ | ⟨n2, h2⟩
    · exact absurd (at_mem hr' b1) n1
    · rcases h1 with ⟨m1, a2, a3, a4⟩ | ⟨m1, z1, a2, a3, a4⟩ | ⟨m1, z1, a2, a3, a4⟩ <;> rcases h2 with ⟨m2, b2, b3, b4⟩ | ⟨m2, z2, b2, b3, b4⟩ | ⟨m2, z2, b2, b3, b4⟩
      all_goals first | exact absurd m2 m1 | exact absurd m1 m2 | exact absurd z2 z1 | exact absurd z1 z2 | exact ⟨by rw [a2, b2], by rw [a3, b3], by rw [a4, b4]⟩
theorem at_some {l : List Ty} {t : Ty} {i : Int} (h : atP l t i) (hm : t ∈ l) : ∃ q : Nat, ∃ hq : q < l.length, i = (q : Int) ∧ l[q] = t := by
  rcases h with ⟨_, h⟩ | ⟨q, hq, e1, e2, _⟩
  · exact absurd hm h
  · exact ⟨q, hq, e1, e2⟩

attribute [local irreducible] AC AT AO AK AH ACalls Sub Res.cells Res.obj Res.nix Res.own Res.map Exit.then Exit.inBlock bodyPost Code.wp Next Post Kont
section
variable {W0 : World} {L : List Res} {F : List Fact} {R : Value → List Res → List Fact → Prop}
set_option maxRecDepth 100000
set_option maxHeartbeats 4000000
theorem ptextS_c (g : Glob W0) (l : List Ty) (hok : ∀ t ∈ l, TyOk t) (hright : rightP l) (q r : Nat) (hq : q < l.length) (hk : l[q].kind = 2) (hr : r < l.length) (hrk : l[r].kind = 0) (hkid : l[q].kids = [(r : Int)]) {a : Option Addr} {k c : Nat} (mL : fL l a k c ∈ F)
    (h : R (.tuple #[S (91 :: 93 :: l[r].name), .int .i64 0]) L F) : ACalls Tryd.prog W0 19 #[.slice a k c, .int .i64 (q : Int)] L F R := by
  have hn := (hok _ (List.getElem_mem hr)).name
  refine ACalls.body Tryd.func19 rfl Tryd.ntmps19 rfl ?_
  refine AC.seq (AC.region (AL.go (AO.assign rfl rfl (AL.go (AO.assign rfl rfl (AL.nil (AK.seqN ?_)))))))
  refine AC.seq (AC.block (AC.seq (AC.region (AL.go (AO.move rfl rfl ?_)))))
  refine AL.go (AO.call rfl rfl (right_c g l hok (by repeat (first | exact mem0 | assumption | refine memS ?_)) (fun c10 => ?_) (fun c10 => absurd hright c10)))
  refine AL.go (AO.not rfl rfl (AL.go (AO.assign rfl rfl (AL.nil (AK.seqN (AC.condF rfl (AC.seq ?_)))))))
  refine AC.region (AL.go (AO.move rfl rfl ?_))
  refine AL.go (AO.lss rfl rfl rfl (fun c14 => absurd c14 (by omega)) (fun c14 => ?_))
  refine AL.go (AO.move rfl rfl (AL.yes rfl rfl (AO.move rfl rfl (AL.yes rfl rfl (AO.move rfl rfl ?_)))))
  refine AL.yes rfl rfl (AO.len rfl rfl (fun hl18 => ?_) (hm := by repeat (first | exact mem0 | assumption | refine memS ?_)))
  refine AL.yes rfl rfl (AO.geq rfl rfl rfl (fun c19 => absurd c19 (by omega)) (fun c19 => ?_))
  refine AL.go (AO.pickF rfl rfl rfl (AL.go (AO.assign rfl rfl (AL.nil (AK.seqN (AC.condF rfl (AC.skip ?_)))))))
  refine AK.blkN (AK.seqN (AC.seq (AC.region (AL.go (AO.move rfl rfl ?_)))))
  refine AL.go (AO.makeMap vI S rfl (fun b22 => ?_))
  refine AL.go (AO.build rfl rfl rfl ?_)
  refine AL.go (AO.box rfl rfl (fun b24 => ?_))
  refine AL.go (AO.assign rfl rfl (AL.nil (AK.seqN (AC.seq (AC.region (AL.go (AO.move rfl rfl ?_)))))))
  refine AL.go (AO.move rfl rfl ?_)
  refine AL.go (AO.call rfl rfl (textS_c l (fun _ => none) q r hq hk hr hrk hn hkid rfl rfl (i := 0) (j := 1) (by repeat (first | exact mem0 | assumption | refine memS ?_)) rfl rfl (by decide) ?_))
  refine AL.go (AO.assign rfl rfl (AL.nil (AK.seqN (AC.seq (AC.seq (AC.region ?_))))))
  refine AL.go (AO.move rfl rfl (AL.go (AO.lenS rfl rfl ?_)))
  refine AL.go (AO.gtr rfl rfl rfl (fun c30 => absurd c30 (by simp only [List.length_cons]; omega)) (fun c30 => ?_))
  refine AL.nil (AK.seqN (AC.condF rfl (AC.skip (AK.seqN (AC.seq ?_)))))
  refine AC.region (AL.go (AO.move rfl rfl (AL.go (AO.assign rfl rfl (AL.go (AO.assign rfl rfl (AL.nil (AK.seqN ?_))))))))
  refine AC.ret ?_
  exact AK.ret2 (L' := L) (F' := F) Tryd.results19 rfl rfl (by repeat (first | exact Sub.refl _ _ | refine Sub.trans Sub.drop ?_ | refine Sub.trans Sub.dropF ?_)) h
theorem add2_c (g : Glob W0) (l : List Ty) (hok : ∀ t ∈ l, TyOk t) (t : Ty) (ht : TyOk t) {a a1 a2 : Option Addr} {k c k1 c1 k2 c2 : Nat} (m : fL l a k c ∈ F) (m1 : fW t a1 k1 c1 ∈ F) (m2 : fK t a2 k2 c2 ∈ F)
    (h1 : ¬ rightP l → R (.tuple #[.slice none 0 0, .int .i64 0, .int .i64 1]) L (fL [] none 0 0 :: F))
    (h2 : rightP l → ∀ l' i e a k c, AddP l t l' i e → R (.tuple #[.slice a k c, .int .i64 i, .int .i64 e]) L (fL l' a k c :: F)) :
    ACalls Tryd.prog W0 15 #[.slice a k c, vTy t a1 k1 c1 a2 k2 c2] L F R := by
  refine ACalls.weak (Sub.nilF (sz := 5)) ?_
  refine ACalls.post (R1 := fun v L1 F1 => L1 = L ∧ ((¬ rightP l ∧ v = .tuple #[.slice none 0 0, .int .i64 0, .int .i64 1] ∧ F1 = fL [] none 0 0 :: F) ∨ (rightP l ∧ ∃ l' i e a k c, AddP l t l' i e ∧ v = .tuple #[.slice a k c, .int .i64 i, .int .i64 e] ∧ (∀ f ∈ F, f ∈ F1) ∧ fL l' a k c ∈ F1)))
    (add_c g l hok t ht (List.mem_cons_of_mem _ m) (List.mem_cons_of_mem _ m1) (List.mem_cons_of_mem _ m2)
      (fun n => ⟨rfl, Or.inl ⟨n, rfl, rfl⟩⟩)
      (fun n q hq e => ⟨rfl, Or.inr ⟨n, l, q, 0, a, k, c, Or.inl ⟨q, hq, e, rfl, rfl, rfl⟩, rfl, fun f hf => List.mem_cons_of_mem _ hf, List.mem_cons_of_mem _ m⟩⟩)
      (fun n no nm => ⟨rfl, Or.inr ⟨n, [], 0, 1, none, 0, 0, Or.inr ⟨no, Or.inl ⟨nm, rfl, rfl, rfl⟩⟩, rfl, fun f hf => List.mem_cons_of_mem _ hf, List.mem_cons_self⟩⟩)
      (fun n no nm hl => ⟨rfl, Or.inr ⟨n, [], 0, 7, none, 0, 0, Or.inr ⟨no, Or.inr (Or.inl ⟨nm, hl, rfl, rfl, rfl⟩)⟩, rfl, fun f hf => List.mem_cons_of_mem _ hf, List.mem_cons_self⟩⟩)
      (fun n no nm hl a' k' c' => ⟨rfl, Or.inr ⟨n, l ++ [t], l.length, 0, a', k', c', Or.inr ⟨no, Or.inr (Or.inr ⟨nm, by omega, rfl, rfl, rfl⟩)⟩, rfl, fun f hf => List.mem_cons_of_mem _ (List.mem_cons_of_mem _ hf), List.mem_cons_self⟩⟩)) ?_
  rintro v L1 F1 ⟨rfl, ⟨n, rfl, rfl⟩ | ⟨n, l', i, e, a', k', c', hp, rfl, hf, hm⟩⟩
  · exact ⟨_, _, Sub.refl _ _, h1 n⟩
  · exact ⟨_, _, Sub.facts (mem1 hm hf), h2 n l' i e a' k' c' hp⟩
theorem radd_c (l : List Ty) (hlen : l.length ≤ 402) (t : Ty) (ht : TyOk t) {a a1 a2 : Option Addr} {k c k1 c1 k2 c2 : Nat} (m : fL l a k c ∈ F) (m1 : fW t a1 k1 c1 ∈ F) (m2 : fK t a2 k2 c2 ∈ F)
    (h : ∀ l' i e a k c, AddP l t l' i e → R (.agg #[.slice a k c, .int .i64 i, .int .i64 e]) L (fL l' a k c :: F)) :
    ACalls Tryd.prog W0 16 #[.slice a k c, vTy t a1 k1 c1 a2 k2 c2] L F R := by
  refine ACalls.weak (Sub.nilF (sz := 5)) ?_
  refine ACalls.body Tryd.func16 rfl Tryd.ntmps16 rfl ?_
  refine AC.seq (AC.region (AL.go (AO.box rfl rfl (fun b3 => ?_))))
  refine AL.go (AO.alloc rfl (fun b4 => ?_))
  refine AL.nil (AK.seqN (AC.seq (AC.seq (AC.region (AL.go (AO.move rfl rfl ?_))))))
  refine AL.go (AO.loadBA rfl rfl ?_)
  refine AL.go (AO.call rfl rfl (rat_c l t (by repeat (first | exact mem0 | assumption | refine memS ?_)) (by repeat (first | exact mem0 | assumption | refine memS ?_)) (by repeat (first | exact mem0 | assumption | refine memS ?_)) (fun i8 c8 => ?_)))
  refine AL.go (AO.geq rfl rfl rfl (fun c9 => ?_) (fun c9 => ?_))
  · refine AL.nil (AK.seqN (AC.condT rfl (AC.seq (AC.region (AL.go (AO.move rfl rfl ?_))))))
    refine AL.go (AO.move rfl rfl ?_)
    refine AL.go (AO.loadBA rfl rfl ?_)
    refine AL.go (AO.call rfl rfl (rat_c l t (by repeat (first | exact mem0 | assumption | refine memS ?_)) (by repeat (first | exact mem0 | assumption | refine memS ?_)) (by repeat (first | exact mem0 | assumption | refine memS ?_)) (fun i13 c13 => ?_)))
    obtain ⟨q13, hq13, rfl, e13⟩ := at_some c13 (at_in c8 (by omega))
    refine AL.go (AO.build rfl rfl rfl ?_)
    refine AL.go (AO.storeBA rfl rfl rfl rfl ?_)
    refine AL.nil (AK.seqN (AC.ret (AK.seqR ?_)))
    first
    | exact AK.retV (rs := [.cell 4 _]) (L' := L) (F' := fL l a k c :: F) Tryd.results16 (.agg (j := 0) rfl rfl rfl .nil) (Sub.drop.trans (Sub.drop.trans (Sub.facts (mem1 (by repeat (first | exact mem0 | assumption | refine memS ?_)) (fun x hx => by repeat (first | exact hx | refine List.mem_cons_of_mem _ ?_)))))) (h l q13 0 a k c (Or.inl ⟨q13, hq13, e13, rfl, rfl, rfl⟩))
    | exact AK.retV (rs := [.cell 4 _]) (L' := L) (F' := fL [] none 0 0 :: F) Tryd.results16 (.agg (j := 0) rfl rfl rfl .nil) (by repeat (first | exact Sub.refl _ _ | refine Sub.trans Sub.drop ?_ | refine Sub.trans Sub.dropF ?_)) (h [] 0 1 none 0 0 (Or.inr ⟨hno, Or.inl ⟨c17, rfl, rfl, rfl⟩⟩))
    | exact AK.retV (rs := [.cell 4 _]) (L' := L) (F' := fL [] none 0 0 :: F) Tryd.results16 (.agg (j := 0) rfl rfl rfl .nil) (by repeat (first | exact Sub.refl _ _ | refine Sub.trans Sub.drop ?_ | refine Sub.trans Sub.dropF ?_)) (h [] 0 7 none 0 0 (Or.inr ⟨hno, Or.inr (Or.inl ⟨c17, by omega, rfl, rfl, rfl⟩)⟩))
    | exact AK.retV (rs := [.cell 4 _]) (L' := L) (F' := fL (l ++ [t]) a31 k31 c31 :: F) Tryd.results16 (.agg (j := 1) rfl rfl rfl .nil) ((Sub.commit (i := 0) rfl).trans (Sub.drop.trans (Sub.drop.trans (Sub.drop.trans (Sub.headF (fun x hx => by repeat (first | exact hx | refine List.mem_cons_of_mem _ ?_))))))) (h (l ++ [t]) l.length 0 a31 k31 c31 (Or.inr ⟨hno, Or.inr (Or.inr ⟨c17, by omega, rfl, rfl, rfl⟩)⟩))
  · refine AL.nil (AK.seqN (AC.condF rfl (AC.skip (AK.seqN (AC.seq ?_)))))
    refine AC.seq (AC.region (AL.go (AO.move rfl rfl ?_)))
    refine AL.go (AO.loadBA rfl rfl ?_)
    have hno := at_out c8 (by omega)
    refine AL.go (AO.call rfl rfl (rmade_c l t ht (by repeat (first | exact mem0 | assumption | refine memS ?_)) (by repeat (first | exact mem0 | assumption | refine memS ?_)) (by repeat (first | exact mem0 | assumption | refine memS ?_)) (fun c17 => ?_) (fun c17 => ?_)))
    · refine AL.go (AO.not rfl rfl (AL.nil (AK.seqN (AC.condF rfl (AC.skip (AK.seqN ?_))))))
      refine AC.seq (AC.seq (AC.region (AL.go (AO.move rfl rfl ?_))))
      refine AL.go (AO.len rfl rfl (fun hl21 => ?_) (hm := by repeat (first | exact mem0 | assumption | refine memS ?_)))
      refine AL.go (AO.eql rfl rfl rfl (fun c22 => ?_) (fun c22 => ?_))
      · refine AL.nil (AK.seqN (AC.condT rfl (AC.seq (AC.region ?_))))
        refine AL.go (AO.build rfl rfl rfl ?_)
        refine AL.go (AO.storeBA rfl rfl rfl rfl ?_)
        refine AL.nil (AK.seqN (AC.ret (AK.seqR ?_)))
        first
        | exact AK.retV (rs := [.cell 4 _]) (L' := L) (F' := fL l a k c :: F) Tryd.results16 (.agg (j := 0) rfl rfl rfl .nil) (Sub.drop.trans (Sub.drop.trans (Sub.facts (mem1 (by repeat (first | exact mem0 | assumption | refine memS ?_)) (fun x hx => by repeat (first | exact hx | refine List.mem_cons_of_mem _ ?_)))))) (h l q13 0 a k c (Or.inl ⟨q13, hq13, e13, rfl, rfl, rfl⟩))
        | exact AK.retV (rs := [.cell 4 _]) (L' := L) (F' := fL [] none 0 0 :: F) Tryd.results16 (.agg (j := 0) rfl rfl rfl .nil) (by repeat (first | exact Sub.refl _ _ | refine Sub.trans Sub.drop ?_ | refine Sub.trans Sub.dropF ?_)) (h [] 0 1 none 0 0 (Or.inr ⟨hno, Or.inl ⟨c17, rfl, rfl, rfl⟩⟩))
        | exact AK.retV (rs := [.cell 4 _]) (L' := L) (F' := fL [] none 0 0 :: F) Tryd.results16 (.agg (j := 0) rfl rfl rfl .nil) (by repeat (first | exact Sub.refl _ _ | refine Sub.trans Sub.drop ?_ | refine Sub.trans Sub.dropF ?_)) (h [] 0 7 none 0 0 (Or.inr ⟨hno, Or.inr (Or.inl ⟨c17, by omega, rfl, rfl, rfl⟩)⟩))
        | exact AK.retV (rs := [.cell 4 _]) (L' := L) (F' := fL (l ++ [t]) a31 k31 c31 :: F) Tryd.results16 (.agg (j := 1) rfl rfl rfl .nil) ((Sub.commit (i := 0) rfl).trans (Sub.drop.trans (Sub.drop.trans (Sub.drop.trans (Sub.headF (fun x hx => by repeat (first | exact hx | refine List.mem_cons_of_mem _ ?_))))))) (h (l ++ [t]) l.length 0 a31 k31 c31 (Or.inr ⟨hno, Or.inr (Or.inr ⟨c17, by omega, rfl, rfl, rfl⟩)⟩))
      · refine AL.nil (AK.seqN (AC.condF rfl (AC.skip (AK.seqN (AC.seq ?_)))))
        refine AC.region ?_
        refine AL.go (AO.buildSlice0 rfl (fun b24 => ?_))
        refine AT.sub (Sub.toOwn (i := 0) (k := 0) (sz := 5) (enc := eTy) [] rfl .nil (fun _ => rfl) rfl (by decide)) ?_
        refine AL.go (AO.assign rfl rfl (AL.nil (AK.seqN (AC.seq (AC.region (AL.go (AO.move rfl rfl ?_)))))))
        refine AL.go (AO.move rfl rfl ?_)
        refine AL.go (AO.appendF (i := 0) (enc := eTy) (lst := []) (lst2 := l) rfl rfl rfl rfl (by repeat (first | exact mem0 | assumption | refine memS ?_)) eTy_one (fun _ => rfl) (by simp only [maxLen, List.length_nil]; omega) (by simp only [List.length_nil]; omega) (fun a27 k27 c27 => ?_))
        refine AL.go (AO.assign rfl rfl (AL.nil (AK.seqN (AC.seq (AC.region (AL.go (AO.move rfl rfl ?_)))))))
        refine AL.go (AO.loadBA rfl rfl ?_)
        refine AL.go (AO.buildSlice rfl rfl rfl rfl rfl (fun b30 => ?_))
        refine AL.go (AO.append (i := 0) (enc := eTy) (lst := l) [t] rfl rfl rfl rfl (.val (.val (.val (.slc (.slc .nil (by repeat (first | exact mem0 | assumption | refine memS ?_))) (by repeat (first | exact mem0 | assumption | refine memS ?_)))))) rfl rfl (fun _ => rfl) (by simp only [maxLen]; omega) (by omega) (fun a31 k31 c31 => ?_))
        refine AL.go (AO.assign rfl rfl (AL.nil (AK.seqN (AC.seq (AC.region (AL.go (AO.move rfl rfl ?_)))))))
        refine AL.go (AO.move rfl rfl ?_)
        refine AL.go (AO.len rfl rfl (fun hl34 => ?_) (hm := by repeat (first | exact mem0 | assumption | refine memS ?_)))
        refine AL.go (AO.build rfl rfl rfl ?_)
        refine AL.go (AO.storeBA rfl rfl rfl rfl ?_)
        refine AL.nil (AK.seqN (AC.ret ?_))
        first
        | exact AK.retV (rs := [.cell 4 _]) (L' := L) (F' := fL l a k c :: F) Tryd.results16 (.agg (j := 0) rfl rfl rfl .nil) (Sub.drop.trans (Sub.drop.trans (Sub.facts (mem1 (by repeat (first | exact mem0 | assumption | refine memS ?_)) (fun x hx => by repeat (first | exact hx | refine List.mem_cons_of_mem _ ?_)))))) (h l q13 0 a k c (Or.inl ⟨q13, hq13, e13, rfl, rfl, rfl⟩))
        | exact AK.retV (rs := [.cell 4 _]) (L' := L) (F' := fL [] none 0 0 :: F) Tryd.results16 (.agg (j := 0) rfl rfl rfl .nil) (by repeat (first | exact Sub.refl _ _ | refine Sub.trans Sub.drop ?_ | refine Sub.trans Sub.dropF ?_)) (h [] 0 1 none 0 0 (Or.inr ⟨hno, Or.inl ⟨c17, rfl, rfl, rfl⟩⟩))
        | exact AK.retV (rs := [.cell 4 _]) (L' := L) (F' := fL [] none 0 0 :: F) Tryd.results16 (.agg (j := 0) rfl rfl rfl .nil) (by repeat (first | exact Sub.refl _ _ | refine Sub.trans Sub.drop ?_ | refine Sub.trans Sub.dropF ?_)) (h [] 0 7 none 0 0 (Or.inr ⟨hno, Or.inr (Or.inl ⟨c17, by omega, rfl, rfl, rfl⟩)⟩))
        | exact AK.retV (rs := [.cell 4 _]) (L' := L) (F' := fL (l ++ [t]) a31 k31 c31 :: F) Tryd.results16 (.agg (j := 1) rfl rfl rfl .nil) ((Sub.commit (i := 0) rfl).trans (Sub.drop.trans (Sub.drop.trans (Sub.drop.trans (Sub.headF (fun x hx => by repeat (first | exact hx | refine List.mem_cons_of_mem _ ?_))))))) (h (l ++ [t]) l.length 0 a31 k31 c31 (Or.inr ⟨hno, Or.inr (Or.inr ⟨c17, by omega, rfl, rfl, rfl⟩)⟩))
    · refine AL.go (AO.not rfl rfl (AL.nil (AK.seqN (AC.condT rfl (AC.seq (AC.region ?_))))))
      refine AL.go (AO.build rfl rfl rfl ?_)
      refine AL.go (AO.storeBA rfl rfl rfl rfl ?_)
      refine AL.nil (AK.seqN (AC.ret (AK.seqR ?_)))
      first
      | exact AK.retV (rs := [.cell 4 _]) (L' := L) (F' := fL l a k c :: F) Tryd.results16 (.agg (j := 0) rfl rfl rfl .nil) (Sub.drop.trans (Sub.drop.trans (Sub.facts (mem1 (by repeat (first | exact mem0 | assumption | refine memS ?_)) (fun x hx => by repeat (first | exact hx | refine List.mem_cons_of_mem _ ?_)))))) (h l q13 0 a k c (Or.inl ⟨q13, hq13, e13, rfl, rfl, rfl⟩))
      | exact AK.retV (rs := [.cell 4 _]) (L' := L) (F' := fL [] none 0 0 :: F) Tryd.results16 (.agg (j := 0) rfl rfl rfl .nil) (by repeat (first | exact Sub.refl _ _ | refine Sub.trans Sub.drop ?_ | refine Sub.trans Sub.dropF ?_)) (h [] 0 1 none 0 0 (Or.inr ⟨hno, Or.inl ⟨c17, rfl, rfl, rfl⟩⟩))
      | exact AK.retV (rs := [.cell 4 _]) (L' := L) (F' := fL [] none 0 0 :: F) Tryd.results16 (.agg (j := 0) rfl rfl rfl .nil) (by repeat (first | exact Sub.refl _ _ | refine Sub.trans Sub.drop ?_ | refine Sub.trans Sub.dropF ?_)) (h [] 0 7 none 0 0 (Or.inr ⟨hno, Or.inr (Or.inl ⟨c17, by omega, rfl, rfl, rfl⟩)⟩))
      | exact AK.retV (rs := [.cell 4 _]) (L' := L) (F' := fL (l ++ [t]) a31 k31 c31 :: F) Tryd.results16 (.agg (j := 1) rfl rfl rfl .nil) ((Sub.commit (i := 0) rfl).trans (Sub.drop.trans (Sub.drop.trans (Sub.drop.trans (Sub.headF (fun x hx => by repeat (first | exact hx | refine List.mem_cons_of_mem _ ?_))))))) (h (l ++ [t]) l.length 0 a31 k31 c31 (Or.inr ⟨hno, Or.inr (Or.inr ⟨c17, by omega, rfl, rfl, rfl⟩)⟩))
end
end Go.Sy
