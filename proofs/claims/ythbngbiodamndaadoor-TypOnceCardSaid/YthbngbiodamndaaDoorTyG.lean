/- Adding a type, by the program and by the document: what it comes to; the statement on it. -/
import Derived.Test.YthbngbiodamndaaDoorTyF
namespace Go.Sy
open Go Go.Proofs Go.RowKit

/-- What adding a type to an arena that may be comes to. -/
def AddP (l : List Ty) (t : Ty) (l' : List Ty) (i e : Int) : Prop :=
  (∃ q : Nat, ∃ hq : q < l.length, l[q] = t ∧ l' = l ∧ i = (q : Int) ∧ e = 0) ∨
  (t ∉ l ∧ ((¬ madeP l t ∧ l' = [] ∧ i = 0 ∧ e = 1) ∨ (madeP l t ∧ l.length = 400 ∧ l' = [] ∧ i = 0 ∧ e = 7) ∨ (madeP l t ∧ l.length ≠ 400 ∧ l' = l ++ [t] ∧ i = (l.length : Int) ∧ e = 0)))
theorem right_inj {l : List Ty} (h : rightP l) {i j : Nat} (hi : i < l.length) (hj : j < l.length) (e : l[i] = l[j]) : i = j := by
  rcases Nat.lt_trichotomy i j with k | k | k
  · refine absurd ?_ (right_once h j hj)
    rw [← e, List.mem_take_iff_getElem]
    exact ⟨i, by omega, rfl⟩
  · exact k
  · refine absurd ?_ (right_once h i hi)
    rw [e, List.mem_take_iff_getElem]
    exact ⟨j, by omega, rfl⟩
theorem addP_one {l : List Ty} {t : Ty} {l1 l2 : List Ty} {i1 e1 i2 e2 : Int} (hr : rightP l) (h1 : AddP l t l1 i1 e1) (h2 : AddP l t l2 i2 e2) : l1 = l2 ∧ i1 = i2 ∧ e1 = e2 := by
  rcases h1 with ⟨q, hq, a1, a2, a3, a4⟩ | ⟨n1, h1⟩
  · rcases h2 with ⟨r, hr', b1, b2, b3, b4⟩ | ⟨n2, _⟩
    · have := right_inj hr hq hr' (a1.trans b1.symm)
      subst this
      exact ⟨by rw [a2, b2], by rw [a3, b3], by rw [a4, b4]⟩
    · exact absurd (at_mem hq a1) n2
  · rcases h2 with ⟨r, hr', b1, _⟩ | ⟨n2, h2⟩
    · exact absurd (at_mem hr' b1) n1
    · rcases h1 with ⟨m1, a2, a3, a4⟩ | ⟨m1, z1, a2, a3, a4⟩ | ⟨m1, z1, a2, a3, a4⟩ <;> rcases h2 with ⟨m2, b2, b3, b4⟩ | ⟨m2, z2, b2, b3, b4⟩ | ⟨m2, z2, b2, b3, b4⟩
      all_goals first | exact absurd m2 m1 | exact absurd m1 m2 | exact absurd z2 z1 | exact absurd z1 z2 | exact ⟨by rw [a2, b2], by rw [a3, b3], by rw [a4, b4]⟩
theorem at_some {l : List Ty} {t : Ty} {i : Int} (h : atP l t i) (hm : t ∈ l) : ∃ q : Nat, ∃ hq : q < l.length, i = (q : Int) ∧ l[q] = t := by
  rcases h with ⟨_, h⟩ | ⟨q, hq, e1, e2, _⟩
  · exact absurd hm h
  · exact ⟨q, hq, e1, e2⟩

attribute [local irreducible] AC AT AO AK AH ACalls Sub Res.cells Res.obj Res.nix Res.own Res.map Exit.then Exit.inBlock bodyPost Code.wp Next Post Kont
section
variable {W0 : World} {L : List Res} {F : List Fact} {R : Value → List Res → List Fact → Prop}
set_option maxRecDepth 100000
set_option maxHeartbeats 4000000
theorem add2_c (g : Glob W0) (l : List Ty) (hok : ∀ t ∈ l, TyOk t) (t : Ty) (ht : TyOk t) {a a1 a2 : Option Addr} {k c k1 c1 k2 c2 : Nat} (m : fL l a k c ∈ F) (m1 : fW t a1 k1 c1 ∈ F) (m2 : fK t a2 k2 c2 ∈ F)
    (h1 : ¬ rightP l → R (.tuple #[.slice none 0 0, .int .i64 0, .int .i64 1]) L (fL [] none 0 0 :: F))
    (h2 : rightP l → ∀ l' i e a k c, AddP l t l' i e → R (.tuple #[.slice a k c, .int .i64 i, .int .i64 e]) L (fL l' a k c :: F)) :
    ACalls Tryd.prog W0 15 #[.slice a k c, vTy t a1 k1 c1 a2 k2 c2] L F R := by
  refine ACalls.weak (Sub.nilF (sz := 5)) ?_
  refine ACalls.post (R1 := fun v L1 F1 => L1 = L ∧ ((¬ rightP l ∧ v = .tuple #[.slice none 0 0, .int .i64 0, .int .i64 1] ∧ F1 = fL [] none 0 0 :: F) ∨ (rightP l ∧ ∃ l' i e a k c, AddP l t l' i e ∧ v = .tuple #[.slice a k c, .int .i64 i, .int .i64 e] ∧ (∀ f ∈ F, f ∈ F1) ∧ fL l' a k c ∈ F1)))
    (add_c g l hok t ht (List.mem_cons_of_mem _ m) (List.mem_cons_of_mem _ m1) (List.mem_cons_of_mem _ m2)
      (fun n => ⟨rfl, Or.inl ⟨n, rfl, rfl⟩⟩)
      (fun n q hq e => ⟨rfl, Or.inr ⟨n, l, q, 0, a, k, c, Or.inl ⟨q, hq, e, rfl, rfl, rfl⟩, rfl, fun f hf => List.mem_cons_of_mem _ hf, List.mem_cons_of_mem _ m⟩⟩)
      (fun n no nm => ⟨rfl, Or.inr ⟨n, [], 0, 1, none, 0, 0, Or.inr ⟨no, Or.inl ⟨nm, rfl, rfl, rfl⟩⟩, rfl, fun f hf => List.mem_cons_of_mem _ hf, List.mem_cons_self⟩⟩)
      (fun n no nm hl => ⟨rfl, Or.inr ⟨n, [], 0, 7, none, 0, 0, Or.inr ⟨no, Or.inr (Or.inl ⟨nm, hl, rfl, rfl, rfl⟩)⟩, rfl, fun f hf => List.mem_cons_of_mem _ hf, List.mem_cons_self⟩⟩)
      (fun n no nm hl a' k' c' => ⟨rfl, Or.inr ⟨n, l ++ [t], l.length, 0, a', k', c', Or.inr ⟨no, Or.inr (Or.inr ⟨nm, by omega, rfl, rfl, rfl⟩)⟩, rfl, fun f hf => List.mem_cons_of_mem _ (List.mem_cons_of_mem _ hf), List.mem_cons_self⟩⟩)) ?_
  rintro v L1 F1 ⟨rfl, ⟨n, rfl, rfl⟩ | ⟨n, l', i, e, a', k', c', hp, rfl, hf, hm⟩⟩
  · exact ⟨_, _, Sub.refl _ _, h1 n⟩
  · exact ⟨_, _, Sub.facts (mem1 hm hf), h2 n l' i e a' k' c' hp⟩
theorem radd_c (l : List Ty) (hlen : l.length ≤ 402) (t : Ty) (ht : TyOk t) {a a1 a2 : Option Addr} {k c k1 c1 k2 c2 : Nat} (m : fL l a k c ∈ F) (m1 : fW t a1 k1 c1 ∈ F) (m2 : fK t a2 k2 c2 ∈ F)
    (h : ∀ l' i e a k c, AddP l t l' i e → R (.agg #[.slice a k c, .int .i64 i, .int .i64 e]) L (fL l' a k c :: F)) :
    ACalls Tryd.prog W0 16 #[.slice a k c, vTy t a1 k1 c1 a2 k2 c2] L F R := by
  refine ACalls.weak (Sub.nilF (sz := 5)) ?_
  refine ACalls.body Tryd.func16 rfl Tryd.ntmps16 rfl ?_
  refine AC.seq (AC.region (AL.go (AO.box rfl rfl (fun b3 => ?_))))
  refine AL.go (AO.alloc rfl (fun b4 => ?_))
  refine AL.nil (AK.seqN (AC.seq (AC.seq (AC.region (AL.go (AO.move rfl rfl ?_))))))
  refine AL.go (AO.loadBA rfl rfl ?_)
  refine AL.go (AO.call rfl rfl (rat_c l t (by repeat (first | exact mem0 | assumption | refine memS ?_)) (by repeat (first | exact mem0 | assumption | refine memS ?_)) (by repeat (first | exact mem0 | assumption | refine memS ?_)) (fun i8 c8 => ?_)))
  refine AL.go (AO.geq rfl rfl rfl (fun c9 => ?_) (fun c9 => ?_))
  · refine AL.nil (AK.seqN (AC.condT rfl (AC.seq (AC.region (AL.go (AO.move rfl rfl ?_))))))
    refine AL.go (AO.move rfl rfl ?_)
    refine AL.go (AO.loadBA rfl rfl ?_)
    refine AL.go (AO.call rfl rfl (rat_c l t (by repeat (first | exact mem0 | assumption | refine memS ?_)) (by repeat (first | exact mem0 | assumption | refine memS ?_)) (by repeat (first | exact mem0 | assumption | refine memS ?_)) (fun i13 c13 => ?_)))
    obtain ⟨q13, hq13, rfl, e13⟩ := at_some c13 (at_in c8 (by omega))
    refine AL.go (AO.build rfl rfl rfl ?_)
    refine AL.go (AO.storeBA rfl rfl rfl rfl ?_)
    refine AL.nil (AK.seqN (AC.ret (AK.seqR ?_)))
    first
    | exact AK.retV (rs := [.cell 4 _]) (L' := L) (F' := fL l a k c :: F) Tryd.results16 (.agg (j := 0) rfl rfl rfl .nil) (Sub.drop.trans (Sub.drop.trans (Sub.facts (mem1 (by repeat (first | exact mem0 | assumption | refine memS ?_)) (fun x hx => by repeat (first | exact hx | refine List.mem_cons_of_mem _ ?_)))))) (h l q13 0 a k c (Or.inl ⟨q13, hq13, e13, rfl, rfl, rfl⟩))
    | exact AK.retV (rs := [.cell 4 _]) (L' := L) (F' := fL [] none 0 0 :: F) Tryd.results16 (.agg (j := 0) rfl rfl rfl .nil) (by repeat (first | exact Sub.refl _ _ | refine Sub.trans Sub.drop ?_ | refine Sub.trans Sub.dropF ?_)) (h [] 0 1 none 0 0 (Or.inr ⟨hno, Or.inl ⟨c17, rfl, rfl, rfl⟩⟩))
    | exact AK.retV (rs := [.cell 4 _]) (L' := L) (F' := fL [] none 0 0 :: F) Tryd.results16 (.agg (j := 0) rfl rfl rfl .nil) (by repeat (first | exact Sub.refl _ _ | refine Sub.trans Sub.drop ?_ | refine Sub.trans Sub.dropF ?_)) (h [] 0 7 none 0 0 (Or.inr ⟨hno, Or.inr (Or.inl ⟨c17, by omega, rfl, rfl, rfl⟩)⟩))
    | exact AK.retV (rs := [.cell 4 _]) (L' := L) (F' := fL (l ++ [t]) a31 k31 c31 :: F) Tryd.results16 (.agg (j := 1) rfl rfl rfl .nil) ((Sub.commit (i := 0) rfl).trans (Sub.drop.trans (Sub.drop.trans (Sub.drop.trans (Sub.headF (fun x hx => by repeat (first | exact hx | refine List.mem_cons_of_mem _ ?_))))))) (h (l ++ [t]) l.length 0 a31 k31 c31 (Or.inr ⟨hno, Or.inr (Or.inr ⟨c17, by omega, rfl, rfl, rfl⟩)⟩))
  · refine AL.nil (AK.seqN (AC.condF rfl (AC.skip (AK.seqN (AC.seq ?_)))))
    refine AC.seq (AC.region (AL.go (AO.move rfl rfl ?_)))
    refine AL.go (AO.loadBA rfl rfl ?_)
    have hno := at_out c8 (by omega)
    refine AL.go (AO.call rfl rfl (rmade_c l t ht (by repeat (first | exact mem0 | assumption | refine memS ?_)) (by repeat (first | exact mem0 | assumption | refine memS ?_)) (by repeat (first | exact mem0 | assumption | refine memS ?_)) (fun c17 => ?_) (fun c17 => ?_)))
    · refine AL.go (AO.not rfl rfl (AL.nil (AK.seqN (AC.condF rfl (AC.skip (AK.seqN ?_))))))
      refine AC.seq (AC.seq (AC.region (AL.go (AO.move rfl rfl ?_))))
      refine AL.go (AO.len rfl rfl (fun hl21 => ?_) (hm := by repeat (first | exact mem0 | assumption | refine memS ?_)))
      refine AL.go (AO.eql rfl rfl rfl (fun c22 => ?_) (fun c22 => ?_))
      · refine AL.nil (AK.seqN (AC.condT rfl (AC.seq (AC.region ?_))))
        refine AL.go (AO.build rfl rfl rfl ?_)
        refine AL.go (AO.storeBA rfl rfl rfl rfl ?_)
        refine AL.nil (AK.seqN (AC.ret (AK.seqR ?_)))
        first
        | exact AK.retV (rs := [.cell 4 _]) (L' := L) (F' := fL l a k c :: F) Tryd.results16 (.agg (j := 0) rfl rfl rfl .nil) (Sub.drop.trans (Sub.drop.trans (Sub.facts (mem1 (by repeat (first | exact mem0 | assumption | refine memS ?_)) (fun x hx => by repeat (first | exact hx | refine List.mem_cons_of_mem _ ?_)))))) (h l q13 0 a k c (Or.inl ⟨q13, hq13, e13, rfl, rfl, rfl⟩))
        | exact AK.retV (rs := [.cell 4 _]) (L' := L) (F' := fL [] none 0 0 :: F) Tryd.results16 (.agg (j := 0) rfl rfl rfl .nil) (by repeat (first | exact Sub.refl _ _ | refine Sub.trans Sub.drop ?_ | refine Sub.trans Sub.dropF ?_)) (h [] 0 1 none 0 0 (Or.inr ⟨hno, Or.inl ⟨c17, rfl, rfl, rfl⟩⟩))
        | exact AK.retV (rs := [.cell 4 _]) (L' := L) (F' := fL [] none 0 0 :: F) Tryd.results16 (.agg (j := 0) rfl rfl rfl .nil) (by repeat (first | exact Sub.refl _ _ | refine Sub.trans Sub.drop ?_ | refine Sub.trans Sub.dropF ?_)) (h [] 0 7 none 0 0 (Or.inr ⟨hno, Or.inr (Or.inl ⟨c17, by omega, rfl, rfl, rfl⟩)⟩))
        | exact AK.retV (rs := [.cell 4 _]) (L' := L) (F' := fL (l ++ [t]) a31 k31 c31 :: F) Tryd.results16 (.agg (j := 1) rfl rfl rfl .nil) ((Sub.commit (i := 0) rfl).trans (Sub.drop.trans (Sub.drop.trans (Sub.drop.trans (Sub.headF (fun x hx => by repeat (first | exact hx | refine List.mem_cons_of_mem _ ?_))))))) (h (l ++ [t]) l.length 0 a31 k31 c31 (Or.inr ⟨hno, Or.inr (Or.inr ⟨c17, by omega, rfl, rfl, rfl⟩)⟩))
      · refine AL.nil (AK.seqN (AC.condF rfl (AC.skip (AK.seqN (AC.seq ?_)))))
        refine AC.region ?_
        refine AL.go (AO.buildSlice0 rfl (fun b24 => ?_))
        refine AT.sub (Sub.toOwn (i := 0) (k := 0) (sz := 5) (enc := eTy) [] rfl .nil (fun _ => rfl) rfl (by decide)) ?_
        refine AL.go (AO.assign rfl rfl (AL.nil (AK.seqN (AC.seq (AC.region (AL.go (AO.move rfl rfl ?_)))))))
        refine AL.go (AO.move rfl rfl ?_)
        refine AL.go (AO.appendF (i := 0) (enc := eTy) (lst := []) (lst2 := l) rfl rfl rfl rfl (by repeat (first | exact mem0 | assumption | refine memS ?_)) eTy_one (fun _ => rfl) (by simp only [maxLen, List.length_nil]; omega) (by simp only [List.length_nil]; omega) (fun a27 k27 c27 => ?_))
        refine AL.go (AO.assign rfl rfl (AL.nil (AK.seqN (AC.seq (AC.region (AL.go (AO.move rfl rfl ?_)))))))
        refine AL.go (AO.loadBA rfl rfl ?_)
        refine AL.go (AO.buildSlice rfl rfl rfl rfl rfl (fun b30 => ?_))
        refine AL.go (AO.append (i := 0) (enc := eTy) (lst := l) [t] rfl rfl rfl rfl (.val (.val (.val (.slc (.slc .nil (by repeat (first | exact mem0 | assumption | refine memS ?_))) (by repeat (first | exact mem0 | assumption | refine memS ?_)))))) rfl rfl (fun _ => rfl) (by simp only [maxLen]; omega) (by omega) (fun a31 k31 c31 => ?_))
        refine AL.go (AO.assign rfl rfl (AL.nil (AK.seqN (AC.seq (AC.region (AL.go (AO.move rfl rfl ?_)))))))
        refine AL.go (AO.move rfl rfl ?_)
        refine AL.go (AO.len rfl rfl (fun hl34 => ?_) (hm := by repeat (first | exact mem0 | assumption | refine memS ?_)))
        refine AL.go (AO.build rfl rfl rfl ?_)
        refine AL.go (AO.storeBA rfl rfl rfl rfl ?_)
        refine AL.nil (AK.seqN (AC.ret ?_))
        first
        | exact AK.retV (rs := [.cell 4 _]) (L' := L) (F' := fL l a k c :: F) Tryd.results16 (.agg (j := 0) rfl rfl rfl .nil) (Sub.drop.trans (Sub.drop.trans (Sub.facts (mem1 (by repeat (first | exact mem0 | assumption | refine memS ?_)) (fun x hx => by repeat (first | exact hx | refine List.mem_cons_of_mem _ ?_)))))) (h l q13 0 a k c (Or.inl ⟨q13, hq13, e13, rfl, rfl, rfl⟩))
        | exact AK.retV (rs := [.cell 4 _]) (L' := L) (F' := fL [] none 0 0 :: F) Tryd.results16 (.agg (j := 0) rfl rfl rfl .nil) (by repeat (first | exact Sub.refl _ _ | refine Sub.trans Sub.drop ?_ | refine Sub.trans Sub.dropF ?_)) (h [] 0 1 none 0 0 (Or.inr ⟨hno, Or.inl ⟨c17, rfl, rfl, rfl⟩⟩))
        | exact AK.retV (rs := [.cell 4 _]) (L' := L) (F' := fL [] none 0 0 :: F) Tryd.results16 (.agg (j := 0) rfl rfl rfl .nil) (by repeat (first | exact Sub.refl _ _ | refine Sub.trans Sub.drop ?_ | refine Sub.trans Sub.dropF ?_)) (h [] 0 7 none 0 0 (Or.inr ⟨hno, Or.inr (Or.inl ⟨c17, by omega, rfl, rfl, rfl⟩)⟩))
        | exact AK.retV (rs := [.cell 4 _]) (L' := L) (F' := fL (l ++ [t]) a31 k31 c31 :: F) Tryd.results16 (.agg (j := 1) rfl rfl rfl .nil) ((Sub.commit (i := 0) rfl).trans (Sub.drop.trans (Sub.drop.trans (Sub.drop.trans (Sub.headF (fun x hx => by repeat (first | exact hx | refine List.mem_cons_of_mem _ ?_))))))) (h (l ++ [t]) l.length 0 a31 k31 c31 (Or.inr ⟨hno, Or.inr (Or.inr ⟨c17, by omega, rfl, rfl, rfl⟩)⟩))
    · refine AL.go (AO.not rfl rfl (AL.nil (AK.seqN (AC.condT rfl (AC.seq (AC.region ?_))))))
      refine AL.go (AO.build rfl rfl rfl ?_)
      refine AL.go (AO.storeBA rfl rfl rfl rfl ?_)
      refine AL.nil (AK.seqN (AC.ret (AK.seqR ?_)))
      first
      | exact AK.retV (rs := [.cell 4 _]) (L' := L) (F' := fL l a k c :: F) Tryd.results16 (.agg (j := 0) rfl rfl rfl .nil) (Sub.drop.trans (Sub.drop.trans (Sub.facts (mem1 (by repeat (first | exact mem0 | assumption | refine memS ?_)) (fun x hx => by repeat (first | exact hx | refine List.mem_cons_of_mem _ ?_)))))) (h l q13 0 a k c (Or.inl ⟨q13, hq13, e13, rfl, rfl, rfl⟩))
      | exact AK.retV (rs := [.cell 4 _]) (L' := L) (F' := fL [] none 0 0 :: F) Tryd.results16 (.agg (j := 0) rfl rfl rfl .nil) (by repeat (first | exact Sub.refl _ _ | refine Sub.trans Sub.drop ?_ | refine Sub.trans Sub.dropF ?_)) (h [] 0 1 none 0 0 (Or.inr ⟨hno, Or.inl ⟨c17, rfl, rfl, rfl⟩⟩))
      | exact AK.retV (rs := [.cell 4 _]) (L' := L) (F' := fL [] none 0 0 :: F) Tryd.results16 (.agg (j := 0) rfl rfl rfl .nil) (by repeat (first | exact Sub.refl _ _ | refine Sub.trans Sub.drop ?_ | refine Sub.trans Sub.dropF ?_)) (h [] 0 7 none 0 0 (Or.inr ⟨hno, Or.inr (Or.inl ⟨c17, by omega, rfl, rfl, rfl⟩)⟩))
      | exact AK.retV (rs := [.cell 4 _]) (L' := L) (F' := fL (l ++ [t]) a31 k31 c31 :: F) Tryd.results16 (.agg (j := 1) rfl rfl rfl .nil) ((Sub.commit (i := 0) rfl).trans (Sub.drop.trans (Sub.drop.trans (Sub.drop.trans (Sub.headF (fun x hx => by repeat (first | exact hx | refine List.mem_cons_of_mem _ ?_))))))) (h (l ++ [t]) l.length 0 a31 k31 c31 (Or.inr ⟨hno, Or.inr (Or.inr ⟨c17, by omega, rfl, rfl, rfl⟩)⟩))
theorem adds_c (g : Glob W0) (l : List Ty) (hl : ∀ t ∈ l, TyIn t) (t : Ty) (ht : TyIn t) {a a1 a2 : Option Addr} {k c k1 c1 k2 c2 : Nat} (m : fL l a k c ∈ F) (m1 : fW t a1 k1 c1 ∈ F) (m2 : fK t a2 k2 c2 ∈ F) (h : R (.bool true) L F) :
    ACalls Tryd.prog W0 4 #[.slice a k c, vTy t a1 k1 c1 a2 k2 c2] L F R := by
  have hok := few_tok (m := 402) hl
  have hto := one_ok ht
  have hlen : (fewT l 402).length ≤ 402 := by simp only [fewT, List.length_map, List.length_take]; omega
  refine ACalls.body Tryd.func4 rfl Tryd.ntmps4 rfl ?_
  refine AC.seq (AC.region (AL.go (AO.box rfl rfl (fun b3 => ?_))))
  refine AL.go (AO.assign rfl rfl (AL.nil (AK.seqN (AC.seq ?_))))
  refine AC.draw (fun i => Nat.beq i 5) [(b3, _, _)] (by repeat (first | exact BxIn.nil | refine BxIn.cons (by repeat (first | exact has0 | assumption | apply hasS)) ?_)) rfl (fun hx hX => ?_)
  refine AH.takeW (i := 0) rfl (Y.move rfl) (by kernel_rfl) rfl rfl ?_
  refine AH.takeS (i := 2) rfl (Y.loadBA rfl (by repeat (first | exact List.Mem.head _ | refine List.Mem.tail _ ?_)) (by rfl)) (by kernel_rfl) (by kernel_rfl) rfl rfl rfl ?_
  refine AH.one (i := 1) (by kernel_rfl) rfl rfl (fun _ => ?_)
  refine AO.call rfl rfl (tfew_c l 402 (by decide) (by repeat (first | exact mem0 | assumption | refine memS ?_)) (fun a10 k10 c10 => ?_))
  refine AT.held (by repeat (first | exact BxIn.nil | refine BxIn.cons (by repeat (first | exact has0 | assumption | apply hasS)) ?_)) (by repeat (first | exact mem0 | refine memS ?_)) ?_
  refine AH.one (i := 3) (by kernel_rfl) rfl rfl (fun _ => ?_)
  refine AO.call rfl rfl (one_c t (by repeat (first | exact mem0 | assumption | refine memS ?_)) (by repeat (first | exact mem0 | assumption | refine memS ?_)) (fun a12 k12 c12 d12 e12 f12 => ?_))
  refine AT.held (by repeat (first | exact BxIn.nil | refine BxIn.cons (by repeat (first | exact has0 | assumption | apply hasS)) ?_)) (by repeat (first | exact mem0 | refine memS ?_)) ?_
  refine AH.takeW (i := 4) rfl (Y.assign rfl) (by kernel_rfl) rfl rfl ?_
  refine AH.one (i := 5) (by kernel_rfl) rfl rfl (fun _ => ?_)
  refine AO.storeBA rfl rfl rfl rfl ?_
  refine AT.spoilt rfl ?_
  refine AH.done (by kernel_rfl) ?_
  refine AK.seqN (AC.seq (AC.region (AL.go (AO.move rfl rfl ?_))))
  refine AL.go (AO.loadBA rfl rfl ?_)
  refine AL.go (AO.call rfl rfl (add2_c g (fewT l 402) hok (oneT t) hto (by repeat (first | exact mem0 | assumption | refine memS ?_)) (by repeat (first | exact mem0 | assumption | refine memS ?_)) (by repeat (first | exact mem0 | assumption | refine memS ?_)) (fun n16 => ?_) (fun n16 l16 i16 e16 a16 k16 c16 p16 => ?_)))
  · refine AL.go (AO.move rfl rfl (AL.go (AO.extract rfl rfl rfl (AL.go (AO.extract rfl rfl rfl (AL.go (AO.extract rfl rfl rfl (AL.go (AO.assign rfl rfl (AL.go (AO.assign rfl rfl ?_)))))))))))
    refine AL.go (AO.assign rfl rfl (AL.nil (AK.seqN (AC.seq (AC.seq (AC.region ?_))))))
    refine AL.go (AO.move rfl rfl ?_)
    refine AL.go (AO.call rfl rfl (rright_c (fewT l 402) hok (by repeat (first | exact mem0 | assumption | refine memS ?_)) (fun c21 => absurd c21 n16) (fun c21 => ?_)))
    refine AL.go (AO.not rfl rfl (AL.nil (AK.seqN (AC.condT rfl (AC.seq (AC.region ?_))))))
    refine AL.go (AO.call rfl rfl (alive_c g ?_))
    refine AL.go (AO.move rfl rfl (AL.yes rfl rfl (AO.move rfl rfl ?_)))
    refine AL.yes rfl rfl (AO.eql rfl rfl rfl (fun c26 => ?_) (fun c26 => ?_))
    · refine AL.go (AO.pickT rfl rfl rfl (AL.go (AO.move rfl rfl (AL.yes rfl rfl (AO.move rfl rfl ?_)))))
      refine AL.yes rfl rfl (AO.len rfl rfl (fun hl30 => ?_) (enc := eTy) (lst := ([] : List Ty)) (hm := (by repeat (first | exact mem0 | assumption | refine memS ?_))))
      refine AL.yes rfl rfl (AO.eql rfl rfl rfl (fun c31 => ?_) (fun c31 => ?_))
      · refine AL.go (AO.pickT rfl rfl rfl (AL.go (AO.move rfl rfl (AL.yes rfl rfl (AO.move rfl rfl ?_)))))
        refine AL.yes rfl rfl (AO.eql rfl rfl rfl (fun c35 => ?_) (fun c35 => ?_))
        · refine AL.go (AO.pickT rfl rfl rfl (AL.go (AO.assign rfl rfl (AL.nil (AK.seqN (AC.ret (AK.seqR ?_)))))))
          first | exact AK.ret (L' := L) (F' := F) Tryd.results4 rfl (by repeat (first | exact Sub.refl _ _ | refine Sub.trans Sub.drop ?_ | refine Sub.trans Sub.dropF ?_)) h | exact absurd rfl c26 | exact absurd rfl c31 | exact absurd rfl c35 | exact absurd rfl c45 | exact absurd rfl c51
        · refine AL.go (AO.pickT rfl rfl rfl (AL.go (AO.assign rfl rfl (AL.nil (AK.seqN (AC.ret (AK.seqR ?_)))))))
          first | exact AK.ret (L' := L) (F' := F) Tryd.results4 rfl (by repeat (first | exact Sub.refl _ _ | refine Sub.trans Sub.drop ?_ | refine Sub.trans Sub.dropF ?_)) h | exact absurd rfl c26 | exact absurd rfl c31 | exact absurd rfl c35 | exact absurd rfl c45 | exact absurd rfl c51
      · refine AL.go (AO.pickT rfl rfl rfl (AL.go (AO.move rfl rfl (AL.no rfl rfl rfl rfl (AL.no rfl rfl rfl rfl (AL.go (AO.pickF rfl rfl rfl (AL.go (AO.assign rfl rfl ?_)))))))))
        refine AL.nil (AK.seqN (AC.ret (AK.seqR ?_)))
        first | exact AK.ret (L' := L) (F' := F) Tryd.results4 rfl (by repeat (first | exact Sub.refl _ _ | refine Sub.trans Sub.drop ?_ | refine Sub.trans Sub.dropF ?_)) h | exact absurd rfl c26 | exact absurd rfl c31 | exact absurd rfl c35 | exact absurd rfl c45 | exact absurd rfl c51
    · refine AL.go (AO.pickT rfl rfl rfl (AL.go (AO.move rfl rfl (AL.no rfl rfl rfl rfl (AL.no rfl rfl rfl rfl (AL.no rfl rfl rfl rfl (AL.go (AO.pickF rfl rfl rfl ?_))))))))
      refine AL.go (AO.move rfl rfl (AL.no rfl rfl rfl rfl (AL.no rfl rfl rfl rfl (AL.go (AO.pickF rfl rfl rfl (AL.go (AO.assign rfl rfl (AL.nil ?_))))))))
      refine AK.seqN (AC.ret (AK.seqR ?_))
      first | exact AK.ret (L' := L) (F' := F) Tryd.results4 rfl (by repeat (first | exact Sub.refl _ _ | refine Sub.trans Sub.drop ?_ | refine Sub.trans Sub.dropF ?_)) h | exact absurd rfl c26 | exact absurd rfl c31 | exact absurd rfl c35 | exact absurd rfl c45 | exact absurd rfl c51
  · refine AL.go (AO.move rfl rfl (AL.go (AO.extract rfl rfl rfl (AL.go (AO.extract rfl rfl rfl (AL.go (AO.extract rfl rfl rfl (AL.go (AO.assign rfl rfl (AL.go (AO.assign rfl rfl ?_)))))))))))
    refine AL.go (AO.assign rfl rfl (AL.nil (AK.seqN (AC.seq (AC.seq (AC.region ?_))))))
    refine AL.go (AO.move rfl rfl ?_)
    refine AL.go (AO.call rfl rfl (rright_c (fewT l 402) hok (by repeat (first | exact mem0 | assumption | refine memS ?_)) (fun c21 => ?_) (fun c21 => absurd n16 c21)))
    refine AL.go (AO.not rfl rfl (AL.nil (AK.seqN (AC.condF rfl (AC.skip (AK.seqN ?_))))))
    refine AC.seq (AC.region (AL.go (AO.move rfl rfl ?_)))
    refine AL.go (AO.loadBA rfl rfl ?_)
    refine AL.go (AO.call rfl rfl (radd_c (fewT l 402) hlen (oneT t) hto (by repeat (first | exact mem0 | assumption | refine memS ?_)) (by repeat (first | exact mem0 | assumption | refine memS ?_)) (by repeat (first | exact mem0 | assumption | refine memS ?_)) (fun l39 i39 e39 a39 k39 c39 p39 => ?_)))
    obtain ⟨rfl, rfl, rfl⟩ := addP_one n16 p16 p39
    refine AL.go (AO.alloc rfl (fun b8 => ?_))
    refine AL.go (AO.storeBA rfl rfl rfl rfl ?_)
    refine AL.nil (AK.seqN (AC.seq (AC.region ?_)))
    refine AL.go (AO.call rfl rfl (alive_c g ?_))
    refine AL.go (AO.move rfl rfl (AL.yes rfl rfl (AO.move rfl rfl (AL.yes rfl rfl (AO.field rfl rfl ?_)))))
    refine AL.yes rfl rfl (AO.loadB rfl rfl ?_)
    refine AL.yes rfl rfl (AO.eql rfl rfl rfl (fun c45 => ?_) (fun c45 => ?_))
    · refine AL.go (AO.pickT rfl rfl rfl (AL.go (AO.move rfl rfl (AL.yes rfl rfl (AO.move rfl rfl (AL.yes rfl rfl (AO.field rfl rfl ?_)))))))
      refine AL.yes rfl rfl (AO.loadB rfl rfl ?_)
      refine AL.yes rfl rfl (AO.eql rfl rfl rfl (fun c51 => ?_) (fun c51 => ?_))
      · refine AL.go (AO.pickT rfl rfl rfl (AL.go (AO.move rfl rfl (AL.yes rfl rfl (AO.move rfl rfl (AL.yes rfl rfl (AO.field rfl rfl ?_)))))))
        refine AL.yes rfl rfl (AO.loadB rfl rfl ?_)
        refine AL.yes rfl rfl (AO.call rfl rfl (ref_Arenas_c l16 l16 (fun c57 => ?_) (fun c57 => absurd rfl c57) (by repeat (first | exact mem0 | assumption | refine memS ?_)) (by repeat (first | exact mem0 | assumption | refine memS ?_))))
        refine AL.go (AO.pickT rfl rfl rfl (AL.go (AO.assign rfl rfl (AL.nil (AK.seqN (AC.ret ?_))))))
        first | exact AK.ret (L' := L) (F' := F) Tryd.results4 rfl (by repeat (first | exact Sub.refl _ _ | refine Sub.trans Sub.drop ?_ | refine Sub.trans Sub.dropF ?_)) h | exact absurd rfl c26 | exact absurd rfl c31 | exact absurd rfl c35 | exact absurd rfl c45 | exact absurd rfl c51
      · refine AL.go (AO.pickT rfl rfl rfl (AL.go (AO.move rfl rfl (AL.no rfl rfl rfl rfl (AL.no rfl rfl rfl rfl (AL.no rfl rfl rfl rfl (AL.no rfl rfl rfl rfl ?_)))))))
        refine AL.go (AO.pickF rfl rfl rfl (AL.go (AO.assign rfl rfl (AL.nil (AK.seqN (AC.ret ?_))))))
        first | exact AK.ret (L' := L) (F' := F) Tryd.results4 rfl (by repeat (first | exact Sub.refl _ _ | refine Sub.trans Sub.drop ?_ | refine Sub.trans Sub.dropF ?_)) h | exact absurd rfl c26 | exact absurd rfl c31 | exact absurd rfl c35 | exact absurd rfl c45 | exact absurd rfl c51
    · refine AL.go (AO.pickT rfl rfl rfl (AL.go (AO.move rfl rfl (AL.no rfl rfl rfl rfl (AL.no rfl rfl rfl rfl (AL.no rfl rfl rfl rfl (AL.no rfl rfl rfl rfl ?_)))))))
      refine AL.go (AO.pickF rfl rfl rfl (AL.go (AO.move rfl rfl (AL.no rfl rfl rfl rfl (AL.no rfl rfl rfl rfl (AL.no rfl rfl rfl rfl (AL.no rfl rfl rfl rfl ?_)))))))
      refine AL.go (AO.pickF rfl rfl rfl (AL.go (AO.assign rfl rfl (AL.nil (AK.seqN (AC.ret ?_))))))
      first | exact AK.ret (L' := L) (F' := F) Tryd.results4 rfl (by repeat (first | exact Sub.refl _ _ | refine Sub.trans Sub.drop ?_ | refine Sub.trans Sub.dropF ?_)) h | exact absurd rfl c26 | exact absurd rfl c31 | exact absurd rfl c35 | exact absurd rfl c45 | exact absurd rfl c51
end
end Go.Sy
