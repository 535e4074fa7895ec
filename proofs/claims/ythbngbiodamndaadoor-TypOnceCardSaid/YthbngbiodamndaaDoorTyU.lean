/- Texts of types: the walks of what a text is made of. -/
import Derived.Test.YthbngbiodamndaaDoorTyT
import Derived.Test.YthbngbiodamndaaDoorFwU
namespace Go.Sy
open Go Go.Proofs Go.RowKit

theorem gjoin_len {m : Nat} (sep : List UInt8) : ∀ (l : List (List UInt8)), (∀ s ∈ l, s.length ≤ m) → (Lib.join l sep).length ≤ (m + sep.length) * l.length
  | [], _ => by simp [Lib.join, List.intercalate]
  | [s], h => by have := h s (by simp); simp [Lib.join, List.intercalate]; omega
  | s :: t :: l, h => by
    have ih := gjoin_len sep (t :: l) (fun x hx => h x (List.mem_cons_of_mem _ hx))
    have hs := h s (by simp)
    have e : Lib.join (s :: t :: l) sep = s ++ (sep ++ Lib.join (t :: l) sep) := by simp [Lib.join, List.intercalate, List.intersperse]
    rw [e]
    simp only [List.length_append, List.length_cons] at ih ⊢
    have : (m + sep.length) * (l.length + 1 + 1) = (m + sep.length) * (l.length + 1) + (m + sep.length) := by rw [Nat.mul_succ]
    omega
/-- What is known so far is right. -/
def MapOk (T : Int → List UInt8) (m : Int → Option (List UInt8)) : Prop := ∀ k s, m k = some s → s = T k
theorem MapOk.upd {T : Int → List UInt8} {m : Int → Option (List UInt8)} (h : MapOk T m) {k : Int} {s : List UInt8} (e : s = T k) : MapOk T (upd m k s) := by
  intro x y hx
  by_cases hk : x = k
  · subst hk; rw [upd_self] at hx; injection hx with hx; rw [← hx, e]
  · rw [upd_ne _ hk] at hx; exact h x y hx
theorem set_same {α : Type} {L : List α} {j : Nat} {X : α} (h : L[j]? = some X) : L.set j X = L := by
  obtain ⟨hj, e⟩ := List.getElem?_eq_some_iff.1 h
  rw [← e]; exact List.set_getElem_self hj
theorem set_at {α : Type} {L : List α} {i j : Nat} {X Y : α} (h : L[i]? = some X) (hij : i ≠ j) : (L.set j Y)[i]? = some X := (List.getElem?_set_ne (Ne.symm hij)).trans h

attribute [local irreducible] AC AT AO AK AH ACalls Sub Res.cells Res.obj Res.nix Res.own Res.map Exit.then Exit.inBlock bodyPost Code.wp Next Post Kont
section
variable {W0 : World} {L : List Res} {F : List Fact} {R : Value → List Res → List Fact → Prop}
set_option maxRecDepth 100000
set_option maxHeartbeats 4000000
theorem gjoin_c (l : List (List UInt8)) (sep : List UInt8) {a : Option Addr} {k c : Nat} (m1 : Fact.slc (.slice a k c) 1 (l.map eS) ∈ F) (hl : l.length ≤ 1000) (hj : (Lib.join l sep).length ≤ 100000000) (h : R (S (Lib.join l sep)) L F) : ACalls Tryd.prog W0 53 #[.slice a k c, S sep] L F R := by
  refine ACalls.lib (fun w sat => ?_) h
  obtain ⟨a', c', e, hc, hne⟩ := sat.slcAt (en := S) m1
  injection e with e1 e2 e3
  subst e1 e2 e3
  cases l with
  | nil =>
    refine (Tryd.strings_Join_none a c ⟨sep.toArray⟩ w).mono fun e w' he => ⟨he.1, by rw [he.2]; exact Below.refl _ _⟩
  | cons x l =>
    obtain ⟨b, o, rfl, hb, hcell⟩ := hne (by simp)
    have := Tryd.strings_Join b o c ((x :: l).map fun s => ⟨s.toArray⟩) ⟨sep.toArray⟩ w (by
      intro j y hy
      rw [List.getElem?_map] at hy
      cases hx : (x :: l)[j]? with
      | none => rw [hx] at hy; simp at hy
      | some z => rw [hx] at hy; simp at hy; subst hy; exact hcell j z hx) hb (by simp at hl ⊢; omega) (by simpa using hc) (by
        have e : ((x :: l).map fun s => (⟨s.toArray⟩ : ByteArray)).map (·.data.toList) = x :: l := by rw [List.map_map]; simp [Function.comp_def]
        rw [e]; show (Lib.join (x :: l) sep).length ≤ _; omega)
    have e : ((x :: l).map fun s => (⟨s.toArray⟩ : ByteArray)).map (·.data.toList) = x :: l := by rw [List.map_map]; simp [Function.comp_def]
    rw [e, List.length_map] at this
    exact this
/-- A writer's text of any place below 'n'. -/
def TextC (W0 : World) (l : List Ty) (T : Int → List UInt8) (a : Option Addr) (k c bw bm n : Nat) : Prop :=
  ∀ (x : Int), 0 ≤ x → x < n → ∀ (L : List Res) (F : List Fact) (R : Value → List Res → List Fact → Prop) (i j : Nat) (m : Int → Option (List UInt8)), fL l a k c ∈ F → L[i]? = some (Res.cells bw #[.slice a k c, .map (some bm)] 66) → L[j]? = some (Res.map bm vI S m) → i ≠ j → MapOk T m →
    (∀ m', MapOk T m' → R (S (T x)) (L.set j (Res.map bm vI S m')) F) → ACalls Tryd.prog W0 33 #[.pointer (some ⟨bw, 0, none⟩), .int .i64 x] L F R
theorem all_c (l : List Ty) (T : Int → List UInt8) {a : Option Addr} {k c bw bm n : Nat} (ih : TextC W0 l T a k c bw bm n) (ks : List Int) (hks : ∀ x ∈ ks, 0 ≤ x ∧ x < n) (hfew : ks.length ≤ 16) {a2 : Option Addr} {k2 c2 i j : Nat} {m : Int → Option (List UInt8)} (mL : fL l a k c ∈ F) (m2 : Fact.slc (.slice a2 k2 c2) 1 (ks.map eI) ∈ F)
    (hi : L[i]? = some (Res.cells bw #[.slice a k c, .map (some bm)] 66)) (hj : L[j]? = some (Res.map bm vI S m)) (hij : i ≠ j) (hm : MapOk T m)
    (h : ∀ m' a k c, MapOk T m' → R (.slice a k c) (Res.own (.slice a k c) 9 1 ((ks.map T).map eS) :: L.set j (Res.map bm vI S m')) F) : ACalls Tryd.prog W0 52 #[.pointer (some ⟨bw, 0, none⟩), .slice a2 k2 c2] L F R := by
  have hjl := has_lt hj
  refine ACalls.body Tryd.func52 rfl Tryd.ntmps52 rfl ?_
  refine AC.seq (AC.region (AL.go (AO.assign rfl rfl (AL.nil (AK.seqN (AC.seq ?_))))))
  refine AC.region (AL.go (AO.assign rfl rfl (AL.nil (AK.seqN (AC.seq (AC.seq ?_))))))
  refine AC.region (AL.go (AO.move rfl rfl ?_))
  refine AL.go (AO.len rfl rfl (fun hl9 => ?_) (hm := by repeat (first | exact mem0 | assumption | refine memS ?_)))
  refine AL.go (AO.move rfl rfl (AL.nil (AK.seqN (AC.block ?_))))
  refine AC.loop (fun (x : Nat × (Option Addr × Nat × Nat) × (Int → Option (List UInt8))) => x.1 ≤ ks.length ∧ MapOk T x.2.2) (fun x => [(0, .pointer (some ⟨bw, 0, none⟩)), (5, .slice x.2.1.1 x.2.1.2.1 x.2.1.2.2), (8, .slice a2 k2 c2), (9, .int .i64 ks.length), (10, .int .i64 (x.1 : Int))]) (fun x => Res.own (.slice x.2.1.1 x.2.1.2.1 x.2.1.2.2) 9 1 (((ks.take x.1).map T).map eS) :: L.set j (Res.map bm vI S x.2.2)) (fun _ => F) (fun x => ks.length - x.1) (0, (none, 0, 0), m) ⟨by simp, hm⟩ (by repeat (first | exact SubR.nil | refine SubR.cons rfl ?_)) (by simp only [set_same hj]; exact Sub.ownNil) ?_
  rintro ⟨q, ⟨a3, k3, c3⟩, m3⟩ ⟨hq, hm3⟩
  simp only at hq hm3 ⊢
  refine AC.seq (AC.region ?_)
  refine AL.go (AO.lss rfl rfl rfl (fun c11 => ?_) (fun c11 => ?_))
  · refine AL.nil (AK.seqN (AC.seq (AC.condT rfl (AC.skip (AK.seqN ?_)))))
    refine AC.seq (AC.block (AC.seq (AC.region ?_)))
    have hql : q < ks.length := by omega
    have hb := hks _ (List.getElem_mem hql)
    refine AL.go (AO.indexAddr rfl rfl rfl rfl (by repeat (first | exact mem0 | assumption | refine memS ?_)) hql (fun _ _ => ?_))
    refine AL.go (AO.loadF rfl rfl ?_)
    intros
    refine AL.go (AO.assign rfl rfl (AL.nil (AK.seqN (AC.region (AL.go (AO.move rfl rfl (AL.go (AO.move rfl rfl ?_))))))))
    refine AL.go (AO.move rfl rfl ?_)
    refine AL.go (AO.call rfl rfl (ih ks[q] hb.1 hb.2 _ _ _ (i + 1) (j + 1) m3 (by repeat (first | exact mem0 | assumption | refine memS ?_)) (set_at hi hij) (List.getElem?_set_self hjl) (by omega) hm3 (fun m17 hm17 => ?_)))
    simp only [List.set_cons_succ, List.set_set]
    refine AL.go (AO.buildSlice rfl rfl rfl rfl rfl (fun b18 => ?_))
    have htl : ((ks.take q).map T).length = q := by rw [List.length_map, List.length_take]; omega
    refine AL.go (AO.append (i := 0) (enc := eS) (lst := (ks.take q).map T) [T ks[q]] rfl rfl rfl rfl (.val .nil) rfl rfl (fun _ => rfl) (by rw [htl]; simp only [maxLen]; omega) (by rw [htl]; omega) (fun a19 k19 c19 => ?_))
    have hstep : (ks.take q).map T ++ [T ks[q]] = (ks.take (q + 1)).map T := by rw [List.take_succ_eq_append_getElem hql, List.map_append]; rfl
    rw [hstep]
    refine AL.go (AO.assign rfl rfl (AL.nil (AK.blkN (AK.seqN (AC.region (AL.go (AO.add rfl rfl rfl (by omega) (by omega) ?_)))))))
    refine AL.go (AO.move rfl rfl (AL.nil ?_))
    refine AK.next (q + 1, (a19, k19, c19), m17) ⟨by simp only; omega, hm17⟩ (by simp only; omega) (by repeat (first | exact SubR.nil | refine SubR.cons rfl ?_)) (by repeat (first | exact Sub.refl _ _ | refine Sub.trans Sub.dropF ?_))
  · refine AL.nil (AK.seqN (AC.seq (AC.condF rfl (AC.exit (AK.seqX ?_)))))
    refine AK.seqX (AK.blkX (AK.seqN (AC.seq (AC.region (AL.go (AO.move rfl rfl ?_))))))
    refine AL.go (AO.assign rfl rfl (AL.nil (AK.seqN (AC.ret ?_))))
    have hall : ks.take q = ks := List.take_of_length_le (by omega)
    rw [hall]
    exact AK.ret Tryd.results52 rfl (Sub.refl _ _) (h m3 _ _ _ hm3)
theorem sig_c (l : List Ty) (T : Int → List UInt8) (hT4 : ∀ x : Int, 0 ≤ x → x < l.length → (T x).length ≤ 4001) {a : Option Addr} {k c bw bm n : Nat} (hn : n ≤ l.length) (ih : TextC W0 l T a k c bw bm n) (t : Ty) (hks : ∀ x ∈ t.kids, 0 ≤ x ∧ x < n) (hfew : t.kids.length ≤ 16) (hs : t.n = 0 ∨ 0 < t.kids.length) {a1 a2 : Option Addr} {k1 c1 k2 c2 i j : Nat} {m : Int → Option (List UInt8)} (mL : fL l a k c ∈ F) (m2 : fK t a2 k2 c2 ∈ F)
    (hi : L[i]? = some (Res.cells bw #[.slice a k c, .map (some bm)] 66)) (hj : L[j]? = some (Res.map bm vI S m)) (hij : i ≠ j) (hm : MapOk T m)
    (h : ∀ m', MapOk T m' → R (S (sigT T t)) (L.set j (Res.map bm vI S m')) F) : ACalls Tryd.prog W0 51 #[.pointer (some ⟨bw, 0, none⟩), vTy t a1 k1 c1 a2 k2 c2] L F R := by
  have hml : 1000000000 ≤ maxLen := by decide
  have hT : ∀ s ∈ t.kids.map T, s.length ≤ 4001 := fun s hs => by
    obtain ⟨x, hx, rfl⟩ := List.mem_map.1 hs
    exact hT4 x (hks x hx).1 (by have := (hks x hx).2; omega)
  have hjn1 := gjoin_len [44, 32] _ hT
  have hjn2 := gjoin_len [44, 32] ((t.kids.map T).take (t.kids.length - 1)) (fun s hs => hT s (List.mem_of_mem_take hs))
  have hln1 : (t.kids.map T).length = t.kids.length := List.length_map ..
  have hln2 : ((t.kids.map T).take (t.kids.length - 1)).length ≤ 16 := by rw [List.length_take]; omega
  have hb1 : (Lib.join (t.kids.map T) [44, 32]).length ≤ 100000 := by
    rw [hln1] at hjn1
    have := Nat.mul_le_mul_left (4001 + [44, 32].length) hfew
    simp only [List.length_cons, List.length_nil] at this hjn1 ⊢
    omega
  have hb2 : (Lib.join ((t.kids.map T).take (t.kids.length - 1)) [44, 32]).length ≤ 100000 := by
    have := Nat.mul_le_mul_left (4001 + [44, 32].length) hln2
    simp only [List.length_cons, List.length_nil] at this hjn2 ⊢
    omega
  refine ACalls.body Tryd.func51 rfl Tryd.ntmps51 rfl ?_
  refine AC.seq (AC.region (AL.go (AO.box rfl rfl (fun b3 => ?_))))
  refine AL.go (AO.assign rfl rfl (AL.nil (AK.seqN (AC.seq (AC.region (AL.go (AO.move rfl rfl ?_)))))))
  refine AL.go (AO.field rfl rfl ?_)
  refine AL.go (AO.loadB rfl rfl ?_)
  refine AL.go (AO.call rfl rfl (all_c l T ih t.kids hks hfew (i := i + 1) (j := j + 1) (by repeat (first | exact mem0 | assumption | refine memS ?_)) (by repeat (first | exact mem0 | assumption | refine memS ?_)) hi hj (by omega) hm (fun m10 a10 k10 c10 hm10 => ?_)))
  simp only [List.set_cons_succ]
  refine AT.sub ((Sub.commit (i := 0) rfl).trans Sub.drop) ?_
  refine AL.go (AO.assign rfl rfl (AL.nil (AK.seqN (AC.seq (AC.seq (AC.region ?_))))))
  refine AL.go (AO.field rfl rfl ?_)
  refine AL.go (AO.loadB rfl rfl ?_)
  refine AL.go (AO.eql rfl rfl rfl (fun c13 => ?_) (fun c13 => ?_))
  · refine AL.nil (AK.seqN (AC.condT rfl (AC.seq (AC.region (AL.go (AO.move rfl rfl ?_))))))
    refine AL.go (AO.call rfl rfl (gjoin_c (t.kids.map T) [44, 32] (by repeat (first | exact mem0 | assumption | refine memS ?_)) (by omega) (by omega) ?_))
    refine AL.go (AO.addS rfl rfl rfl (by simp only [List.length_cons, List.length_nil]; omega) ?_)
    refine AL.go (AO.addS rfl rfl rfl (by simp only [List.length_append, List.length_cons, List.length_nil]; omega) ?_)
    refine AL.go (AO.assign rfl rfl (AL.nil (AK.seqN (AC.ret (AK.seqR ?_)))))
    first
    | (have e : sigT T t = [40] ++ Lib.join (t.kids.map T) [44, 32] ++ [41] := by unfold sigT; rw [if_pos c13]
       rw [e] at h
       exact AK.ret Tryd.results51 rfl (by repeat (first | exact Sub.refl _ _ | refine Sub.trans Sub.drop ?_ | refine Sub.trans Sub.dropF ?_)) (h _ hm10))
    | (have e : sigT T t = [40] ++ Lib.join ((t.kids.map T).take (t.kids.length - 1)) [44, 32] ++ [41, 32] ++ (t.kids.map T)[t.kids.length - 1]'(by omega) := by unfold sigT; rw [if_neg c13, hel]
       rw [e] at h
       exact AK.ret Tryd.results51 rfl (by repeat (first | exact Sub.refl _ _ | refine Sub.trans Sub.drop ?_ | refine Sub.trans Sub.dropF ?_)) (h _ hm10))
  · refine AL.nil (AK.seqN (AC.condF rfl (AC.skip (AK.seqN (AC.seq ?_)))))
    refine AC.region (AL.go (AO.move rfl rfl ?_))
    refine AL.go (AO.len rfl rfl (fun hl19 => ?_) (enc := eS) (lst := t.kids.map T) (hm := (by repeat (first | exact mem0 | assumption | refine memS ?_))))
    rw [hln1]
    refine AL.go (AO.sub rfl rfl rfl (by omega) (by omega) (AL.go (AO.assign rfl rfl (AL.nil (AK.seqN (AC.seq ?_))))))
    refine AC.draw (fun _ => false) [] (by repeat (first | exact BxIn.nil | refine BxIn.cons (by repeat (first | exact has0 | assumption | apply hasS)) ?_)) rfl (fun hx hX => ?_)
    have hkl : 0 < t.kids.length := by omega
    have hk10 := (len_of_fact (hX (Fact.slc (.slice a10 k10 c10) 1 ((t.kids.map T).map eS)) (by repeat (first | exact mem0 | assumption | refine memS ?_)))).1
    have hc10 := (len_of_fact (hX (Fact.slc (.slice a10 k10 c10) 1 ((t.kids.map T).map eS)) (by repeat (first | exact mem0 | assumption | refine memS ?_)))).2
    obtain ⟨p1, o1, rfl, at1⟩ := row_of_fact (i := t.kids.length - 1) (hX (Fact.slc (.slice a10 k10 c10) 1 ((t.kids.map T).map eS)) (by repeat (first | exact mem0 | assumption | refine memS ?_))) (by omega)
    obtain ⟨v1, hv1, hc1⟩ := at1 0 _ rfl
    cases hc1
    have hel : (t.kids.map T)[t.kids.length - 1]'(by omega) = T (kidAt t (t.kids.length - 1)) := by rw [List.getElem_map, kid_get (by omega)]
    have hel4 : ((t.kids.map T)[t.kids.length - 1]'(by omega)).length ≤ 4001 := hT _ (List.getElem_mem _)
    refine AH.weak (Sub.part (enc := eS) (lst := t.kids.map T) 0 (t.kids.length - 1) c10 (show Fact.slc (.slice (some ⟨p1, o1, none⟩) k10 c10) 1 ((t.kids.map T).map eS) ∈ _ from (by repeat (first | exact mem0 | assumption | refine memS ?_))) (by omega) (by omega) (by omega) (by omega)) ?_
    refine AH.takeW (i := 0) rfl (Y.move rfl) (by kernel_rfl) rfl rfl ?_
    refine AH.takeW (i := 1) rfl (Y.move rfl) (by kernel_rfl) rfl rfl ?_
    refine AH.takeW (i := 2) rfl (Y.sliceH (j' := t.kids.length - 1) rfl rfl (by omega) (by omega)) (by kernel_rfl) rfl rfl ?_
    refine AH.takeW (i := 6) rfl (Y.move rfl) (by kernel_rfl) rfl rfl ?_
    refine AH.takeW (i := 7) rfl (Y.move rfl) (by kernel_rfl) rfl rfl ?_
    refine AH.takeW (i := 8) rfl (Y.indexAddr (k := t.kids.length - 1) rfl rfl (by omega) (by omega)) (by kernel_rfl) rfl rfl ?_
    refine AH.takeS (i := 9) rfl (Y.loadF rfl hv1) (by kernel_rfl) (by kernel_rfl) rfl rfl rfl ?_
    refine AH.one (i := 3) (by kernel_rfl) rfl rfl (fun _ => ?_)
    refine AO.call rfl rfl (gjoin_c ((t.kids.map T).take (t.kids.length - 1)) [44, 32] (by repeat (first | exact mem0 | assumption | refine memS ?_)) (by omega) (by omega) ?_)
    refine AT.held (by repeat (first | exact BxIn.nil | refine BxIn.cons (by repeat (first | exact has0 | assumption | apply hasS)) ?_)) (by repeat (first | exact mem0 | refine memS ?_)) ?_
    refine AH.takeW (i := 4) rfl (Y.addS rfl rfl (by simp only [List.length_cons, List.length_nil]; omega)) (by kernel_rfl) rfl rfl ?_
    refine AH.takeW (i := 5) rfl (Y.addS rfl rfl (by simp only [List.length_append, List.length_cons, List.length_nil]; omega)) (by kernel_rfl) rfl rfl ?_
    refine AH.takeW (i := 10) rfl (Y.addS rfl rfl (by simp only [List.length_append, List.length_cons, List.length_nil]; omega)) (by kernel_rfl) rfl rfl ?_
    refine AH.takeW (i := 11) rfl (Y.assign rfl) (by kernel_rfl) rfl rfl ?_
    refine AH.done (by kernel_rfl) ?_
    refine AK.seqN (AC.ret ?_)
    first
    | (have e : sigT T t = [40] ++ Lib.join (t.kids.map T) [44, 32] ++ [41] := by unfold sigT; rw [if_pos c13]
       rw [e] at h
       exact AK.ret Tryd.results51 rfl (by repeat (first | exact Sub.refl _ _ | refine Sub.trans Sub.drop ?_ | refine Sub.trans Sub.dropF ?_)) (h _ hm10))
    | (have e : sigT T t = [40] ++ Lib.join ((t.kids.map T).take (t.kids.length - 1)) [44, 32] ++ [41, 32] ++ (t.kids.map T)[t.kids.length - 1]'(by omega) := by unfold sigT; rw [if_neg c13, hel]
       rw [e] at h
       exact AK.ret Tryd.results51 rfl (by repeat (first | exact Sub.refl _ _ | refine Sub.trans Sub.drop ?_ | refine Sub.trans Sub.dropF ?_)) (h _ hm10))
end
end Go.Sy
