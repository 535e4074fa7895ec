/- A type as a key: the walk. -/
import Derived.Test.YthbngbiodamndaaDoorTyP
import Derived.Test.YthbngbiodamndaaDoorGlo
import Derived.Test.YthbngbiodamndaaDoorBld
namespace Go.Sy
open Go Go.Proofs Go.RowKit

/-- How large a type may be that the walks are asked. -/
structure TyOk (t : Ty) : Prop where
  kind : -9223372036854775808 ≤ t.kind ∧ t.kind ≤ 9223372036854775807
  n : -9223372036854775808 ≤ t.n ∧ t.n ≤ 9223372036854775807
  name : t.name.length ≤ 60
  words : t.words.length ≤ 20
  word : ∀ w ∈ t.words, w.length ≤ 1048576
  kids : t.kids.length ≤ 20
  kid : ∀ k ∈ t.kids, -9223372036854775808 ≤ k ∧ k ≤ 9223372036854775807
abbrev vKey (k : Key) : Value := .agg #[.int .i64 k.kind, .int .i64 k.n, S k.name, S k.words, S k.kids, S k.lengths]
theorem flat_len {m : Nat} : ∀ (l : List (List UInt8)), (∀ s ∈ l, s.length ≤ m) → l.flatten.length ≤ m * l.length
  | [], _ => by simp
  | s :: l, h => by
    have ih := flat_len l (fun x hx => h x (.tail _ hx))
    have hs := h s (.head _)
    simp only [List.flatten_cons, List.length_append, List.length_cons, Nat.mul_succ]
    omega
theorem commas_len : ∀ (l : List Int), (∀ k ∈ l, -9223372036854775808 ≤ k ∧ k ≤ 9223372036854775807) → (commas l).length ≤ 21 * l.length
  | [], _ => by simp [commas]
  | k :: l, h => by
    have ih := commas_len l (fun x hx => h x (.tail _ hx))
    have hs := itoa_len (h k (.head _))
    rw [commas_cons]
    simp only [List.length_append, List.length_cons, Nat.mul_succ]
    omega
theorem flat_step {l : List (List UInt8)} {q : Nat} (hq : q < l.length) : (l.take q).flatten ++ l[q] = (l.take (q + 1)).flatten := by
  rw [List.take_succ_eq_append_getElem hq, List.flatten_append]; simp only [List.flatten_cons, List.flatten_nil, List.append_nil]
theorem lens_step {l : List (List UInt8)} {q : Nat} (hq : q < l.length) : commas (lensOf (l.take q)) ++ (Lib.itoa (l[q].length : Int) ++ [44]) = commas (lensOf (l.take (q + 1))) := by
  rw [List.take_succ_eq_append_getElem hq, lensOf, lensOf, List.map_append, List.map_cons, List.map_nil, commas_snoc]
theorem kids_step {l : List Int} {q : Nat} (hq : q < l.length) : commas (l.take q) ++ (Lib.itoa l[q] ++ [44]) = commas (l.take (q + 1)) := by
  rw [List.take_succ_eq_append_getElem hq, commas_snoc]
theorem nil_keep {v v' : Value} {a b : List UInt8} (h : a = [] → v = .slice none 0 0) (hn : v' = .slice none 0 0 ↔ v = .slice none 0 0 ∧ b = []) : a ++ b = [] → v' = .slice none 0 0 := by
  intro e
  have := List.append_eq_nil_iff.1 e
  exact hn.2 ⟨h this.1, this.2⟩
theorem lens_ok {l : List (List UInt8)} (h : ∀ w ∈ l, w.length ≤ 1048576) : ∀ k ∈ lensOf l, -9223372036854775808 ≤ k ∧ k ≤ 9223372036854775807 := by
  intro k hk
  unfold lensOf at hk
  obtain ⟨w, hw, rfl⟩ := List.mem_map.1 hk
  have := h w hw
  omega

attribute [local irreducible] AC AT AO AK AH ACalls Sub Res.cells Res.obj Res.nix Res.own Exit.then Exit.inBlock bodyPost Code.wp Next Post Kont
section
variable {W0 : World} {L : List Res} {F : List Fact} {R : Value → List Res → List Fact → Prop}
set_option maxRecDepth 100000
set_option maxHeartbeats 4000000
theorem keyOf_c (g : Glob W0) (t : Ty) (ht : TyOk t) {a1 a2 : Option Addr} {k1 c1 k2 c2 : Nat} (m1 : fW t a1 k1 c1 ∈ F) (m2 : fK t a2 k2 c2 ∈ F) (h : R (vKey (keyT t)) L F) :
    ACalls Tryd.prog W0 25 #[vTy t a1 k1 c1 a2 k2 c2] L F R := by
  have hw := ht.word
  have hwl := ht.words
  have hk := ht.kid
  have hkl := ht.kids
  have hml : 1000000000 ≤ maxLen := by decide
  refine ACalls.body Tryd.func25 rfl Tryd.ntmps25 rfl ?_
  refine AC.seq (AC.region (AL.go (AO.box rfl rfl (fun b1 => ?_))))
  refine AL.go (AO.alloc rfl (fun b2 => ?_))
  refine AL.nil (AK.seqN (AC.seq (AC.region (AL.go (AO.field rfl rfl ?_)))))
  refine AL.go (AO.loadB rfl rfl ?_)
  refine AL.go (AO.field rfl rfl ?_)
  refine AL.go (AO.loadB rfl rfl ?_)
  refine AL.go (AO.field rfl rfl ?_)
  refine AL.go (AO.loadB rfl rfl ?_)
  refine AL.go (AO.build rfl rfl rfl (AL.go (AO.alloc rfl (fun b3 => ?_))))
  refine AL.go (AO.storeBA rfl rfl rfl rfl ?_)
  refine AL.nil (AK.seqN (AC.seq (AC.region (AL.go (AO.alloc rfl (fun b4 => ?_))))))
  refine AL.go (AO.alloc rfl (fun b5 => ?_))
  refine AL.go (AO.alloc rfl (fun b6 => ?_))
  refine AT.sub ((Sub.ownNil (e := 5) (sz := 1)).trans ((Sub.ownNil (e := 5) (sz := 1)).trans (Sub.ownNil (e := 5) (sz := 1)))) ?_
  refine AL.nil (AK.seqN (AC.seq (AC.seq (AC.region (AL.go (AO.field rfl rfl ?_))))))
  refine AL.go (AO.loadB rfl rfl ?_)
  refine AL.go (AO.len rfl rfl (fun hl20 => ?_) (hm := by repeat (first | exact mem0 | assumption | refine memS ?_)))
  refine AL.go (AO.move rfl rfl (AL.nil (AK.seqN (AC.block ?_))))
  refine AC.loop (fun (i : Nat × (Option Addr × Option Addr × Nat × Nat) × (Option Addr × Option Addr × Nat × Nat)) => i.1 ≤ t.words.length ∧ (i.2.1.1 = none ∨ i.2.1.1 = some ⟨b4, 0, none⟩) ∧ (i.2.2.1 = none ∨ i.2.2.1 = some ⟨b6, 0, none⟩) ∧ ((t.words.take i.1).flatten = [] → Value.slice i.2.1.2.1 i.2.1.2.2.1 i.2.1.2.2.2 = .slice none 0 0) ∧ (commas (lensOf (t.words.take i.1)) = [] → Value.slice i.2.2.2.1 i.2.2.2.2.1 i.2.2.2.2.2 = .slice none 0 0)) (fun i => [(1, .pointer (some ⟨b1, 0, none⟩)), (2, .pointer (some ⟨b2, 0, none⟩)), (3, .pointer (some ⟨b3, 0, none⟩)), (4, .pointer (some ⟨b4, 0, none⟩)), (5, .pointer (some ⟨b5, 0, none⟩)), (6, .pointer (some ⟨b6, 0, none⟩)), (19, .slice a1 k1 c1), (20, .int .i64 t.words.length), (21, .int .i64 (i.1 : Int))]) (fun i => Res.own (.slice i.2.1.2.1 i.2.1.2.2.1 i.2.1.2.2.2) 5 1 ((t.words.take i.1).flatten.map eB) :: Res.own (.slice none 0 0) 5 1 [] :: Res.own (.slice i.2.2.2.1 i.2.2.2.2.1 i.2.2.2.2.2) 5 1 ((commas (lensOf (t.words.take i.1))).map eB) :: Res.cells b6 #[.pointer i.2.2.1, .slice i.2.2.2.1 i.2.2.2.2.1 i.2.2.2.2.2] 79 :: Res.cells b5 #[.pointer none, .slice none 0 0] 79 :: Res.cells b4 #[.pointer i.2.1.1, .slice i.2.1.2.1 i.2.1.2.2.1 i.2.1.2.2.2] 79 :: _) (fun _ => F) (fun i => t.words.length - i.1) (0, (none, none, 0, 0), (none, none, 0, 0)) ⟨by omega, Or.inl rfl, Or.inl rfl, fun _ => rfl, fun _ => rfl⟩ (by repeat (first | exact SubR.nil | refine SubR.cons rfl ?_)) (Sub.refl _ _) ?_
  rintro ⟨q, ⟨pw, aw, kw, zw⟩, ⟨pl, al, kl, zl⟩⟩ ⟨hq, hpw, hpl, hnw, hnl⟩
  simp only at hq hpw hpl hnw hnl ⊢
  refine AC.seq (AC.region ?_)
  refine AL.go (AO.lss rfl rfl rfl (fun c22 => ?_) (fun c22 => ?_))
  · refine AL.nil (AK.seqN (AC.seq (AC.condT rfl (AC.skip (AK.seqN ?_)))))
    refine AC.seq (AC.block (AC.seq (AC.region ?_)))
    have hql : q < t.words.length := by omega
    have hsl := hw _ (List.getElem_mem hql)
    have hfl := flat_len (m := 1048576) (t.words.take q) (fun s hs => hw s (List.mem_of_mem_take hs))
    have htl : (t.words.take q).length ≤ 20 := by simp; omega
    have hcl := commas_len (lensOf (t.words.take q)) (lens_ok (fun s hs => hw s (List.mem_of_mem_take hs)))
    have hll : (lensOf (t.words.take q)).length ≤ 20 := by simp [lensOf]; omega
    have hil : (Lib.itoa (t.words[q].length : Int)).length ≤ 20 := itoa_len (by omega)
    refine AL.go (AO.indexAddr rfl rfl rfl rfl (by repeat (first | exact mem0 | assumption | refine memS ?_)) hql (fun _ _ => ?_))
    refine AL.go (AO.loadF rfl rfl ?_)
    intros
    refine AL.go (AO.assign rfl rfl (AL.nil (AK.seqN (AC.seq (AC.region (AL.go (AO.move rfl rfl ?_)))))))
    refine AL.go (AO.call rfl rfl (wstr_c (b := b4) (i := 5) (j := 0) hpw (by decide) rfl rfl (by omega) (fun a26 k26 z26 n26 => ?_)))
    refine AL.nil (AK.seqN (AC.region (AL.go (AO.move rfl rfl (AL.go (AO.lenS rfl rfl ?_))))))
    refine AL.go (AO.call rfl rfl (itoa_c g _ (by omega) ?_))
    refine AL.go (AO.addS rfl rfl rfl (by first | omega | (simp; omega)) ?_)
    refine AL.go (AO.call rfl rfl (wstr_c (b := b6) (i := 3) (j := 2) hpl (by decide) rfl rfl (by rw [List.length_append]; simp only [List.length_cons, List.length_nil]; omega) (fun a31 k31 z31 n31 => ?_)))
    rw [flat_step hql, lens_step hql]
    refine AL.nil (AK.blkN (AK.seqN (AC.region (AL.go (AO.add rfl rfl rfl (by omega) (by omega) (AL.go (AO.move rfl rfl ?_)))))))
    refine AL.nil ?_
    refine AK.next (q + 1, (some ⟨b4, 0, none⟩, a26, k26, z26), (some ⟨b6, 0, none⟩, a31, k31, z31)) ⟨by simp only; omega, Or.inr rfl, Or.inr rfl, by rw [← flat_step hql]; exact nil_keep hnw n26, by rw [← lens_step hql]; exact nil_keep hnl n31⟩ (by simp only; omega) (by repeat (first | exact SubR.nil | refine SubR.cons rfl ?_)) (by repeat (first | exact Sub.refl _ _ | refine Sub.trans Sub.dropF ?_))
  · refine AL.nil (AK.seqN (AC.seq (AC.condF rfl (AC.exit (AK.seqX ?_)))))
    refine AK.seqX (AK.blkX (AK.seqN (AC.seq (AC.seq (AC.region ?_)))))
    refine AL.go (AO.field rfl rfl ?_)
    refine AL.go (AO.loadB rfl rfl ?_)
    refine AL.go (AO.len rfl rfl (fun hl35 => ?_) (hm := by repeat (first | exact mem0 | assumption | refine memS ?_)))
    refine AL.go (AO.move rfl rfl (AL.nil (AK.seqN (AC.block ?_))))
    have hw9 : t.words.take q = t.words := List.take_of_length_le (by omega)
    rw [hw9] at hnw hnl ⊢
    refine AC.loop (fun (i : Nat × (Option Addr × Option Addr × Nat × Nat)) => i.1 ≤ t.kids.length ∧ (i.2.1 = none ∨ i.2.1 = some ⟨b5, 0, none⟩) ∧ (commas (t.kids.take i.1) = [] → Value.slice i.2.2.1 i.2.2.2.1 i.2.2.2.2 = .slice none 0 0)) (fun i => [(1, .pointer (some ⟨b1, 0, none⟩)), (2, .pointer (some ⟨b2, 0, none⟩)), (3, .pointer (some ⟨b3, 0, none⟩)), (4, .pointer (some ⟨b4, 0, none⟩)), (5, .pointer (some ⟨b5, 0, none⟩)), (6, .pointer (some ⟨b6, 0, none⟩)), (34, .slice a2 k2 c2), (35, .int .i64 t.kids.length), (36, .int .i64 (i.1 : Int))]) (fun i => Res.own (.slice aw kw zw) 5 1 (t.words.flatten.map eB) :: Res.own (.slice i.2.2.1 i.2.2.2.1 i.2.2.2.2) 5 1 ((commas (t.kids.take i.1)).map eB) :: Res.own (.slice al kl zl) 5 1 ((commas (lensOf t.words)).map eB) :: Res.cells b6 #[.pointer pl, .slice al kl zl] 79 :: Res.cells b5 #[.pointer i.2.1, .slice i.2.2.1 i.2.2.2.1 i.2.2.2.2] 79 :: Res.cells b4 #[.pointer pw, .slice aw kw zw] 79 :: _) (fun _ => F) (fun i => t.kids.length - i.1) (0, (none, none, 0, 0)) ⟨by omega, Or.inl rfl, fun _ => rfl⟩ (by repeat (first | exact SubR.nil | refine SubR.cons rfl ?_)) (Sub.refl _ _) ?_
    rintro ⟨u, ⟨pk, ak, kk, zk⟩⟩ ⟨hu, hpk, hnk⟩
    simp only at hu hpk hnk ⊢
    refine AC.seq (AC.region ?_)
    refine AL.go (AO.lss rfl rfl rfl (fun c37 => ?_) (fun c37 => ?_))
    · refine AL.nil (AK.seqN (AC.seq (AC.condT rfl (AC.skip (AK.seqN ?_)))))
      refine AC.seq (AC.block (AC.seq (AC.region ?_)))
      have hul : u < t.kids.length := by omega
      have hkr := hk _ (List.getElem_mem hul)
      have hcl := commas_len (t.kids.take u) (fun s hs => hk s (List.mem_of_mem_take hs))
      have hll : (t.kids.take u).length ≤ 20 := by simp; omega
      have hil : (Lib.itoa t.kids[u]).length ≤ 20 := itoa_len hkr
      refine AL.go (AO.indexAddr rfl rfl rfl rfl (by repeat (first | exact mem0 | assumption | refine memS ?_)) hul (fun _ _ => ?_))
      refine AL.go (AO.loadF rfl rfl ?_)
      intros
      refine AL.go (AO.assign rfl rfl (AL.nil (AK.seqN (AC.region (AL.go (AO.move rfl rfl ?_))))))
      refine AL.go (AO.call rfl rfl (itoa_c g _ hkr ?_))
      refine AL.go (AO.addS rfl rfl rfl (by first | omega | (simp; omega)) ?_)
      refine AL.go (AO.call rfl rfl (wstr_c (b := b5) (i := 4) (j := 1) hpk (by decide) rfl rfl (by rw [List.length_append]; simp only [List.length_cons, List.length_nil]; omega) (fun a43 k43 z43 n43 => ?_)))
      rw [kids_step hul]
      refine AL.nil (AK.blkN (AK.seqN (AC.region (AL.go (AO.add rfl rfl rfl (by omega) (by omega) (AL.go (AO.move rfl rfl ?_)))))))
      refine AL.nil ?_
      refine AK.next (u + 1, (some ⟨b5, 0, none⟩, a43, k43, z43)) ⟨by simp only; omega, Or.inr rfl, by rw [← kids_step hul]; exact nil_keep hnk n43⟩ (by simp only; omega) (by repeat (first | exact SubR.nil | refine SubR.cons rfl ?_)) (by repeat (first | exact Sub.refl _ _ | refine Sub.trans Sub.dropF ?_))
    · refine AL.nil (AK.seqN (AC.seq (AC.condF rfl (AC.exit (AK.seqX ?_)))))
      refine AK.seqX (AK.blkX (AK.seqN (AC.seq (AC.region ?_))))
      have hk9 : t.kids.take u = t.kids := List.take_of_length_le (by omega)
      rw [hk9] at hnk ⊢
      refine AL.go (AO.call rfl rfl (bstr_c (b := b4) (i := 5) (j := 0) (by decide) rfl rfl hnw ?_))
      refine AL.go (AO.call rfl rfl (bstr_c (b := b5) (i := 4) (j := 1) (by decide) rfl rfl hnk ?_))
      refine AL.go (AO.call rfl rfl (bstr_c (b := b6) (i := 3) (j := 2) (by decide) rfl rfl hnl ?_))
      refine AL.go (AO.field rfl rfl ?_)
      refine AL.go (AO.storeB rfl rfl rfl ?_)
      refine AL.go (AO.field rfl rfl ?_)
      refine AL.go (AO.storeB rfl rfl rfl ?_)
      refine AL.go (AO.field rfl rfl ?_)
      refine AL.go (AO.storeB rfl rfl rfl ?_)
      refine AL.nil (AK.seqN (AC.seq (AC.region ?_)))
      refine AL.go (AO.loadBA rfl rfl ?_)
      refine AL.go (AO.storeBA rfl rfl rfl rfl ?_)
      refine AL.nil (AK.seqN (AC.ret ?_))
      exact AK.retV (rs := [.cell 2 _]) (L' := L) (F' := F) Tryd.results25 (.agg (j := 7) rfl rfl rfl .nil) (by repeat (first | exact Sub.refl _ _ | refine Sub.trans Sub.drop ?_ | refine Sub.trans Sub.dropF ?_)) h
end
end Go.Sy
