/- What an arena that may be holds is small; what each step of a substitution comes to. No program in sight. A type with others instead of its params, by the program: the walks. -/
import Derived.Test.YthbngbiodamndaaDoorSubF
import Derived.Test.YthbngbiodamndaaDoorTyK
namespace Go.Sy
open Go Go.Proofs

theorem name_short2 {s : List UInt8} (h : isName s = true) : s.length ≤ 20 := by
  unfold isName at h
  simp only [Bool.and_eq_true, decide_eq_true_eq] at h
  exact h.1.1.2
theorem field_short2 (w : List UInt8) : w.length ≤ (fieldN w).length + 1 := by
  unfold fieldN; split <;> simp
theorem cut_join (c : UInt8) : ∀ s : List UInt8, s.length ≤ (cutD c s).1.length + (cutD c s).2.1.length + 1
  | [] => by simp
  | x :: s => by
    have ih := cut_join c s
    unfold cutD
    split
    · simp
    · simp only [List.length_cons]; omega
theorem named_short {s : List UInt8} (h : namedP s) : s.length ≤ 41 := by
  have h1 := name_short2 h.2.1
  have h2 := name_short2 h.2.2
  have h3 := cut_join 46 s
  omega
theorem made_ok {l : List Ty} (hl : l.length ≤ 400) {t : Ty} (h : madeP l t) : TyOk t := by
  obtain ⟨hk, hf, hn, hw, hK⟩ := h
  have hkind : 1 ≤ t.kind ∧ t.kind ≤ 9 := by rcases hK with e | e | e | e | e | e | e | e | e <;> (have := e.1; omega)
  refine ⟨by omega, ?_, ?_, ?_, ?_, by omega, fun k hm => by have := hk k hm; omega⟩
  · rcases hK with e | e | e | e | e | e | e | e | e
    · have := e.2.1; omega
    · have := e.2.1; omega
    · have := e.2.1; have := e.2.2.1; omega
    · have := e.2.1; omega
    · rcases e.2 with e | e
      · omega
      · have := e.1; omega
    · have := e.2.1; omega
    · have h1 := e.2.2.1; have h2 := e.2.2.2.1; omega
    · have := e.2.1; omega
    · have := e.2.1; have := e.2.2.1; omega
  · by_cases c : t.kind = 8
    · have := named_short ((madeK_8 c).1 hK).2; omega
    · rw [hn c]; simp
  · by_cases c6 : t.kind = 6
    · have := ((madeK_6 c6).1 hK).2.2; omega
    · by_cases c7 : t.kind = 7
      · have := ((madeK_7 c7).1 hK).1; omega
      · rw [hw c6 c7]; simp
  · intro w hm
    by_cases c6 : t.kind = 6
    · obtain ⟨i, hi, rfl⟩ := List.getElem_of_mem hm
      have h1 := name_short2 (((madeK_6 c6).1 hK).2.1 i hi).1
      have h2 := field_short2 t.words[i]
      omega
    · by_cases c7 : t.kind = 7
      · obtain ⟨i, hi, rfl⟩ := List.getElem_of_mem hm
        rcases ((madeK_7 c7).1 hK).2.2.2 i hi with h1 | h1
        · rcases h1.1 with e | e <;> rw [e] <;> decide
        · have := name_short2 h1.2.1; omega
      · rw [hw c6 c7] at hm; simp at hm
theorem right_ok {l : List Ty} (h : rightP l) : ∀ t ∈ l, TyOk t := by
  intro t ht
  obtain ⟨q, hq, rfl⟩ := List.getElem_of_mem ht
  have hr := h.2.2 q hq
  unfold rowAt at hr
  by_cases c : q < 22
  · rw [if_pos c] at hr
    have hql : q < startL.length := by rw [start_len]; exact c
    rw [hr, start_get hql]
    exact start_ok _ (List.getElem_mem hql)
  · rw [if_neg c] at hr
    have := h.2.1
    exact made_ok (by rw [List.length_take]; omega) hr.1
theorem decl_term_len (zs : List Tm) : (declsR zs).length + (termsA zs).length ≤ zs.length := by
  refine snocInd (P := fun zs => (declsR zs).length + (termsA zs).length ≤ zs.length) (by simp [declsR, termsA]) ?_ zs
  intro zs z ih
  rw [termsA_snoc, declsR_snoc, List.length_append]
  split
  · have : (addTm (termsA zs) z).length ≤ (termsA zs).length + 1 := by
      unfold addTm
      split
      · rw [List.length_append]; simp
      · split
        · rw [List.length_set]; omega
        · omega
    simp only [List.length_cons, List.length_nil]; omega
  · rw [List.length_append]; simp only [List.length_cons, List.length_nil]; omega
theorem termsR_len {m : Nat} {zs : List Tm} (hz : ∀ z ∈ zs, 0 ≤ z.2 ∧ z.2 < m) : (termsR m zs).length = (termsA zs).length := by
  have hp := List.mergeSort_perm (termsA zs) (fun x y => decide (x.2 ≤ y.2))
  have hs : ((termsA zs).mergeSort (fun x y => decide (x.2 ≤ y.2))).Pairwise fun x y => x.2 ≤ y.2 := by
    have := List.pairwise_mergeSort (le := fun (x y : Tm) => decide (x.2 ≤ y.2)) (fun a b c h1 h2 => by simp at *; omega) (fun a b => by simp; omega) (termsA zs)
    exact this.imp fun h => by simpa using h
  rw [← terms_sort (fun z h _ => hz z h) hp hs]
  exact hp.length_eq
theorem zips_kids {t : Ty} (h : t.words.length = t.kids.length) : (zips t).length = t.kids.length := by unfold zips; rw [List.length_zip]; omega
theorem termsT_len {m : Nat} {t : Ty} (hw : t.words.length = t.kids.length) (hk : ∀ k ∈ t.kids, 0 ≤ k ∧ k < m) : (termsT m t).kids.length ≤ t.kids.length ∧ (termsT m t).words.length ≤ t.kids.length := by
  have h1 := decl_term_len (zips t)
  have h2 := termsR_len (m := m) (zips_in hk)
  have h3 := zips_kids hw
  have h4 : (declsR (zips t) ++ termsR m (zips t)).length ≤ t.kids.length := by rw [List.length_append]; omega
  unfold termsT
  simp only [List.length_map]
  omega
theorem terms_mem {m : Nat} {t : Ty} (hk : ∀ k ∈ t.kids, 0 ≤ k ∧ k < m) : ∀ z ∈ declsR (zips t) ++ termsR m (zips t), 0 ≤ z.2 ∧ z.2 < m ∧ (z.1 ∈ t.words ∨ markP z.1) := by
  intro z hz
  rcases List.mem_append.1 hz with h | h
  · have hm : z ∈ zips t := (List.mem_filter.1 h).1
    have := zips_in hk z hm
    exact ⟨this.1, this.2, .inl (List.of_mem_zip hm).1⟩
  · have := (termsR_mem m (zips t) z).1 h
    exact ⟨this.2.2.1, this.2.2.2, .inr (this.1 ▸ (markOf_is (zips t) z.2).resolve_left (by rw [← this.1]; exact this.2.1))⟩
theorem mapK_ok {out : List Ty} (ho : out.length ≤ 400) {ins : List Int} {t : Ty} (ht : TyOk t) (hk : ∀ k ∈ (mapK ins t).kids, 0 ≤ k ∧ k < out.length) : TyOk (mapK ins t) := by
  refine ⟨ht.kind, ht.n, ht.name, ht.words, ht.word, ?_, fun k hm => by have := hk k hm; omega⟩
  unfold mapK; simp only [List.length_map]; exact ht.kids
theorem termsT_ok {m : Nat} (hm : m ≤ 400) {t : Ty} (ht : TyOk t) (hw : t.words.length = t.kids.length) (hk : ∀ k ∈ t.kids, 0 ≤ k ∧ k < m) : TyOk (termsT m t) := by
  obtain ⟨h1, h2⟩ := termsT_len hw hk
  have hkl := ht.kids
  have hmem := terms_mem hk
  refine ⟨ht.kind, ht.n, by simp [termsT], by omega, ?_, by omega, ?_⟩
  · intro w hx
    obtain ⟨z, hz, rfl⟩ := List.mem_map.1 hx
    rcases (hmem z hz).2.2 with h | h
    · exact ht.word _ h
    · rcases h with e | e <;> rw [e] <;> decide
  · intro k hx
    obtain ⟨z, hz, rfl⟩ := List.mem_map.1 hx
    have := hmem z hz
    omega
theorem getD_eq {α : Type} {l : List α} {q : Nat} (z : α) (hq : q < l.length) : l.getD q z = l[q] := by rw [List.getD_eq_getElem?_getD, List.getElem?_eq_getElem hq]; rfl

/-! ### The program's map of what stands instead -/
def MapS (M : List Bool) (ins : List Int) (q : Nat) (m : Int → Option Int) : Prop := ∀ p : Nat, p < q → M.getD p false = true → m (p : Int) = some (ins.getD p 0)
open Classical in
theorem MapS.upd {M : List Bool} {ins : List Int} {q : Nat} {m : Int → Option Int} (h : MapS M ins q m) (hl : ins.length = q) (x : Int) : MapS M (ins ++ [x]) (q + 1) (upd m (q : Int) x) := by
  intro p hp hM
  by_cases e : p = q
  · subst e
    rw [upd_self, ← hl]; simp [List.getD_eq_getElem?_getD]
  · rw [upd_ne _ (by omega), getD_app _ _ _ (by omega)]
    exact h p (by omega) hM
theorem MapS.skip {M : List Bool} {ins : List Int} {q : Nat} {m : Int → Option Int} (h : MapS M ins q m) (hl : ins.length = q) (x : Int) (hM : M.getD q false = false) : MapS M (ins ++ [x]) (q + 1) m := by
  intro p hp hMp
  by_cases e : p = q
  · subst e; rw [hM] at hMp; cases hMp
  · rw [getD_app _ _ _ (by omega)]
    exact h p (by omega) hMp
section
variable {l : List Ty} {args A : List Int} {M : List Bool} {q : Nat} {out : List Ty} {ins : List Int}
theorem sub_out (hs : subN l args A M q = .ok (out, ins)) (h : M.getD q false = false ∨ A.getD q 0 = 0) : subN l args A M (q + 1) = .ok (out, ins ++ [(q : Int)]) := by
  rw [subN, hs]; simp only; unfold stepS; rw [if_pos h]
theorem sub_param (hs : subN l args A M q = .ok (out, ins)) (hM : M.getD q false = true) (hA : A.getD q 0 ≠ 0) (hq : q < l.length) (h9 : l[q].kind = 9) : subN l args A M (q + 1) = .ok (out, ins ++ [args.getD l[q].n.toNat 0]) := by
  rw [subN, hs]; simp only; unfold stepS
  rw [if_neg (by rw [hM]; simp only [Bool.true_eq_false, false_or]; exact hA), getD_eq _ hq, if_pos h9]
theorem sub_put (hs : subN l args A M q = .ok (out, ins)) (hM : M.getD q false = true) (hA : A.getD q 0 ≠ 0) (hq : q < l.length) (h9 : l[q].kind ≠ 9) : subN l args A M (q + 1) = putS out ins (mapK ins l[q]) := by
  rw [subN, hs]; simp only; unfold stepS
  rw [if_neg (by rw [hM]; simp only [Bool.true_eq_false, false_or]; exact hA), getD_eq _ hq, if_neg h9]
end
theorem put_odd {out : List Ty} {ins : List Int} {t : Ty} (h7 : t.kind = 7) (ho : oddP out t) : putS out ins t = .error 11 := by unfold putS; rw [if_pos ⟨h7, ho⟩]
theorem put_iface {out : List Ty} {ins : List Int} {t : Ty} (hr : rightP out) (h7 : t.kind = 7) (ho : ¬ oddP out t) {m : List Ty} {i e : Int} (h : AddP out (termsT out.length t) m i e) : putS out ins t = if e = 0 then .ok (m, ins ++ [i]) else .error e := by
  unfold putS; rw [if_neg (fun h => ho h.2), if_pos h7, addF_is hr h]
theorem put_plain {out : List Ty} {ins : List Int} {t : Ty} (hr : rightP out) (h7 : t.kind ≠ 7) {m : List Ty} {i e : Int} (h : AddP out t m i e) : putS out ins t = if e = 0 then .ok (m, ins ++ [i]) else .error e := by
  unfold putS; rw [if_neg (fun h => h7 h.1), if_neg h7, addF_is hr h]
/-- The kids, so far changed. -/
def kidsS (ins ks : List Int) (v : Nat) : List Int := (ks.take v).map (fun k => ins.getD k.toNat 0) ++ ks.drop v
theorem kidsS_len (ins ks : List Int) (v : Nat) : (kidsS ins ks v).length = ks.length := by unfold kidsS; rw [List.length_append, List.length_map, List.length_take, List.length_drop]; omega
theorem kidsS_zero (ins ks : List Int) : kidsS ins ks 0 = ks := by simp [kidsS]
theorem kidsS_all (ins ks : List Int) {v : Nat} (h : ks.length ≤ v) : kidsS ins ks v = ks.map (fun k => ins.getD k.toNat 0) := by
  unfold kidsS; rw [List.take_of_length_le h, List.drop_eq_nil_of_le h, List.append_nil]
theorem kidsS_get {ins ks : List Int} {v : Nat} (hv : v < ks.length) : (kidsS ins ks v)[v]? = some ks[v] := by
  unfold kidsS
  rw [List.getElem?_append_right (by simp; omega)]
  simp [Nat.min_eq_left (Nat.le_of_lt hv), List.getElem?_drop, hv]
theorem kidsS_set {ins ks : List Int} {v : Nat} (hv : v < ks.length) : (kidsS ins ks v).set v (ins.getD ks[v].toNat 0) = kidsS ins ks (v + 1) := by
  unfold kidsS
  have hl : ((ks.take v).map (fun k => ins.getD k.toNat 0)).length = v := by rw [List.length_map, List.length_take]; omega
  rw [List.set_append_right _ _ (by omega), hl, Nat.sub_self, List.drop_eq_getElem_cons hv, List.set_cons_zero, List.take_succ_eq_append_getElem hv, List.map_append]
  simp
end Go.Sy

namespace Go.Sy
open Go Go.Proofs Go.RowKit

theorem eIs_get {A : List Int} {q : Nat} {x : Int} (h : A[q]? = some x) : (A.map eI)[q]? = some [.val (.int .i64 x)] := by rw [List.getElem?_map, h]; rfl
theorem eIs_set {A : List Int} {q : Nat} {x : Int} : (A.map eI).set q [.val (.int .i64 x)] = (A.set q x).map eI := by rw [List.map_set]
theorem bad_of {l : List Ty} {args : List Int} (h : ¬ ∀ j (hj : j < args.length), ¬ (args[j] < 0 ∨ args[j] ≥ (l.length : Int))) : ∃ a ∈ args, ¬(0 ≤ a ∧ a < l.length) := by
  refine Classical.byContradiction fun hn => h fun j hj hx => hn ⟨args[j], List.getElem_mem hj, by omega⟩
theorem good_of {l : List Ty} {args : List Int} (h : ∀ j (hj : j < args.length), ¬ (args[j] < 0 ∨ args[j] ≥ (l.length : Int))) : ∀ a ∈ args, 0 ≤ a ∧ a < l.length := by
  intro a ha
  obtain ⟨j, hj, rfl⟩ := List.getElem_of_mem ha
  have := h j hj
  omega
theorem not_bad {l : List Ty} {i : Nat} {args : List Int} (h1 : ∀ a ∈ args, 0 ≤ a ∧ a < l.length) (h2 : (asksL (l.take (i + 1))).getD i 0 ≤ args.length) : ¬ badArgs l i args := by
  rintro (h | ⟨a, ha, hn⟩)
  · omega
  · exact hn (h1 a ha)
theorem subR_bad {l : List Ty} {i : Nat} {args : List Int} (h : badArgs l i args) : subR l i args = .error 1 := by unfold subR; rw [if_pos h]
theorem subR_ok {l : List Ty} {i : Nat} {args : List Int} (h : ¬ badArgs l i args) {out : List Ty} {ins : List Int} (hs : subN l args (asksL (l.take (i + 1))) (partsL l i) (i + 1) = .ok (out, ins)) : subR l i args = .ok (out, ins.getD i 0) := by
  unfold subR; rw [if_neg h, hs]
theorem subR_error {l : List Ty} {i : Nat} {args : List Int} (h : ¬ badArgs l i args) {q : Nat} (hq : q ≤ i + 1) {e : Int} (hs : subN l args (asksL (l.take (i + 1))) (partsL l i) q = .error e) : subR l i args = .error e := by
  have h2 := subN_error hs (i + 1 - q)
  rw [show q + (i + 1 - q) = i + 1 by omega] at h2
  unfold subR; rw [if_neg h, h2]

attribute [local irreducible] AC AT AO AK AH ACalls Sub Res.cells Res.obj Res.nix Res.own Res.map Exit.then Exit.inBlock bodyPost Code.wp Next Post Kont
section
variable {W0 : World} {L : List Res} {F : List Fact} {R : Value → List Res → List Fact → Prop}
set_option maxRecDepth 100000
set_option maxHeartbeats 8000000
theorem there_c (g : Glob W0) (l : List Ty) (hok : ∀ t ∈ l, TyOk t) (i : Int) {a : Option Addr} {k c : Nat} (mL : fL l a k c ∈ F) (h1 : ¬ rightP l → R (.int .i64 1) L F) (h2 : rightP l → ¬(0 ≤ i ∧ i < l.length) → R (.int .i64 8) L F) (h3 : rightP l → 0 ≤ i ∧ i < l.length → R (.int .i64 0) L F) : ACalls Tryd.prog W0 34 #[.slice a k c, .int .i64 i] L F R := by
  refine ACalls.body Tryd.func34 rfl Tryd.ntmps34 rfl ?_
  refine AC.seq (AC.region (AL.go (AO.assign rfl rfl (AL.nil (AK.seqN (AC.seq ?_))))))
  refine AC.block (AC.seq (AC.region (AL.go (AO.move rfl rfl ?_))))
  refine AL.go (AO.call rfl rfl (right_c g l hok (by repeat (first | exact mem0 | assumption | refine memS ?_)) (fun c7 => ?_) (fun c7 => ?_)))
  · refine AL.go (AO.not rfl rfl (AL.go (AO.assign rfl rfl (AL.nil (AK.seqN (AC.condF rfl (AC.seq ?_)))))))
    refine AC.region (AL.go (AO.move rfl rfl ?_))
    refine AL.go (AO.lss rfl rfl rfl (fun c11 => ?_) (fun c11 => ?_))
    · refine AL.go (AO.move rfl rfl (AL.no rfl rfl rfl rfl (AL.no rfl rfl rfl rfl (AL.no rfl rfl rfl rfl (AL.no rfl rfl rfl rfl (AL.go (AO.pickT rfl rfl rfl ?_)))))))
      refine AL.go (AO.assign rfl rfl (AL.nil (AK.seqN (AC.condT rfl (AC.seq (AC.region ?_))))))
      refine AL.go (AO.assign rfl rfl (AL.nil (AK.seqN (AC.ret (AK.blkR (AK.seqR ?_))))))
      exact AK.ret Tryd.results34 rfl (by repeat (first | exact Sub.refl _ _ | refine Sub.trans Sub.dropF ?_)) (h2 c7 (by omega))
    · refine AL.go (AO.move rfl rfl (AL.yes rfl rfl (AO.move rfl rfl (AL.yes rfl rfl (AO.move rfl rfl ?_)))))
      refine AL.yes rfl rfl (AO.len rfl rfl (fun hl15 => ?_) (hm := by repeat (first | exact mem0 | assumption | refine memS ?_)))
      refine AL.yes rfl rfl (AO.geq rfl rfl rfl (fun c16 => ?_) (fun c16 => ?_))
      · refine AL.go (AO.pickF rfl rfl rfl (AL.go (AO.assign rfl rfl (AL.nil (AK.seqN (AC.condT rfl (AC.seq ?_)))))))
        refine AC.region (AL.go (AO.assign rfl rfl (AL.nil (AK.seqN (AC.ret (AK.blkR ?_))))))
        refine AK.seqR ?_
        exact AK.ret Tryd.results34 rfl (by repeat (first | exact Sub.refl _ _ | refine Sub.trans Sub.dropF ?_)) (h2 c7 (by omega))
      · refine AL.go (AO.pickF rfl rfl rfl (AL.go (AO.assign rfl rfl (AL.nil (AK.seqN (AC.condF rfl (AC.skip ?_)))))))
        refine AK.blkN (AK.seqN (AC.seq (AC.region (AL.go (AO.assign rfl rfl (AL.nil ?_))))))
        refine AK.seqN (AC.ret ?_)
        exact AK.ret Tryd.results34 rfl (by repeat (first | exact Sub.refl _ _ | refine Sub.trans Sub.dropF ?_)) (h3 c7 (by omega))
  · refine AL.go (AO.not rfl rfl (AL.go (AO.assign rfl rfl (AL.nil (AK.seqN (AC.condT rfl (AC.seq ?_)))))))
    refine AC.region (AL.go (AO.assign rfl rfl (AL.nil (AK.seqN (AC.ret (AK.blkR ?_))))))
    refine AK.seqR ?_
    exact AK.ret Tryd.results34 rfl (by repeat (first | exact Sub.refl _ _ | refine Sub.trans Sub.dropF ?_)) (h1 c7)
theorem params_c (g : Glob W0) (l : List Ty) (hok : ∀ t ∈ l, TyOk t) (i : Int) {a : Option Addr} {k c : Nat} (mL : fL l a k c ∈ F) (h1 : ¬ rightP l → R (.tuple #[.int .i64 0, .int .i64 1]) L F) (h2 : rightP l → ¬(0 ≤ i ∧ i < l.length) → R (.tuple #[.int .i64 0, .int .i64 8]) L F)
    (h3 : rightP l → ∀ n : Nat, i = n → n < l.length → R (.tuple #[.int .i64 ((asksL (l.take (n + 1))).getD n 0), .int .i64 0]) L F) : ACalls Tryd.prog W0 21 #[.slice a k c, .int .i64 i] L F R := by
  by_cases hr : rightP l
  · by_cases hi : 0 ≤ i ∧ i < l.length
    · obtain ⟨n, rfl⟩ : ∃ n : Nat, i = n := ⟨i.toNat, by omega⟩
      have hn : n < l.length := by omega
      have hAl := asks_len l (n + 1) (by omega)
      have hget := getD_eq (l := asksL (l.take (n + 1))) (0 : Int) (q := n) (by omega)
      refine ACalls.body Tryd.func21 rfl Tryd.ntmps21 rfl ?_
      refine AC.seq (AC.region (AL.go (AO.assign rfl rfl (AL.go (AO.assign rfl rfl (AL.nil (AK.seqN ?_)))))))
      refine AC.seq (AC.seq (AC.region (AL.go (AO.move rfl rfl (AL.go (AO.move rfl rfl ?_))))))
      refine AL.go (AO.call rfl rfl (there_c g l hok (n : Int) mL (fun c => absurd hr c) (fun _ c => absurd hi c) (fun _ _ => ?_)))
      refine AL.go (AO.assign rfl rfl (AL.nil (AK.seqN (AC.seq (AC.region (AL.go (AO.move rfl rfl ?_)))))))
      refine AL.go (AO.neq rfl rfl rfl (fun c11 => absurd rfl c11) (fun _ => ?_))
      refine AL.nil (AK.seqN (AC.condF rfl (AC.skip (AK.seqN (AC.seq ?_)))))
      refine AC.region (AL.go (AO.move rfl rfl (AL.go (AO.move rfl rfl ?_))))
      refine AL.go (AO.call rfl rfl (asks_c l hr n hn (by repeat (first | exact mem0 | assumption | refine memS ?_)) (fun a15 k15 z15 => ?_)))
      refine AL.go (AO.move rfl rfl ?_)
      refine AL.go (AO.indexAddr (k := n) rfl rfl rfl rfl (enc := eI) (lst := asksL (l.take (n + 1))) (by repeat (first | exact mem0 | assumption | refine memS ?_)) (by omega) (fun _ _ => ?_))
      rw [← hget]
      refine AL.go (AO.loadF rfl rfl ?_)
      intros
      refine AL.go (AO.assign rfl rfl (AL.go (AO.assign rfl rfl (AL.nil (AK.seqN (AC.ret ?_))))))
      exact AK.ret2 (L' := L) (F' := F) Tryd.results21 rfl rfl (by repeat (first | exact Sub.refl _ _ | refine Sub.trans Sub.drop ?_ | refine Sub.trans Sub.dropF ?_)) (h3 hr n rfl hn)
    · skip
      refine ACalls.body Tryd.func21 rfl Tryd.ntmps21 rfl ?_
      refine AC.seq (AC.region (AL.go (AO.assign rfl rfl (AL.go (AO.assign rfl rfl (AL.nil (AK.seqN ?_)))))))
      refine AC.seq (AC.seq (AC.region (AL.go (AO.move rfl rfl (AL.go (AO.move rfl rfl ?_))))))
      refine AL.go (AO.call rfl rfl (there_c g l hok i mL (fun c => absurd hr c) (fun _ _ => ?_) (fun _ c => absurd c hi)))
      refine AL.go (AO.assign rfl rfl (AL.nil (AK.seqN (AC.seq (AC.region (AL.go (AO.move rfl rfl ?_)))))))
      refine AL.go (AO.neq rfl rfl rfl (fun _ => ?_) (fun c11 => absurd c11 (by decide)))
      refine AL.nil (AK.seqN (AC.condT rfl (AC.seq (AC.region (AL.go (AO.move rfl rfl ?_))))))
      refine AL.go (AO.assign rfl rfl (AL.go (AO.assign rfl rfl (AL.nil (AK.seqN (AC.ret (AK.seqR ?_)))))))
      exact AK.ret2 (L' := L) (F' := F) Tryd.results21 rfl rfl (by repeat (first | exact Sub.refl _ _ | refine Sub.trans Sub.dropF ?_)) (h2 hr hi)
  · skip
    refine ACalls.body Tryd.func21 rfl Tryd.ntmps21 rfl ?_
    refine AC.seq (AC.region (AL.go (AO.assign rfl rfl (AL.go (AO.assign rfl rfl (AL.nil (AK.seqN ?_)))))))
    refine AC.seq (AC.seq (AC.region (AL.go (AO.move rfl rfl (AL.go (AO.move rfl rfl ?_))))))
    refine AL.go (AO.call rfl rfl (there_c g l hok i mL (fun _ => ?_) (fun c _ => absurd c hr) (fun c _ => absurd c hr)))
    refine AL.go (AO.assign rfl rfl (AL.nil (AK.seqN (AC.seq (AC.region (AL.go (AO.move rfl rfl ?_)))))))
    refine AL.go (AO.neq rfl rfl rfl (fun _ => ?_) (fun c11 => absurd c11 (by decide)))
    refine AL.nil (AK.seqN (AC.condT rfl (AC.seq (AC.region (AL.go (AO.move rfl rfl ?_))))))
    refine AL.go (AO.assign rfl rfl (AL.go (AO.assign rfl rfl (AL.nil (AK.seqN (AC.ret (AK.seqR ?_)))))))
    exact AK.ret2 (L' := L) (F' := F) Tryd.results21 rfl rfl (by repeat (first | exact Sub.refl _ _ | refine Sub.trans Sub.dropF ?_)) (h1 hr)
theorem sub1_c (l : List Ty) (s : Int) {a3 : Option Addr} {k3 c3 b i : Nat} {ty : TypeId} (m3 : fL l a3 k3 c3 ∈ F) (hb : L[i]? = some (Res.cells b #[.slice a3 k3 c3] ty)) (hT : s < 0 ∨ s ≥ l.length → R (.bool true) L F) (hF : ¬(s < 0 ∨ s ≥ l.length) → R (.bool false) L F) :
    ACalls Tryd.prog W0 36 #[.int .i64 s, .pointer (some ⟨b, 0, none⟩)] L F R := by
  refine ACalls.body Tryd.func36 rfl Tryd.ntmps36 rfl ?_
  refine AC.seq (AC.region (AL.go (AO.assign rfl rfl (AL.nil (AK.seqN (AC.seq ?_))))))
  refine AC.region (AL.go (AO.move rfl rfl ?_))
  refine AL.go (AO.lss rfl rfl rfl (fun c5 => ?_) (fun c5 => ?_))
  · refine AL.go (AO.move rfl rfl (AL.no rfl rfl rfl rfl (AL.no rfl rfl rfl rfl (AL.no rfl rfl rfl rfl (AL.no rfl rfl rfl rfl (AL.go (AO.pickT rfl rfl rfl ?_)))))))
    refine AL.go (AO.assign rfl rfl (AL.nil (AK.seqN (AC.ret ?_))))
    first | exact AK.ret (L' := L) (F' := F) Tryd.results36 rfl (by repeat (first | exact Sub.refl _ _ | refine Sub.trans Sub.dropF ?_)) (hT (Or.inl c5)) | exact AK.ret (L' := L) (F' := F) Tryd.results36 rfl (by repeat (first | exact Sub.refl _ _ | refine Sub.trans Sub.dropF ?_)) (hT (Or.inr c10)) | exact AK.ret (L' := L) (F' := F) Tryd.results36 rfl (by repeat (first | exact Sub.refl _ _ | refine Sub.trans Sub.dropF ?_)) (hF (by omega))
  · refine AL.go (AO.move rfl rfl (AL.yes rfl rfl (AO.move rfl rfl ?_)))
    refine AL.yes rfl rfl (AO.loadB (cs := [.slice a3 k3 c3]) rfl rfl ?_ (hi := hb) (hv := rfl))
    refine AL.yes rfl rfl (AO.len rfl rfl (fun hl9 => ?_) (hm := m3))
    refine AL.yes rfl rfl (AO.geq rfl rfl rfl (fun c10 => ?_) (fun c10 => ?_))
    · refine AL.go (AO.pickF rfl rfl rfl (AL.go (AO.assign rfl rfl (AL.nil (AK.seqN (AC.ret ?_))))))
      first | exact AK.ret (L' := L) (F' := F) Tryd.results36 rfl (by repeat (first | exact Sub.refl _ _ | refine Sub.trans Sub.dropF ?_)) (hT (Or.inl c5)) | exact AK.ret (L' := L) (F' := F) Tryd.results36 rfl (by repeat (first | exact Sub.refl _ _ | refine Sub.trans Sub.dropF ?_)) (hT (Or.inr c10)) | exact AK.ret (L' := L) (F' := F) Tryd.results36 rfl (by repeat (first | exact Sub.refl _ _ | refine Sub.trans Sub.dropF ?_)) (hF (by omega))
    · refine AL.go (AO.pickF rfl rfl rfl (AL.go (AO.assign rfl rfl (AL.nil (AK.seqN (AC.ret ?_))))))
      first | exact AK.ret (L' := L) (F' := F) Tryd.results36 rfl (by repeat (first | exact Sub.refl _ _ | refine Sub.trans Sub.dropF ?_)) (hT (Or.inl c5)) | exact AK.ret (L' := L) (F' := F) Tryd.results36 rfl (by repeat (first | exact Sub.refl _ _ | refine Sub.trans Sub.dropF ?_)) (hT (Or.inr c10)) | exact AK.ret (L' := L) (F' := F) Tryd.results36 rfl (by repeat (first | exact Sub.refl _ _ | refine Sub.trans Sub.dropF ?_)) (hF (by omega))
end
end Go.Sy
