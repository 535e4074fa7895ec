/- Types instead of type params: in plain words. No program in sight. The terms of an interface, each once and in order; a type with others instead of its params: in plain words. No program in sight. -/
import Derived.Test.YthbngbiodamndaaDoorTyH
namespace Go.Sy
open Go Go.Proofs

/-! ### What a type that may be is -/
theorem start_plain : ∀ t ∈ startL, t.kids = [] ∧ t.words = [] ∧ t.kind ≠ 9 ∧ (t.kind = 7 → t.name = []) := by decide
structure RtOk (q : Nat) (t : Ty) : Prop where
  kids : ∀ k ∈ t.kids, 0 ≤ k ∧ k < q
  few : t.kids.length ≤ 16
  param : t.kind = 9 → 0 ≤ t.n ∧ t.n < 16 ∧ t.kids = []
  bare : t.kind = 7 → t.name = []
  iface : t.kind = 7 → t.words.length = t.kids.length
theorem rt_of_right {l : List Ty} (h : rightP l) {q : Nat} (hq : q < l.length) : RtOk q l[q] := by
  have hr := h.2.2 q hq
  unfold rowAt at hr
  by_cases c : q < 22
  · rw [if_pos c] at hr
    have hql : q < startL.length := by rw [start_len]; exact c
    rw [start_get hql] at hr
    obtain ⟨h1, h2, h3, h4⟩ := start_plain _ (List.getElem_mem hql)
    rw [hr]
    generalize startL[q] = t at h1 h2 h3 h4
    exact ⟨by rw [h1]; simp, by rw [h1]; simp, fun e => absurd e h3, h4, fun _ => by rw [h1, h2]; rfl⟩
  · rw [if_neg c] at hr
    obtain ⟨⟨hkids, hlen, hname, _, hK⟩, _⟩ := hr
    have htl : (l.take q).length = q := by rw [List.length_take]; omega
    rw [kidsP, htl] at hkids
    generalize l[q] = t at hkids hlen hname hK
    refine ⟨hkids, hlen, fun e => ?_, fun e => hname (by omega), fun e => ((madeK_7 e).1 hK).1⟩
    have := (madeK_9 e).1 hK
    exact ⟨this.1, this.2.1, List.eq_nil_of_length_eq_zero this.2.2⟩

/-! ### How many params are asked for -/
def askK (A : List Int) (m : Int) (ks : List Int) : Int := ks.foldl (fun m k => max m (A.getD k.toNat 0)) m
def ask0 (t : Ty) : Int := if t.kind = 9 then t.n + 1 else 0
def ask1 (A : List Int) (t : Ty) : Int := askK A (ask0 t) t.kids
def asksL (l : List Ty) : List Int := l.foldl (fun A t => A ++ [ask1 A t]) []
theorem asks_step {l : List Ty} {q : Nat} (hq : q < l.length) : asksL (l.take (q + 1)) = asksL (l.take q) ++ [ask1 (asksL (l.take q)) l[q]] := by
  rw [List.take_succ_eq_append_getElem hq, asksL, List.foldl_append]; rfl
theorem asks_len (l : List Ty) : ∀ q, q ≤ l.length → (asksL (l.take q)).length = q
  | 0, _ => by simp [asksL]
  | q + 1, h => by rw [asks_step (by omega), List.length_append, asks_len l q (by omega)]; rfl
theorem askK_snoc (A : List Int) (m : Int) (ks : List Int) {v : Nat} (hv : v < ks.length) : askK A m (ks.take (v + 1)) = max (askK A m (ks.take v)) (A.getD ks[v].toNat 0) := by
  rw [List.take_succ_eq_append_getElem hv, askK, List.foldl_append]; rfl
theorem askK_ge (A : List Int) : ∀ (ks : List Int) (m : Int), m ≤ askK A m ks ∧ ∀ k ∈ ks, A.getD k.toNat 0 ≤ askK A m ks
  | [], m => ⟨Int.le_refl _, by simp⟩
  | k :: ks, m => by
    obtain ⟨h1, h2⟩ := askK_ge A ks (max m (A.getD k.toNat 0))
    have e : askK A m (k :: ks) = askK A (max m (A.getD k.toNat 0)) ks := rfl
    rw [e]
    refine ⟨by omega, fun x hx => ?_⟩
    rcases List.mem_cons.1 hx with rfl | hx
    · omega
    · exact h2 x hx
/-- The asks of what stands ahead stay. -/
theorem getD_app {α : Type} (a b : List α) {k : Nat} (z : α) (hk : k < a.length) : (a ++ b).getD k z = a.getD k z := by
  rw [List.getD_eq_getElem?_getD, List.getElem?_append_left hk, List.getD_eq_getElem?_getD]
theorem asks_pre (l : List Ty) : ∀ (d q k : Nat), q + d ≤ l.length → k < q → (asksL (l.take (q + d))).getD k 0 = (asksL (l.take q)).getD k 0
  | 0, _, _, _, _ => rfl
  | d + 1, q, k, h, hk => by
    have e : q + (d + 1) = q + d + 1 := by omega
    rw [e, asks_step (by omega), getD_app _ _ _ (by rw [asks_len l _ (by omega)]; omega)]
    exact asks_pre l d q k (by omega) hk
theorem asks_at {l : List Ty} {i n : Nat} (hi : i < l.length) (hn : n ≤ i) : (asksL (l.take (i + 1))).getD n 0 = ask1 (asksL (l.take n)) (l[n]'(by omega)) := by
  have e : i + 1 = n + 1 + (i - n) := by omega
  rw [e, asks_pre l (i - n) (n + 1) n (by omega) (by omega), asks_step (by omega), List.getD_eq_getElem?_getD, List.getElem?_append_right (by rw [asks_len l n (by omega)]; omega), asks_len l n (by omega)]
  simp
theorem asks_kid {l : List Ty} (hr : rightP l) {i n : Nat} (hi : i < l.length) (hn : n ≤ i) {k : Int} (hk : k ∈ (l[n]'(by omega)).kids) : (asksL (l.take (i + 1))).getD k.toNat 0 ≤ (asksL (l.take (i + 1))).getD n 0 := by
  have hb := (rt_of_right hr (show n < l.length by omega)).kids k hk
  have e : i + 1 = n + (i + 1 - n) := by omega
  rw [asks_at hi hn]
  rw [e, asks_pre l (i + 1 - n) n k.toNat (by omega) (by omega)]
  exact (askK_ge _ _ _).2 k hk
theorem asks_nonneg {l : List Ty} (hr : rightP l) {i n : Nat} (hi : i < l.length) (hn : n ≤ i) : 0 ≤ (asksL (l.take (i + 1))).getD n 0 := by
  rw [asks_at hi hn]
  have h1 := (askK_ge (asksL (l.take n)) (l[n]'(by omega)).kids (ask0 (l[n]'(by omega)))).1
  have h0 : 0 ≤ ask0 (l[n]'(by omega)) := by
    unfold ask0
    split
    · have := ((rt_of_right hr (show n < l.length by omega)).param ‹_›).1; omega
    · omega
  exact Int.le_trans h0 h1
theorem ask0_le {l : List Ty} (hr : rightP l) {n : Nat} (hn : n < l.length) : 0 ≤ ask0 l[n] ∧ ask0 l[n] ≤ 16 := by
  unfold ask0
  split
  · have := (rt_of_right hr hn).param ‹_›; omega
  · omega
theorem askK_le {A : List Int} {B : Int} (hA : ∀ k : Nat, A.getD k 0 ≤ B) : ∀ (ks : List Int) (m : Int), m ≤ B → askK A m ks ≤ B
  | [], m, h => h
  | k :: ks, m, h => by
    have e : askK A m (k :: ks) = askK A (max m (A.getD k.toNat 0)) ks := rfl
    rw [e]
    exact askK_le hA ks _ (by have := hA k.toNat; omega)
theorem asks_le {l : List Ty} (hr : rightP l) : ∀ q, q ≤ l.length → ∀ k : Nat, (asksL (l.take q)).getD k 0 ≤ 16
  | 0, _, k => by simp [asksL]
  | q + 1, h, k => by
    rw [asks_step (by omega), List.getD_eq_getElem?_getD]
    have ih := asks_le hr q (by omega)
    rcases Nat.lt_or_ge k (asksL (l.take q)).length with c | c
    · rw [List.getElem?_append_left c, ← List.getD_eq_getElem?_getD]; exact ih k
    · rw [List.getElem?_append_right c]
      rcases Nat.eq_zero_or_pos (k - (asksL (l.take q)).length) with e | e
      · rw [e]; exact askK_le ih _ _ (ask0_le hr (by omega)).2
      · rw [List.getElem?_eq_none (by simp only [List.length_cons, List.length_nil]; omega)]; simp

/-! ### A type's parts -/
def markK (M : List Bool) (ks : List Int) : List Bool := ks.foldl (fun M k => M.set k.toNat true) M
def partStep (l : List Ty) (M : List Bool) (n : Nat) : List Bool := if M.getD n false = true then markK M (rowK l n) else M
where rowK (l : List Ty) (n : Nat) : List Int := (l.getD n (basicT [])).kids
def partsN (l : List Ty) (i : Nat) : Nat → List Bool
  | 0 => (List.replicate (i + 1) false).set i true
  | j + 1 => partStep l (partsN l i j) (i - j)
def partsL (l : List Ty) (i : Nat) : List Bool := partsN l i (i + 1)
theorem markK_len : ∀ (ks : List Int) (M : List Bool), (markK M ks).length = M.length
  | [], _ => rfl
  | k :: ks, M => by show (markK (M.set k.toNat true) ks).length = _; rw [markK_len ks]; simp
theorem markK_snoc (M : List Bool) (ks : List Int) {v : Nat} (hv : v < ks.length) : markK M (ks.take (v + 1)) = (markK M (ks.take v)).set ks[v].toNat true := by
  rw [List.take_succ_eq_append_getElem hv, markK, List.foldl_append]; rfl
theorem set_getD (M : List Bool) (a n : Nat) : (M.set a true).getD n false = (if a = n ∧ a < M.length then true else M.getD n false) := by
  simp only [List.getD_eq_getElem?_getD, List.getElem?_set]
  by_cases h1 : a = n
  · subst h1
    by_cases h2 : a < M.length
    · simp [h2]
    · simp [h2]
  · simp [h1]
theorem markK_get : ∀ (ks : List Int) (M : List Bool) (n : Nat), (∀ k ∈ ks, k.toNat < M.length) → ((markK M ks).getD n false = true ↔ M.getD n false = true ∨ ∃ k ∈ ks, k.toNat = n)
  | [], M, n, _ => by simp [markK]
  | k :: ks, M, n, h => by
    show (markK (M.set k.toNat true) ks).getD n false = true ↔ _
    have hk := h k (.head _)
    rw [markK_get ks _ n (fun x hx => by rw [List.length_set]; exact h x (.tail _ hx)), set_getD]
    by_cases e : k.toNat = n
    · simp [e, e ▸ hk]
    · simp [e]
theorem partsN_len (l : List Ty) (i : Nat) : ∀ j, (partsN l i j).length = i + 1
  | 0 => by simp [partsN]
  | j + 1 => by
    rw [partsN, partStep]
    split
    · rw [markK_len, partsN_len l i j]
    · exact partsN_len l i j
section
variable {l : List Ty} (hr : rightP l) {i : Nat} (hi : i < l.length)
include hr hi
omit hr in
theorem row_kid {n : Nat} (hn : n ≤ i) : partStep.rowK l n = (l[n]'(by omega)).kids := by
  unfold partStep.rowK; simp [List.getD, List.getElem?_eq_getElem (show n < l.length by omega)]
theorem kid_low {n : Nat} (hn : n ≤ i) {k : Int} (hk : k ∈ partStep.rowK l n) : 0 ≤ k ∧ k < n := by
  rw [row_kid hi hn] at hk
  exact (rt_of_right hr (show n < l.length by omega)).kids k hk
theorem mkpart_get (j : Nat) (hj : j ≤ i) (n : Nat) : (partsN l i (j + 1)).getD n false = true ↔ (partsN l i j).getD n false = true ∨ ((partsN l i j).getD (i - j) false = true ∧ ∃ k ∈ partStep.rowK l (i - j), k.toNat = n) := by
  rw [partsN, partStep]
  split
  · rename_i c
    rw [markK_get _ _ _ (fun k hk => by have := kid_low hr hi (Nat.sub_le i j) hk; rw [partsN_len]; omega)]
    exact ⟨fun h => h.imp id (fun h => ⟨c, h⟩), fun h => h.imp id (fun h => h.2)⟩
  · rename_i c
    constructor
    · exact fun h => .inl h
    · rintro (h | ⟨h, _⟩)
      · exact h
      · exact absurd h c
/-- What stands at or behind the place that is looked at stays. -/
theorem mkpart_stay (n : Nat) : ∀ d j, j + d ≤ i + 1 → i ≤ n + j → ((partsN l i (j + d)).getD n false = true ↔ (partsN l i j).getD n false = true)
  | 0, _, _, _ => Iff.rfl
  | d + 1, j, h, hn => by
    have e : j + (d + 1) = j + d + 1 := by omega
    rw [e, mkpart_get hr hi (j + d) (by omega)]
    have ih := mkpart_stay n d j (by omega) hn
    constructor
    · rintro (h1 | ⟨_, k, hk, e2⟩)
      · exact ih.1 h1
      · have := kid_low hr hi (Nat.sub_le i (j + d)) hk; omega
    · exact fun h1 => .inl (ih.2 h1)
theorem mkpart_mono (n : Nat) : ∀ d j, j + d ≤ i + 1 → (partsN l i j).getD n false = true → (partsN l i (j + d)).getD n false = true
  | 0, _, _, h => h
  | d + 1, j, hd, h => by
    have e : j + (d + 1) = j + d + 1 := by omega
    rw [e, mkpart_get hr hi (j + d) (by omega)]
    exact .inl (mkpart_mono n d j (by omega) h)
theorem parts_kid {n : Nat} (hn : n ≤ i) (hm : (partsL l i).getD n false = true) {k : Int} (hk : k ∈ (l[n]'(by omega)).kids) : (partsL l i).getD k.toNat false = true := by
  unfold partsL at hm ⊢
  have e : i + 1 = (i - n) + (n + 1) := by omega
  rw [e] at hm ⊢
  have h1 := (mkpart_stay hr hi n (n + 1) (i - n) (by omega) (by omega)).1 hm
  have e2 : (i - n) + (n + 1) = (i - n + 1) + n := by omega
  rw [e2]
  refine mkpart_mono hr hi _ n (i - n + 1) (by omega) ?_
  rw [mkpart_get hr hi (i - n) (by omega)]
  have e3 : i - (i - n) = n := by omega
  rw [e3]
  exact .inr ⟨h1, k, by rw [row_kid hi hn]; exact hk, rfl⟩
theorem parts_self : (partsL l i).getD i false = true := by
  unfold partsL
  have := mkpart_mono hr hi i (i + 1) 0 (by omega) (by rw [partsN, set_getD]; simp)
  simpa using this
theorem parts_ask {n : Nat} : ∀ j, j ≤ i + 1 → (partsN l i j).getD n false = true → n ≤ i ∧ (asksL (l.take (i + 1))).getD n 0 ≤ (asksL (l.take (i + 1))).getD i 0 := by
  intro j
  induction j generalizing n with
  | zero =>
    intro _ h
    rw [partsN, set_getD] at h
    split at h
    · rename_i c; obtain ⟨rfl, _⟩ := c; exact ⟨Nat.le_refl _, Int.le_refl _⟩
    · rcases Nat.lt_or_ge n (i + 1) with c | c
      · rw [List.getD_eq_getElem?_getD, List.getElem?_replicate] at h; simp [c] at h
      · rw [List.getD_eq_getElem?_getD, List.getElem?_eq_none (by simpa using c)] at h; simp at h
  | succ j ih =>
    intro hj h
    rw [mkpart_get hr hi j (by omega)] at h
    rcases h with h | ⟨h1, k, hk, e⟩
    · exact ih (by omega) h
    · have h2 := ih (by omega) h1
      have hb := kid_low hr hi (Nat.sub_le i j) hk
      rw [row_kid hi (Nat.sub_le i j)] at hk
      have h3 := asks_kid hr hi (Nat.sub_le i j) hk
      rw [e] at h3
      exact ⟨by omega, Int.le_trans h3 h2.2⟩
end
end Go.Sy

namespace Go.Sy
open Go Go.Proofs

instance (w : List UInt8) : Decidable (markP w) := by unfold markP; infer_instance
abbrev Tm := List UInt8 × Int
def zips (t : Ty) : List Tm := t.words.zip t.kids
theorem snocInd {α : Type} {P : List α → Prop} (h0 : P []) (hs : ∀ l x, P l → P (l ++ [x])) (l : List α) : P l := by
  have h : ∀ r : List α, P r.reverse := by
    intro r
    induction r with
    | nil => exact h0
    | cons x r ih => rw [List.reverse_cons]; exact hs _ _ ih
  have := h l.reverse
  rwa [List.reverse_reverse] at this
/-! ### By places -/
def markOf (zs : List Tm) (k : Int) : List UInt8 := zs.foldl (fun is z => if markP z.1 ∧ z.2 = k ∧ is ≠ [126] then z.1 else is) []
def termsR (m : Nat) (zs : List Tm) : List Tm := (List.range m).filterMap fun (p : Nat) => if markOf zs (p : Int) = [] then none else some (markOf zs (p : Int), (p : Int))
def declsR (zs : List Tm) : List Tm := zs.filter fun z => !decide (markP z.1)
def termsT (m : Nat) (t : Ty) : Ty := ⟨t.kind, [], t.n, (declsR (zips t) ++ termsR m (zips t)).map (·.1), (declsR (zips t) ++ termsR m (zips t)).map (·.2)⟩
/-! ### As they come -/
def addTm (a : List Tm) (z : Tm) : List Tm := match a.findIdx? (·.2 == z.2) with
  | none => a ++ [z]
  | some k => if z.1 = [126] then a.set k z else a
def termsA (zs : List Tm) : List Tm := zs.foldl (fun a z => if markP z.1 then addTm a z else a) []
theorem markOf_snoc (zs : List Tm) (z : Tm) (k : Int) : markOf (zs ++ [z]) k = if markP z.1 ∧ z.2 = k ∧ markOf zs k ≠ [126] then z.1 else markOf zs k := by
  unfold markOf; rw [List.foldl_append]; rfl
theorem termsA_snoc (zs : List Tm) (z : Tm) : termsA (zs ++ [z]) = if markP z.1 then addTm (termsA zs) z else termsA zs := by
  unfold termsA; rw [List.foldl_append]; rfl
theorem markOf_is (zs : List Tm) (k : Int) : markOf zs k = [] ∨ markP (markOf zs k) := by
  refine snocInd (P := fun zs => markOf zs k = [] ∨ markP (markOf zs k)) ?_ ?_ zs
  · exact .inl rfl
  · intro zs z ih
    rw [markOf_snoc]
    split
    · exact .inr ‹_ ∧ _›.1
    · exact ih
theorem idx_none {a : List Tm} {k : Int} (h : a.findIdx? (·.2 == k) = none) : k ∉ a.map (·.2) := by
  intro hm
  obtain ⟨x, hx, e⟩ := List.mem_map.1 hm
  have := List.findIdx?_eq_none_iff.1 h x hx
  simp [e] at this
theorem idx_some {a : List Tm} {k : Int} {j : Nat} (h : a.findIdx? (·.2 == k) = some j) : ∃ hj : j < a.length, a[j].2 = k := by
  obtain ⟨hj, h1, _⟩ := List.findIdx?_eq_some_iff_getElem.1 h
  exact ⟨hj, by simpa using h1⟩
theorem addTm_kids (a : List Tm) (z : Tm) : (addTm a z).map (·.2) = if z.2 ∈ a.map (·.2) then a.map (·.2) else a.map (·.2) ++ [z.2] := by
  unfold addTm
  cases h : a.findIdx? (·.2 == z.2) with
  | none => rw [if_neg (idx_none h)]; simp
  | some j =>
    obtain ⟨hj, e⟩ := idx_some h
    rw [if_pos (List.mem_map.2 ⟨_, List.getElem_mem hj, e⟩)]
    simp only
    split
    · rw [List.map_set]
      have : z.2 = (a.map (·.2))[j]'(by simpa using hj) := by simp [e]
      rw [this]; exact List.set_getElem_self _
    · rfl
/-- What comes as it comes is what stands by places. -/
theorem termsA_is (zs : List Tm) : ((termsA zs).map (·.2)).Nodup ∧ ∀ x : Tm, x ∈ termsA zs ↔ x.1 = markOf zs x.2 ∧ x.1 ≠ [] := by
  refine snocInd (P := fun zs => ((termsA zs).map (·.2)).Nodup ∧ ∀ x : Tm, x ∈ termsA zs ↔ x.1 = markOf zs x.2 ∧ x.1 ≠ []) ?_ ?_ zs
  · exact ⟨by simp [termsA], fun x => by simp [termsA, markOf]⟩
  · intro zs z ih
    obtain ⟨hn, hm⟩ := ih
    rw [termsA_snoc]
    by_cases c : markP z.1
    · rw [if_pos c]
      have hz0 : z.1 ≠ [] := by rcases c with e | e <;> rw [e] <;> simp
      have hmem : z.2 ∈ (termsA zs).map (·.2) ↔ markOf zs z.2 ≠ [] := by
        constructor
        · intro h
          obtain ⟨x, hx, e⟩ := List.mem_map.1 h
          have := (hm x).1 hx
          rw [← e, ← this.1]; exact this.2
        · exact fun h => List.mem_map.2 ⟨(markOf zs z.2, z.2), (hm _).2 ⟨rfl, h⟩, rfl⟩
      constructor
      · rw [addTm_kids]
        split
        · exact hn
        · rename_i h
          exact List.nodup_append.2 ⟨hn, by simp, fun a ha b hb => by
            have : b = z.2 := by simpa using hb
            subst this; intro e; subst e; exact h ha⟩
      · intro x
        rw [markOf_snoc]
        unfold addTm
        cases h : (termsA zs).findIdx? (·.2 == z.2) with
        | none =>
          have hno := idx_none h
          have h0 : markOf zs z.2 = [] := by
            rcases Classical.em (markOf zs z.2 = []) with k | k
            · exact k
            · exact absurd (hmem.2 k) hno
          simp only [List.mem_append, List.mem_singleton]
          constructor
          · rintro (hx | rfl)
            · have := (hm x).1 hx
              have hne : z.2 ≠ x.2 := fun e => hno (e ▸ List.mem_map.2 ⟨x, hx, rfl⟩)
              rw [if_neg (fun k => hne k.2.1)]; exact this
            · rw [if_pos ⟨c, rfl, by rw [h0]; simp⟩]; exact ⟨rfl, hz0⟩
          · rintro ⟨h1, h2⟩
            by_cases e : z.2 = x.2
            · rw [if_pos ⟨c, e, by rw [← e, h0]; simp⟩] at h1
              exact .inr (Prod.ext h1 e.symm)
            · rw [if_neg (fun k => e k.2.1)] at h1
              exact .inl ((hm x).2 ⟨h1, h2⟩)
        | some j =>
          obtain ⟨hj, ej⟩ := idx_some h
          have hjm := (hm _).1 (List.getElem_mem hj)
          simp only
          have huniq : ∀ y ∈ termsA zs, y.2 = z.2 → y = (termsA zs)[j] := by
            intro y hy e
            have := (hm y).1 hy
            refine Prod.ext ?_ (e.trans ej.symm)
            rw [this.1, hjm.1, e, ej]
          by_cases ct : z.1 = [126]
          · rw [if_pos ct]
            have hset : ∀ y : Tm, y ∈ (termsA zs).set j z ↔ y = z ∨ (y ∈ termsA zs ∧ y.2 ≠ z.2) := by
              intro y
              rw [List.mem_iff_getElem?]
              constructor
              · rintro ⟨q, hq⟩
                by_cases e : j = q
                · subst e; rw [List.getElem?_set_self hj] at hq; exact .inl (Option.some.inj hq).symm
                · rw [List.getElem?_set_ne e] at hq
                  have hyq := List.mem_of_getElem? hq
                  refine .inr ⟨hyq, fun e2 => e ?_⟩
                  have hql : q < (termsA zs).length := by
                    rcases Nat.lt_or_ge q (termsA zs).length with k | k
                    · exact k
                    · simp [List.getElem?_eq_none k] at hq
                  have e3 : (termsA zs)[q] = y := by rw [List.getElem?_eq_getElem hql] at hq; exact Option.some.inj hq
                  have e4 : ((termsA zs).map (·.2))[j]'(by simpa using hj) = ((termsA zs).map (·.2))[q]'(by simpa using hql) := by
                    simp only [List.getElem_map]; rw [e3, e2, ej]
                  exact (List.getElem_inj (h₀ := by simpa using hj) (h₁ := by simpa using hql) hn).1 e4
              · rintro (rfl | ⟨hy, hne⟩)
                · exact ⟨j, List.getElem?_set_self hj⟩
                · obtain ⟨q, hq, rfl⟩ := List.getElem_of_mem hy
                  refine ⟨q, ?_⟩
                  rw [List.getElem?_set_ne (fun e => hne (by subst e; exact ej)), List.getElem?_eq_getElem hq]
            rw [hset]
            constructor
            · rintro (rfl | ⟨hx, hne⟩)
              · refine ⟨?_, hz0⟩
                by_cases e : markOf zs x.2 = [126]
                · rw [if_neg (fun k => k.2.2 e), e]; exact ct
                · rw [if_pos ⟨c, rfl, e⟩]
              · rw [if_neg (fun k => hne k.2.1.symm)]; exact (hm x).1 hx
            · rintro ⟨h1, h2⟩
              by_cases e : z.2 = x.2
              · left
                refine Prod.ext ?_ e.symm
                by_cases e2 : markOf zs x.2 = [126]
                · rw [if_neg (fun k => k.2.2 e2), e2] at h1; rw [h1, ct]
                · rw [if_pos ⟨c, e, e2⟩] at h1; exact h1
              · rw [if_neg (fun k => e k.2.1)] at h1
                exact .inr ⟨(hm x).2 ⟨h1, h2⟩, fun k => e k.symm⟩
          · rw [if_neg ct]
            have hz61 : z.1 = [61] := c.resolve_right ct
            constructor
            · intro hx
              have := (hm x).1 hx
              by_cases e : z.2 = x.2
              · by_cases e2 : markOf zs x.2 = [126]
                · rw [if_neg (fun k => k.2.2 e2)]; exact this
                · rw [if_pos ⟨c, e, e2⟩]
                  have h5 : markP (markOf zs x.2) := (markOf_is zs x.2).resolve_left (by rw [← this.1]; exact this.2)
                  exact ⟨by rw [this.1, hz61]; exact h5.resolve_right e2, this.2⟩
              · rw [if_neg (fun k => e k.2.1)]; exact this
            · rintro ⟨h1, h2⟩
              by_cases e : z.2 = x.2
              · have h5 : markP (markOf zs z.2) := (markOf_is zs z.2).resolve_left (by rw [← ej, ← hjm.1]; exact hjm.2)
                by_cases e2 : markOf zs x.2 = [126]
                · rw [if_neg (fun k => k.2.2 e2)] at h1; exact (hm x).2 ⟨h1, h2⟩
                · rw [if_pos ⟨c, e, e2⟩] at h1
                  refine (hm x).2 ⟨?_, h2⟩
                  rw [h1, hz61, ← e]; rw [← e] at e2; exact (h5.resolve_right e2).symm
              · rw [if_neg (fun k => e k.2.1)] at h1
                exact (hm x).2 ⟨h1, h2⟩
    · rw [if_neg c]
      refine ⟨hn, fun x => ?_⟩
      rw [markOf_snoc, if_neg (fun k => c k.1)]
      exact hm x
/-- A list of terms, each place once, in order of the places: it is the one by places. -/
theorem termsR_mem (m : Nat) (zs : List Tm) (x : Tm) : x ∈ termsR m zs ↔ x.1 = markOf zs x.2 ∧ x.1 ≠ [] ∧ 0 ≤ x.2 ∧ x.2 < m := by
  unfold termsR
  rw [List.mem_filterMap]
  constructor
  · rintro ⟨p, hp, e⟩
    have hpm := List.mem_range.1 hp
    split at e
    · cases e
    · injection e with e; subst e
      exact ⟨rfl, ‹_›, by simp only; omega, by simp only; omega⟩
  · rintro ⟨h1, h2, h3, h4⟩
    refine ⟨x.2.toNat, List.mem_range.2 (by omega), ?_⟩
    have e : ((x.2.toNat : Nat) : Int) = x.2 := by omega
    rw [e, if_neg (by rw [← h1]; exact h2), ← h1]
theorem termsR_sorted (m : Nat) (zs : List Tm) : (termsR m zs).Pairwise fun x y => x.2 < y.2 := by
  unfold termsR
  refine List.Pairwise.filterMap (R := fun (a b : Nat) => a < b) _ ?_ List.pairwise_lt_range
  intro a b hab x hx y hy
  split at hx
  · cases hx
  · split at hy
    · cases hy
    · injection hx with hx; injection hy with hy; subst hx hy; simp only; omega
theorem markOf_kid (zs : List Tm) (k : Int) (h : markOf zs k ≠ []) : ∃ z ∈ zs, markP z.1 ∧ z.2 = k := by
  revert h
  refine snocInd (P := fun zs => markOf zs k ≠ [] → ∃ z ∈ zs, markP z.1 ∧ z.2 = k) (fun h => absurd rfl h) ?_ zs
  intro zs z ih h
  rw [markOf_snoc] at h
  split at h
  · rename_i c; exact ⟨z, by simp, c.1, c.2.1⟩
  · obtain ⟨y, hy, h2⟩ := ih h
    exact ⟨y, List.mem_append_left _ hy, h2⟩
theorem terms_sort {m : Nat} {zs : List Tm} (hz : ∀ z ∈ zs, markP z.1 → 0 ≤ z.2 ∧ z.2 < m) {lst : List Tm} (hp : lst.Perm (termsA zs)) (hs : lst.Pairwise fun x y => x.2 ≤ y.2) : lst = termsR m zs := by
  obtain ⟨hn, hm⟩ := termsA_is zs
  have hnd : (termsA zs).Nodup := by
    have h1 : (termsA zs).Pairwise fun a b => a.2 ≠ b.2 := List.pairwise_map.1 hn
    exact h1.imp fun h e => h (by rw [e])
  have hnr : (termsR m zs).Nodup := (termsR_sorted m zs).imp fun h e => by rw [e] at h; omega
  have hperm : lst.Perm (termsR m zs) := hp.trans ((List.perm_ext_iff_of_nodup hnd hnr).2 fun x => by
    rw [hm, termsR_mem]
    constructor
    · rintro ⟨h1, h2⟩
      obtain ⟨z, hz1, hz2, hz3⟩ := markOf_kid zs x.2 (by rw [← h1]; exact h2)
      have := hz z hz1 hz2
      exact ⟨h1, h2, by omega, by omega⟩
    · exact fun h => ⟨h.1, h.2.1⟩)
  refine List.Perm.eq_of_pairwise (le := fun x y => x.2 ≤ y.2) ?_ hs ((termsR_sorted m zs).imp fun h => by omega) hperm
  intro a b ha hb h1 h2
  have ha2 := (termsR_mem m zs a).1 (hperm.mem_iff.1 ha)
  have hb2 := (termsR_mem m zs b).1 hb
  have e : a.2 = b.2 := by omega
  exact Prod.ext (by rw [ha2.1, hb2.1, e]) e

/-! ### A type with others instead of its params -/
def oddP (l : List Ty) (t : Ty) : Prop := ∃ z ∈ zips t, markP z.1 ∧ (kindAt l z.2 = 7 ∨ kindAt l z.2 = 9 ∨ (14 ≤ z.2 ∧ z.2 ≤ 19))
open Classical in
noncomputable def addF (l : List Ty) (t : Ty) : List Ty × Int × Int := if h : ∃ p : List Ty × Int × Int, AddP l t p.1 p.2.1 p.2.2 then h.choose else ([], 0, 0)
theorem addF_is {l : List Ty} {t : Ty} {m : List Ty} {i e : Int} (hr : rightP l) (h : AddP l t m i e) : addF l t = (m, i, e) := by
  have hx : ∃ p : List Ty × Int × Int, AddP l t p.1 p.2.1 p.2.2 := ⟨(m, i, e), h⟩
  unfold addF
  rw [dif_pos hx]
  obtain ⟨h1, h2, h3⟩ := addP_one hr hx.choose_spec h
  exact Prod.ext h1 (Prod.ext h2 h3)
def mapK (ins : List Int) (t : Ty) : Ty := ⟨t.kind, t.name, t.n, t.words, t.kids.map fun k => ins.getD k.toNat 0⟩
open Classical in
noncomputable def putS (out : List Ty) (ins : List Int) (t : Ty) : Except Int (List Ty × List Int) :=
  if t.kind = 7 ∧ oddP out t then .error 11
  else if (addF out (if t.kind = 7 then termsT out.length t else t)).2.2 = 0 then .ok ((addF out (if t.kind = 7 then termsT out.length t else t)).1, ins ++ [(addF out (if t.kind = 7 then termsT out.length t else t)).2.1])
  else .error (addF out (if t.kind = 7 then termsT out.length t else t)).2.2
noncomputable def stepS (l : List Ty) (args A : List Int) (M : List Bool) (n : Nat) (out : List Ty) (ins : List Int) : Except Int (List Ty × List Int) :=
  if M.getD n false = false ∨ A.getD n 0 = 0 then .ok (out, ins ++ [(n : Int)])
  else if (l.getD n (basicT [])).kind = 9 then .ok (out, ins ++ [args.getD (l.getD n (basicT [])).n.toNat 0])
  else putS out ins (mapK ins (l.getD n (basicT [])))
noncomputable def subN (l : List Ty) (args A : List Int) (M : List Bool) : Nat → Except Int (List Ty × List Int)
  | 0 => .ok (l, [])
  | n + 1 => match subN l args A M n with
    | .error e => .error e
    | .ok (out, ins) => stepS l args A M n out ins
def badArgs (l : List Ty) (i : Nat) (args : List Int) : Prop := (args.length : Int) < (asksL (l.take (i + 1))).getD i 0 ∨ ∃ a ∈ args, ¬(0 ≤ a ∧ a < l.length)
open Classical in
noncomputable def subR (l : List Ty) (i : Nat) (args : List Int) : Except Int (List Ty × Int) :=
  if badArgs l i args then .error 1 else match subN l args (asksL (l.take (i + 1))) (partsL l i) (i + 1) with
    | .error e => .error e
    | .ok (out, ins) => .ok (out, ins.getD i 0)
theorem subN_error {l : List Ty} {args A : List Int} {M : List Bool} {n : Nat} {e : Int} (h : subN l args A M n = .error e) : ∀ d, subN l args A M (n + d) = .error e
  | 0 => h
  | d + 1 => by rw [← Nat.add_assoc, subN, subN_error h d]
/-- What holds behind each step. -/
structure SubOk (l : List Ty) (n : Nat) (out : List Ty) (ins : List Int) : Prop where
  right : rightP out
  pre : l <+: out
  len : ins.length = n
  ins : ∀ p : Nat, p < n → 0 ≤ ins.getD p 0 ∧ ins.getD p 0 < out.length
theorem mapK_kids {ins : List Int} {out : List Ty} {n : Nat} (h : ∀ p : Nat, p < n → 0 ≤ ins.getD p 0 ∧ ins.getD p 0 < out.length) {t : Ty} (ht : ∀ k ∈ t.kids, 0 ≤ k ∧ k < n) : ∀ k ∈ (mapK ins t).kids, 0 ≤ k ∧ k < out.length := by
  intro k hk
  obtain ⟨x, hx, rfl⟩ := List.mem_map.1 hk
  have := ht x hx
  exact h x.toNat (by omega)
theorem SubOk.step {l : List Ty} {n : Nat} {out : List Ty} {ins : List Int} (h : SubOk l n out ins) {m : List Ty} {k : Int} (hm : rightP m) (hp : out <+: m) (hk : 0 ≤ k ∧ k < m.length) : SubOk l (n + 1) m (ins ++ [k]) := by
  refine ⟨hm, h.pre.trans hp, by rw [List.length_append, h.len]; rfl, fun p hpn => ?_⟩
  have hl := hp.length_le
  rcases Nat.lt_or_ge p n with c | c
  · rw [getD_app _ _ _ (by rw [h.len]; exact c)]
    have := h.ins p c
    omega
  · have e : p = ins.length := by have := h.len; omega
    subst e
    simpa [List.getD_eq_getElem?_getD] using hk
theorem add_pre {l : List Ty} {t : Ty} {m : List Ty} {i e : Int} (hr : rightP l) (h : AddP l t m i e) (he : e = 0) : rightP m ∧ l <+: m ∧ 0 ≤ i ∧ i < m.length := by
  rcases h with ⟨q, hq, h1, h2, h3, h4⟩ | ⟨n, ⟨_, h2, _, h4⟩ | ⟨_, _, h2, _, h4⟩ | ⟨hm, hl, h2, h3, h4⟩⟩
  · subst h2; exact ⟨hr, List.prefix_rfl, by omega, by omega⟩
  · omega
  · omega
  · subst h2
    have h400 := hr.2.1
    exact ⟨right_snoc hr n hm (by omega), List.prefix_append _ _, by omega, by rw [List.length_append]; simp only [List.length_cons, List.length_nil]; omega⟩
theorem declsR_snoc (zs : List Tm) (z : Tm) : declsR (zs ++ [z]) = if markP z.1 then declsR zs else declsR zs ++ [z] := by
  unfold declsR
  rw [List.filter_append]
  by_cases c : markP z.1
  · simp [c]
  · simp [c]
end Go.Sy
