/- The law of substitution: what stands for each type, whatever the arena; it comes to it, and whoever comes to it is it; in two steps as in one. No program in sight. What stands for each type: one, the same in each greater arena, found by the program's steps, and in two steps as in one. No program in sight. In two steps as in one; each param instead of itself; a type that asks for none. No program in sight. -/
import Derived.Test.YthbngbiodamndaaDoorSubG
namespace Go.Sy
open Go Go.Proofs

/-- How many params the type of a place asks for. -/
def askAt (N : List Ty) (p : Nat) : Int := (asksL N).getD p 0
theorem ask_all (N : List Ty) : asksL N = asksL (N.take N.length) := by rw [List.take_length]
theorem ask_in {N : List Ty} {i p : Nat} (hi : i < N.length) (hp : p ≤ i) : (asksL (N.take (i + 1))).getD p 0 = askAt N p := by
  unfold askAt
  rw [ask_all N]
  have e : N.length = i + 1 + (N.length - (i + 1)) := by omega
  have := asks_pre N (N.length - (i + 1)) (i + 1) p (by omega) (by omega)
  rw [← e] at this
  exact this.symm
theorem ask_one {N : List Ty} {p : Nat} (hp : p < N.length) : askAt N p = ask1 (asksL (N.take p)) N[p] := by
  rw [← ask_in hp (Nat.le_refl p)]
  exact asks_at hp (Nat.le_refl p)
theorem ask_pre {N M : List Ty} (h : N <+: M) {p : Nat} (hp : p < N.length) : askAt M p = askAt N p := by
  obtain ⟨r, rfl⟩ := h
  have hp2 : p < (N ++ r).length := by simp; omega
  rw [← ask_in hp2 (Nat.le_refl p), ← ask_in hp (Nat.le_refl p), List.take_append_of_le_length (by omega)]
theorem ask_nonneg {N : List Ty} (hr : rightP N) {p : Nat} (hp : p < N.length) : 0 ≤ askAt N p := by
  rw [← ask_in hp (Nat.le_refl p)]; exact asks_nonneg hr hp (Nat.le_refl p)
theorem ask_kid {N : List Ty} (hr : rightP N) {p : Nat} (hp : p < N.length) {k : Int} (hk : k ∈ N[p].kids) : askAt N k.toNat ≤ askAt N p := by
  have hb := (rt_of_right hr hp).kids k hk
  rw [← ask_in hp (Nat.le_refl p), ← ask_in hp (show k.toNat ≤ p by omega)]
  exact asks_kid hr hp (Nat.le_refl p) hk
theorem ask_param {N : List Ty} (hr : rightP N) {p : Nat} (hp : p < N.length) (h9 : N[p].kind = 9) : askAt N p = N[p].n + 1 := by
  rw [ask_one hp]
  unfold ask1 ask0
  rw [if_pos h9, ((rt_of_right hr hp).param h9).2.2]; rfl

/-! ### A type with other kids -/
def mapG (g : Int → Nat) (t : Ty) : Ty := ⟨t.kind, t.name, t.n, t.words, t.kids.map fun k => ((g k : Nat) : Int)⟩
def normT (m : Nat) (t : Ty) : Ty := if t.kind = 7 then termsT m t else t
theorem mapG_congr {g f : Int → Nat} {t : Ty} (h : ∀ k ∈ t.kids, g k = f k) : mapG g t = mapG f t := by
  unfold mapG; congr 1; exact List.map_congr_left fun k hk => by rw [h k hk]
theorem zips_mapG (g : Int → Nat) (t : Ty) : zips (mapG g t) = (zips t).map fun z => (z.1, ((g z.2 : Nat) : Int)) := by
  unfold zips mapG; simp only; rw [List.zip_map_right]; rfl
theorem declsR_map (f : Int → Int) (zs : List Tm) : declsR (zs.map fun z => (z.1, f z.2)) = (declsR zs).map fun z => (z.1, f z.2) := by
  unfold declsR; rw [List.filter_map]; rfl
/-- Which mark stands at a place: by what is there alone. -/
theorem markOf_set (zs : List Tm) (k : Int) : (markOf zs k = [126] ↔ ([126], k) ∈ zs) ∧ (markOf zs k = [61] ↔ ([126], k) ∉ zs ∧ ([61], k) ∈ zs) := by
  refine snocInd (P := fun zs => (markOf zs k = [126] ↔ ([126], k) ∈ zs) ∧ (markOf zs k = [61] ↔ ([126], k) ∉ zs ∧ ([61], k) ∈ zs)) ?_ ?_ zs
  · simp [markOf]
  · intro zs z ih
    obtain ⟨z1, z2⟩ := z
    obtain ⟨h1, h2⟩ := ih
    rw [markOf_snoc]
    simp only [List.mem_append, List.mem_singleton, Prod.mk.injEq]
    by_cases c : markP z1 ∧ z2 = k ∧ markOf zs k ≠ [126]
    · rw [if_pos c]
      obtain ⟨c1, rfl, c3⟩ := c
      have hn : ([126], z2) ∉ zs := fun h => c3 (h1.2 h)
      rcases c1 with rfl | rfl
      · simp [hn]
      · simp [hn]
    · rw [if_neg c]
      constructor
      · rw [h1]
        constructor
        · exact fun h => .inl h
        · rintro (h | ⟨rfl, rfl⟩)
          · exact h
          · refine h1.1 (Classical.byContradiction fun h => c ⟨.inr rfl, rfl, h⟩)
      · rw [h2]
        constructor
        · rintro ⟨a, b⟩
          refine ⟨fun h => h.elim a ?_, .inl b⟩
          rintro ⟨rfl, rfl⟩
          exact c ⟨.inr rfl, rfl, fun h => a (h1.1 h)⟩
        · rintro ⟨a, b⟩
          refine ⟨fun h => a (.inl h), ?_⟩
          rcases b with b | ⟨rfl, rfl⟩
          · exact b
          · exact absurd (h1.1 (Classical.byContradiction fun h => c ⟨.inl rfl, rfl, h⟩)) (fun h => a (.inl h))
theorem mark_ext {zs ws : List Tm} {k : Int} (h1 : ([126], k) ∈ zs ↔ ([126], k) ∈ ws) (h2 : ([126], k) ∉ zs → (([61], k) ∈ zs ↔ ([61], k) ∈ ws)) : markOf zs k = markOf ws k := by
  obtain ⟨a1, a2⟩ := markOf_set zs k
  obtain ⟨b1, b2⟩ := markOf_set ws k
  rcases markOf_is zs k with e | e | e
  · rcases markOf_is ws k with f | f | f
    · rw [e, f]
    · have := b2.1 f
      have hz : ([126], k) ∉ zs := fun h => this.1 (h1.1 h)
      rw [a2.2 ⟨hz, (h2 hz).2 this.2⟩, f]
    · rw [a1.2 (h1.2 (b1.1 f)), f]
  · have := a2.1 e
    rw [e, b2.2 ⟨fun h => this.1 (h1.2 h), (h2 this.1).1 this.2⟩]
  · rw [e, b1.2 (h1.1 (a1.1 e))]
theorem mark_iff (w : List UInt8) : markP w ↔ w = [61] ∨ w = [126] := Iff.rfl
theorem decl_no_mark {zs : List Tm} {z : Tm} (h : z ∈ declsR zs) : ¬ markP z.1 := by
  have := (List.mem_filter.1 h).2
  simpa using this
theorem decl_mem {zs : List Tm} {z : Tm} (h : z ∈ zs) (hm : ¬ markP z.1) : z ∈ declsR zs := List.mem_filter.2 ⟨h, by simpa using hm⟩
theorem termsR_mark {m : Nat} {zs : List Tm} {z : Tm} (h : z ∈ termsR m zs) : markP z.1 := by
  have := (termsR_mem m zs z).1 h
  exact this.1 ▸ (markOf_is zs z.2).resolve_left (by rw [← this.1]; exact this.2.1)
theorem declsR_app (a b : List Tm) : declsR (a ++ b) = declsR a ++ declsR b := by unfold declsR; exact List.filter_append ..
theorem declsR_self (zs : List Tm) : declsR (declsR zs) = declsR zs := by unfold declsR; simp
theorem declsR_marks {zs : List Tm} (h : ∀ z ∈ zs, markP z.1) : declsR zs = [] := by
  unfold declsR
  rw [List.filter_eq_nil_iff]
  intro z hz
  simp [h z hz]
theorem termsR_ext {m : Nat} {zs ws : List Tm} (h : ∀ k : Int, markOf zs k = markOf ws k) : termsR m zs = termsR m ws := by
  unfold termsR; congr 1; funext p; rw [h]
theorem zips_terms (m : Nat) (t : Ty) : zips (termsT m t) = declsR (zips t) ++ termsR m (zips t) := by
  unfold termsT
  generalize declsR (zips t) ++ termsR m (zips t) = zs
  unfold zips
  simp only
  induction zs with
  | nil => rfl
  | cons z zs ih => simp [ih]
/-- Once in order, then other kids, and in order: as other kids at once, and in order. -/
theorem terms_twice {m m2 : Nat} {t : Ty} (hk : ∀ k ∈ t.kids, 0 ≤ k ∧ k < m) (g : Int → Nat) : termsT m2 (mapG g (termsT m t)) = termsT m2 (mapG g t) := by
  have hz : zips (mapG g (termsT m t)) = (declsR (zips t) ++ termsR m (zips t)).map fun z => (z.1, ((g z.2 : Nat) : Int)) := by rw [zips_mapG, zips_terms]
  have hd : declsR (zips (mapG g (termsT m t))) = declsR (zips (mapG g t)) := by
    rw [hz, zips_mapG, declsR_map (fun k => ((g k : Nat) : Int)), declsR_map (fun k => ((g k : Nat) : Int)), declsR_app, declsR_self, declsR_marks (fun z h => termsR_mark h), List.append_nil]
  have hin := zips_in hk
  have hm : ∀ (w : List UInt8) (k : Int), markP w → ((w, k) ∈ zips (mapG g (termsT m t)) ↔ ∃ p, (w, p) ∈ termsR m (zips t) ∧ ((g p : Nat) : Int) = k) := by
    intro w k hw
    rw [hz, List.mem_map]
    constructor
    · rintro ⟨⟨w2, p⟩, hx, e⟩
      simp only [Prod.mk.injEq] at e
      obtain ⟨rfl, e⟩ := e
      rcases List.mem_append.1 hx with hx | hx
      · exact absurd hw (decl_no_mark hx)
      · exact ⟨p, hx, e⟩
    · rintro ⟨p, hx, e⟩
      exact ⟨(w, p), List.mem_append_right _ hx, by simp [e]⟩
  have hn : ∀ (w : List UInt8) (k : Int), ((w, k) ∈ zips (mapG g t) ↔ ∃ p, (w, p) ∈ zips t ∧ ((g p : Nat) : Int) = k) := by
    intro w k
    rw [zips_mapG, List.mem_map]
    constructor
    · rintro ⟨⟨w2, p⟩, hx, e⟩
      simp only [Prod.mk.injEq] at e
      obtain ⟨rfl, e⟩ := e
      exact ⟨p, hx, e⟩
    · rintro ⟨p, hx, e⟩
      exact ⟨(w, p), hx, by simp [e]⟩
  have h126 : ∀ p, ([126], p) ∈ termsR m (zips t) ↔ ([126], p) ∈ zips t := by
    intro p
    rw [termsR_mem]
    simp only
    constructor
    · rintro ⟨h1, _⟩; exact (markOf_set (zips t) p).1.1 h1.symm
    · intro h
      have := hin _ h
      exact ⟨((markOf_set (zips t) p).1.2 h).symm, by simp, this.1, this.2⟩
  have hmark : ∀ k : Int, markOf (zips (mapG g (termsT m t))) k = markOf (zips (mapG g t)) k := by
    intro k
    refine mark_ext ?_ ?_
    · rw [hm [126] k (.inr rfl), hn]
      exact ⟨fun ⟨p, h, e⟩ => ⟨p, (h126 p).1 h, e⟩, fun ⟨p, h, e⟩ => ⟨p, (h126 p).2 h, e⟩⟩
    · intro hno
      rw [hm [126] k (.inr rfl)] at hno
      rw [hm [61] k (.inl rfl), hn]
      constructor
      · rintro ⟨p, h, e⟩
        have h1 := ((termsR_mem m (zips t) ([61], p)).1 h).1
        exact ⟨p, ((markOf_set (zips t) p).2.1 h1.symm).2, e⟩
      · rintro ⟨p, h, e⟩
        have h2 : ([126], p) ∉ zips t := fun h3 => hno ⟨p, (h126 p).2 h3, e⟩
        have := hin _ h
        exact ⟨p, (termsR_mem m (zips t) ([61], p)).2 ⟨((markOf_set (zips t) p).2.2 ⟨h2, h⟩).symm, by simp, this.1, this.2⟩, e⟩
  show (⟨_, _, _, _, _⟩ : Ty) = ⟨_, _, _, _, _⟩
  rw [hd, termsR_ext hmark]
  rfl
/-- The kids of what is put in order are those that were there. -/
theorem terms_kids {m : Nat} {t : Ty} (hw : t.words.length = t.kids.length) (hk : ∀ k ∈ t.kids, 0 ≤ k ∧ k < m) : ∀ k : Int, k ∈ (termsT m t).kids ↔ k ∈ t.kids := by
  intro k
  have e : (termsT m t).kids = (declsR (zips t) ++ termsR m (zips t)).map (·.2) := rfl
  have hz : ∀ k, k ∈ t.kids ↔ ∃ w, (w, k) ∈ zips t := by
    intro k
    constructor
    · intro h
      obtain ⟨i, hi, rfl⟩ := List.getElem_of_mem h
      have hl : i < (zips t).length := by rw [zips_kids hw]; exact hi
      exact ⟨t.words[i]'(by omega), by rw [← zips_get (by omega) hi hl]; exact List.getElem_mem hl⟩
    · rintro ⟨w, h⟩; exact (List.of_mem_zip h).2
  rw [e, hz, List.mem_map]
  constructor
  · rintro ⟨⟨w, p⟩, hx, rfl⟩
    rcases List.mem_append.1 hx with hx | hx
    · exact ⟨w, (List.mem_filter.1 hx).1⟩
    · have h1 := (termsR_mem m (zips t) (w, p)).1 hx
      obtain ⟨z, hz1, _, e2⟩ := markOf_kid (zips t) p (by rw [← h1.1]; exact h1.2.1)
      obtain ⟨w2, p2⟩ := z
      simp only at e2
      exact ⟨w2, e2 ▸ hz1⟩
  · rintro ⟨w, h⟩
    by_cases hm : markP w
    · have hb := zips_in hk _ h
      have hne : markOf (zips t) k ≠ [] := by
        rcases hm with rfl | rfl
        · by_cases h2 : ([126], k) ∈ zips t
          · rw [(markOf_set (zips t) k).1.2 h2]; simp
          · rw [(markOf_set (zips t) k).2.2 ⟨h2, h⟩]; simp
        · rw [(markOf_set (zips t) k).1.2 h]; simp
      exact ⟨(markOf (zips t) k, k), List.mem_append_right _ ((termsR_mem m (zips t) _).2 ⟨rfl, hne, hb.1, hb.2⟩), rfl⟩
    · exact ⟨(w, k), List.mem_append_left _ (decl_mem h hm), rfl⟩
end Go.Sy

namespace Go.Sy
open Go Go.Proofs

theorem markOf_none {zs : List Tm} {k : Int} (h : ∀ z ∈ zs, z.2 ≠ k) : markOf zs k = [] := by
  refine Classical.byContradiction fun hn => ?_
  obtain ⟨z, hz, _, e⟩ := markOf_kid zs k hn
  exact h z hz e
theorem termsR_more {m : Nat} {zs : List Tm} (hz : ∀ z ∈ zs, 0 ≤ z.2 ∧ z.2 < m) : ∀ d, termsR (m + d) zs = termsR m zs
  | 0 => rfl
  | d + 1 => by
    have e : termsR (m + (d + 1)) zs = termsR (m + d) zs ++ (if markOf zs ((m + d : Nat) : Int) = [] then [] else [(markOf zs ((m + d : Nat) : Int), ((m + d : Nat) : Int))]) := by
      unfold termsR
      rw [show m + (d + 1) = m + d + 1 by omega, List.range_succ, List.filterMap_append]
      generalize m + d = x
      congr 1
      by_cases h : markOf zs (x : Int) = []
      · simp [h]
      · simp [h]
    rw [e, if_pos (markOf_none fun z hx e2 => by have := hz z hx; omega), List.append_nil, termsR_more hz d]
theorem norm_more {m m2 : Nat} {t : Ty} (hk : ∀ k ∈ t.kids, 0 ≤ k ∧ k < m) (h : m ≤ m2) : normT m2 t = normT m t := by
  unfold normT
  split
  · unfold termsT
    obtain ⟨d, rfl⟩ : ∃ d, m2 = m + d := ⟨m2 - m, by omega⟩
    rw [termsR_more (zips_in hk)]
  · rfl
theorem norm_kind (m : Nat) (t : Ty) : (normT m t).kind = t.kind := by unfold normT; split <;> rfl
theorem norm_kids {m : Nat} {t : Ty} (hw : t.kind = 7 → t.words.length = t.kids.length) (hk : ∀ k ∈ t.kids, 0 ≤ k ∧ k < m) (k : Int) : k ∈ (normT m t).kids ↔ k ∈ t.kids := by
  unfold normT
  split
  · exact terms_kids (hw ‹_›) hk k
  · exact Iff.rfl
theorem mapG_kids {g : Int → Nat} {m : Nat} {t : Ty} (h : ∀ k ∈ t.kids, g k < m) : ∀ k ∈ (mapG g t).kids, 0 ≤ k ∧ k < m := by
  intro k hk
  obtain ⟨x, hx, rfl⟩ := List.mem_map.1 hk
  have := h x hx
  omega
theorem mapG_in {g : Int → Nat} {t : Ty} {k : Int} (h : k ∈ t.kids) : ((g k : Nat) : Int) ∈ (mapG g t).kids := List.mem_map.2 ⟨k, h, rfl⟩
theorem odd_pre {N M : List Ty} (h : N <+: M) {t : Ty} (hk : ∀ k ∈ t.kids, 0 ≤ k ∧ k < N.length) : oddP M t ↔ oddP N t := by
  have e : ∀ k : Int, 0 ≤ k → k < N.length → kindAt M k = kindAt N k := by
    obtain ⟨r, rfl⟩ := h
    intro k h0 h1
    unfold kindAt
    rw [List.getElem?_append_left (by omega)]
  unfold oddP
  constructor
  · rintro ⟨z, hz, hm, ho⟩
    have := zips_in hk z hz
    exact ⟨z, hz, hm, by rw [← e _ this.1 this.2]; exact ho⟩
  · rintro ⟨z, hz, hm, ho⟩
    have := zips_in hk z hz
    exact ⟨z, hz, hm, by rw [e _ this.1 this.2]; exact ho⟩
theorem get_pre {N M : List Ty} (h : N <+: M) {p : Nat} (hp : p < N.length) : M[p]'(Nat.lt_of_lt_of_le hp h.length_le) = N[p] := by
  obtain ⟨r, rfl⟩ := h
  exact List.getElem_append_left hp

/-- What stands for the type of a place, in an arena that holds it. -/
inductive SubS (N : List Ty) (args : List Int) : Nat → Nat → Prop where
  | stay {p : Nat} (hp : p < N.length) (h : askAt N p = 0) : SubS N args p p
  | param {p q : Nat} (hp : p < N.length) (h9 : N[p].kind = 9) (hq : args[N[p].n.toNat]? = some (q : Int)) : SubS N args p q
  | made {p q : Nat} (g : Int → Nat) (hp : p < N.length) (h9 : N[p].kind ≠ 9) (ha : askAt N p ≠ 0) (hg : ∀ k ∈ N[p].kids, SubS N args k.toNat (g k)) (ho : N[p].kind = 7 → ¬ oddP N (mapG g N[p])) (hq : q < N.length) (hN : N[q] = normT N.length (mapG g N[p])) : SubS N args p q
section
variable {N : List Ty} {args : List Int}
theorem SubS.lt (hgood : ∀ a ∈ args, 0 ≤ a ∧ a < N.length) {p q : Nat} (h : SubS N args p q) : q < N.length := by
  cases h with
  | stay hp _ => exact hp
  | param hp h9 hq =>
    have := hgood _ (List.mem_of_getElem? hq)
    omega
  | made g hp h9 ha hg ho hq hN => exact hq
theorem ask_pos {p : Nat} (hr : rightP N) (hp : p < N.length) (h9 : N[p].kind = 9) : askAt N p ≠ 0 := by
  have h1 := ask_param hr hp h9
  have h2 := ((rt_of_right hr hp).param h9).1
  omega
theorem SubS.inj (hr : rightP N) : ∀ p q q2, SubS N args p q → SubS N args p q2 → q = q2 := by
  intro p
  induction p using Nat.strongRecOn with
  | ind p ih =>
    intro q q2 h1 h2
    cases h1 with
    | stay hp h =>
      cases h2 with
      | stay _ _ => rfl
      | param _ h9 _ => exact absurd h (ask_pos hr hp h9)
      | made g _ h9 ha _ _ _ _ => exact absurd h ha
    | param hp h9 hq =>
      cases h2 with
      | stay _ h => exact absurd h (ask_pos hr hp h9)
      | param _ _ hq2 => rw [hq] at hq2; injection hq2 with e; omega
      | made g _ h92 _ _ _ _ _ => exact absurd h9 h92
    | made g hp h9 ha hg ho hq hN =>
      cases h2 with
      | stay _ h => exact absurd h ha
      | param _ h92 _ => exact absurd h92 h9
      | made f _ _ _ hf _ hq2 hN2 =>
        have e : mapG g N[p] = mapG f N[p] := mapG_congr fun k hk => by
          have hb := (rt_of_right hr hp).kids k hk
          exact ih k.toNat (by omega) _ _ (hg k hk) (hf k hk)
        exact right_inj hr hq hq2 (by rw [hN, hN2, e])
theorem SubS.mono {M : List Ty} (h : N <+: M) (hgood : ∀ a ∈ args, 0 ≤ a ∧ a < N.length) {p q : Nat} (hs : SubS N args p q) : SubS M args p q := by
  have hl := h.length_le
  induction hs with
  | stay hp h0 => exact .stay (by omega) (by rw [ask_pre h hp]; exact h0)
  | param hp h9 hq => exact .param (by omega) (by rw [get_pre h hp]; exact h9) (by rw [get_pre h hp]; exact hq)
  | @made p q g hp h9 ha hg ho hq hN ih =>
    have hk := mapG_kids (g := g) fun k hk => (hg k hk).lt hgood
    refine .made g (by omega) (by rw [get_pre h hp]; exact h9) (by rw [ask_pre h hp]; exact ha) (fun k hk => ?_) ?_ (by omega) ?_
    · rw [get_pre h hp] at hk; exact ih k hk
    · rw [get_pre h hp]
      intro h7
      rw [odd_pre h hk]
      exact ho h7
    · rw [get_pre h hq, get_pre h hp, hN, norm_more hk hl]
/-- Each part of a type that something stands for has something that stands for it. -/
theorem SubS.parts (hr : rightP N) {i : Nat} (hi : i < N.length) (h0 : ∃ q, SubS N args i q) : ∀ j, j ≤ i + 1 → ∀ p, (partsN N i j).getD p false = true → ∃ q, SubS N args p q
  | 0, _, p, h => by
    rw [partsN, set_getD] at h
    split at h
    · rename_i c; rw [← c.1]; exact h0
    · rw [List.getD_eq_getElem?_getD, List.getElem?_replicate] at h
      split at h <;> simp at h
  | j + 1, hj, p, h => by
    rw [mkpart_get hr hi j (by omega)] at h
    rcases h with h | ⟨h1, k, hk, e⟩
    · exact SubS.parts hr hi h0 j (by omega) p h
    · obtain ⟨q, hq⟩ := SubS.parts hr hi h0 j (by omega) _ h1
      have hb := kid_low hr hi (Nat.sub_le i j) hk
      rw [row_kid hi (Nat.sub_le i j)] at hk
      rw [← e]
      cases hq with
      | stay hp h =>
        have h3 := ask_kid hr hp hk
        have h4 := ask_nonneg hr (show k.toNat < N.length by omega)
        exact ⟨_, .stay (by omega) (by omega)⟩
      | param hp h9 _ => rw [((rt_of_right hr hp).param h9).2.2] at hk; simp at hk
      | made g hp _ _ hg _ _ _ => exact ⟨_, hg k hk⟩
end
/-! ### The program's steps -/
theorem mapK_G {ins : List Int} {t : Ty} (h : ∀ k ∈ t.kids, 0 ≤ ins.getD k.toNat 0) : mapK ins t = mapG (fun k => (ins.getD k.toNat 0).toNat) t := by
  unfold mapK mapG
  congr 1
  exact List.map_congr_left fun k hk => by have := h k hk; simp only; omega
theorem add_at {l : List Ty} {t : Ty} {m : List Ty} {i e : Int} (h : AddP l t m i e) (he : e = 0) : ∃ q : Nat, ∃ hq : q < m.length, i = (q : Int) ∧ m[q] = t := by
  rcases h with ⟨q, hq, h1, h2, h3, h4⟩ | ⟨n, ⟨_, h2, _, h4⟩ | ⟨_, _, h2, _, h4⟩ | ⟨hm, hl, h2, h3, h4⟩⟩
  · subst h2; exact ⟨q, hq, h3, h1⟩
  · omega
  · omega
  · subst h2; exact ⟨l.length, by simp, h3, by simp⟩
theorem add_has (l : List Ty) (t : Ty) : ∃ m i e, AddP l t m i e := by
  by_cases h : t ∈ l
  · obtain ⟨q, hq, e⟩ := List.getElem_of_mem h
    exact ⟨l, q, 0, .inl ⟨q, hq, e, rfl, rfl, rfl⟩⟩
  · by_cases h2 : madeP l t
    · by_cases h3 : l.length = 400
      · exact ⟨[], 0, 7, .inr ⟨h, .inr (.inl ⟨h2, h3, rfl, rfl, rfl⟩)⟩⟩
      · exact ⟨l ++ [t], l.length, 0, .inr ⟨h, .inr (.inr ⟨h2, h3, rfl, rfl, rfl⟩)⟩⟩
    · exact ⟨[], 0, 1, .inr ⟨h, .inl ⟨h2, rfl, rfl, rfl⟩⟩⟩
/-- What a step that puts a type comes to. -/
theorem put_ok {out : List Ty} {ins : List Int} {t : Ty} (hr : rightP out) {o : List Ty} {ins2 : List Int} (h : putS out ins t = .ok (o, ins2)) : (t.kind = 7 → ¬ oddP out t) ∧ ∃ q : Nat, ∃ hq : q < o.length, rightP o ∧ out <+: o ∧ ins2 = ins ++ [(q : Int)] ∧ o[q] = normT out.length t := by
  by_cases h7 : t.kind = 7
  · by_cases ho : oddP out t
    · rw [put_odd h7 ho] at h; cases h
    · obtain ⟨m, i, e, hP⟩ := add_has out (termsT out.length t)
      rw [put_iface hr h7 ho hP] at h
      split at h
      · rename_i he
        obtain ⟨h1, h2, _, _⟩ := add_pre hr hP he
        obtain ⟨q, hq, rfl, e2⟩ := add_at hP he
        injection h with h; injection h with h h'
        subst h h'
        exact ⟨fun _ => ho, q, hq, h1, h2, rfl, by unfold normT; rw [if_pos h7]; exact e2⟩
      · cases h
  · obtain ⟨m, i, e, hP⟩ := add_has out t
    rw [put_plain hr h7 hP] at h
    split at h
    · rename_i he
      obtain ⟨h1, h2, _, _⟩ := add_pre hr hP he
      obtain ⟨q, hq, rfl, e2⟩ := add_at hP he
      injection h with h; injection h with h h'
      subst h h'
      exact ⟨fun h => absurd h h7, q, hq, h1, h2, rfl, by unfold normT; rw [if_neg h7]; exact e2⟩
    · cases h
theorem put_found {out : List Ty} {ins : List Int} {t : Ty} (hr : rightP out) (ho : t.kind = 7 → ¬ oddP out t) {q : Nat} (hq : q < out.length) (h : out[q] = normT out.length t) : putS out ins t = .ok (out, ins ++ [(q : Int)]) := by
  by_cases h7 : t.kind = 7
  · have hP : AddP out (termsT out.length t) out (q : Int) 0 := .inl ⟨q, hq, by rw [h]; unfold normT; rw [if_pos h7], rfl, rfl, rfl⟩
    rw [put_iface hr h7 (ho h7) hP, if_pos rfl]
  · have hP : AddP out t out (q : Int) 0 := .inl ⟨q, hq, by rw [h]; unfold normT; rw [if_neg h7], rfl, rfl, rfl⟩
    rw [put_plain hr h7 hP, if_pos rfl]
section
variable {l : List Ty} {args : List Int} {i : Nat}
theorem sub_sound (hr : rightP l) (hi : i < l.length) (hgood : ∀ a ∈ args, 0 ≤ a ∧ a < l.length) (hlen : (asksL (l.take (i + 1))).getD i 0 ≤ args.length) : ∀ q, q ≤ i + 1 → ∀ out ins, subN l args (asksL (l.take (i + 1))) (partsL l i) q = .ok (out, ins) →
    SubOk l q out ins ∧ ∀ p, p < q → (partsL l i).getD p false = true → SubS out args p (ins.getD p 0).toNat
  | 0, _, out, ins, h => by
    injection h with h; injection h with h h'
    subst h h'
    exact ⟨⟨hr, List.prefix_rfl, rfl, fun p hp => absurd hp (by omega)⟩, fun p hp => absurd hp (by omega)⟩
  | q + 1, hq, out2, ins2, h => by
    rw [subN] at h
    cases hs : subN l args (asksL (l.take (i + 1))) (partsL l i) q with
    | error e => rw [hs] at h; cases h
    | ok x =>
      obtain ⟨out, ins⟩ := x
      rw [hs] at h
      simp only at h
      obtain ⟨hso, hS⟩ := sub_sound hr hi hgood hlen q (by omega) out ins hs
      have hql : q < l.length := by omega
      have hol := hso.pre.length_le
      have hil := hso.len
      have hrt := rt_of_right hr hql
      have hgo : ∀ a ∈ args, 0 ≤ a ∧ a < out.length := fun a ha => by have := hgood a ha; omega
      have hlast : ∀ x : Int, (ins ++ [x]).getD q 0 = x := fun x => by rw [← hil]; simp [List.getD_eq_getElem?_getD]
      have hold : ∀ (x : Int) p, p < q → (ins ++ [x]).getD p 0 = ins.getD p 0 := fun x p hp => getD_app _ _ _ (by omega)
      have hq2 : q < out.length := by omega
      have hoq : out[q] = l[q] := get_pre hso.pre hql
      unfold stepS at h
      by_cases c : (partsL l i).getD q false = false ∨ (asksL (l.take (i + 1))).getD q 0 = 0
      · rw [if_pos c] at h
        injection h with h; injection h with h h'
        subst h h'
        refine ⟨hso.step hso.right List.prefix_rfl (by omega), fun p hp hM => ?_⟩
        by_cases e : p = q
        · subst e
          rw [hlast]
          have h0 : askAt out p = 0 := by rw [ask_pre hso.pre hql, ← ask_in hi (by omega)]; exact c.resolve_left (by rw [hM]; simp)
          exact .stay hq2 h0
        · rw [hold _ _ (by omega)]; exact hS p (by omega) hM
      · rw [if_neg c] at h
        have hM1 : (partsL l i).getD q false = true := by
          cases hx : (partsL l i).getD q false
          · exact absurd (.inl hx) c
          · rfl
        rw [getD_eq _ hql] at h
        by_cases h9 : l[q].kind = 9
        · rw [if_pos h9] at h
          injection h with h; injection h with h h'
          subst h h'
          have hp9 := hrt.param h9
          have hask := (parts_ask hr hi (i + 1) (Nat.le_refl _) hM1).2
          have hA9 : (asksL (l.take (i + 1))).getD q 0 = l[q].n + 1 := by rw [ask_in hi (by omega)]; exact ask_param hr hql h9
          have hna : l[q].n.toNat < args.length := by omega
          have hga := getD_eq (0 : Int) hna
          have hgr := hgood _ (List.getElem_mem hna)
          refine ⟨hso.step hso.right List.prefix_rfl (by rw [hga]; omega), fun p hp hM => ?_⟩
          by_cases e : p = q
          · subst e
            rw [hlast, hga]
            refine .param hq2 (by rw [hoq]; exact h9) ?_
            rw [hoq, List.getElem?_eq_getElem hna]
            congr 1; omega
          · rw [hold _ _ (by omega)]; exact hS p (by omega) hM
        · rw [if_neg h9] at h
          obtain ⟨ho, q2, hq2l, hr2, hp2, rfl, hN⟩ := put_ok hso.right h
          have hkids : ∀ k ∈ l[q].kids, 0 ≤ ins.getD k.toNat 0 ∧ ins.getD k.toNat 0 < out.length := fun k hk => by
            have := hrt.kids k hk
            exact hso.ins k.toNat (by omega)
          refine ⟨hso.step hr2 hp2 (by omega), fun p hp hM => ?_⟩
          by_cases e : p = q
          · subst e
            rw [hlast]
            have hol2 := hp2.length_le
            have hpre := hso.pre.trans hp2
            have ho2 : out2[p]'(by omega) = l[p] := get_pre hpre hql
            have hm := mapK_G fun k hk => (hkids k hk).1
            have hmk : ∀ k ∈ (mapK ins l[p]).kids, 0 ≤ k ∧ k < out.length := mapK_kids hso.ins hrt.kids
            refine .made (fun k => (ins.getD k.toNat 0).toNat) (by omega) (by rw [ho2]; exact h9) ?_ (fun k hk => ?_) ?_ (by omega) ?_
            · rw [ask_pre hpre hql, ← ask_in hi (by omega)]; exact fun h0 => c (.inr h0)
            · rw [ho2] at hk
              have := hrt.kids k hk
              exact (hS k.toNat (by omega) (parts_kid hr hi (by omega) hM1 hk)).mono hp2 hgo
            · rw [ho2, ← hm]
              intro h7
              rw [odd_pre hp2 hmk]
              exact ho h7
            · have e3 : (((q2 : Nat) : Int)).toNat = q2 := by omega
              simp only [e3]
              rw [ho2, ← hm, hN, norm_more hmk hol2]
          · rw [hold _ _ (by omega)]
            exact (hS p (by omega) hM).mono hp2 hgo
theorem sub_complete (hr : rightP l) (hi : i < l.length) (hall : ∀ p, (partsL l i).getD p false = true → ∃ q, SubS l args p q) (hgood : ∀ a ∈ args, 0 ≤ a ∧ a < l.length) : ∀ q, q ≤ i + 1 → ∃ ins, subN l args (asksL (l.take (i + 1))) (partsL l i) q = .ok (l, ins) ∧ ins.length = q ∧ ∀ p, p < q → (partsL l i).getD p false = true → ∃ x : Nat, ins.getD p 0 = (x : Int) ∧ SubS l args p x
  | 0, _ => ⟨[], rfl, rfl, fun p hp => absurd hp (by omega)⟩
  | q + 1, hq => by
    obtain ⟨ins, hs, hil, hS⟩ := sub_complete hr hi hall hgood q (by omega)
    have hql : q < l.length := by omega
    have hrt := rt_of_right hr hql
    have hlast : ∀ x : Int, (ins ++ [x]).getD q 0 = x := fun x => by rw [← hil]; simp [List.getD_eq_getElem?_getD]
    have hold : ∀ (x : Int) p, p < q → (ins ++ [x]).getD p 0 = ins.getD p 0 := fun x p hp => getD_app _ _ _ (by omega)
    have fin : ∀ x : Nat, subN l args (asksL (l.take (i + 1))) (partsL l i) (q + 1) = .ok (l, ins ++ [(x : Int)]) → ((partsL l i).getD q false = true → SubS l args q x) → ∃ ins, subN l args (asksL (l.take (i + 1))) (partsL l i) (q + 1) = .ok (l, ins) ∧ ins.length = q + 1 ∧ ∀ p, p < q + 1 → (partsL l i).getD p false = true → ∃ x : Nat, ins.getD p 0 = (x : Int) ∧ SubS l args p x := by
      intro x h1 h2
      refine ⟨_, h1, by rw [List.length_append, hil]; rfl, fun p hp hM => ?_⟩
      by_cases e : p = q
      · subst e; exact ⟨x, hlast _, h2 hM⟩
      · rw [hold _ _ (by omega)]; exact hS p (by omega) hM
    by_cases c : (partsL l i).getD q false = false ∨ (asksL (l.take (i + 1))).getD q 0 = 0
    · refine fin q (sub_out hs c) fun hM => .stay hql ?_
      rw [← ask_in hi (by omega)]; exact c.resolve_left (by rw [hM]; simp)
    · have hM1 : (partsL l i).getD q false = true := by
        cases hx : (partsL l i).getD q false
        · exact absurd (.inl hx) c
        · rfl
      have hA : (asksL (l.take (i + 1))).getD q 0 ≠ 0 := fun h => c (.inr h)
      obtain ⟨x, hx⟩ := hall q hM1
      cases hx with
      | stay _ h => rw [← ask_in hi (by omega)] at h; exact absurd h hA
      | param _ h9 hq2 =>
        have e : args.getD l[q].n.toNat 0 = (x : Int) := by rw [List.getD_eq_getElem?_getD, hq2]; rfl
        have h1 := sub_param hs hM1 hA hql h9
        rw [e] at h1
        exact fin x h1 fun _ => .param hql h9 hq2
      | made g _ h9 ha hg ho hx2 hN =>
        have hk : ∀ k ∈ l[q].kids, ins.getD k.toNat 0 = ((g k : Nat) : Int) := fun k hk => by
          have hb := hrt.kids k hk
          obtain ⟨y, hy, hyS⟩ := hS k.toNat (by omega) (parts_kid hr hi (by omega) hM1 hk)
          rw [hy, SubS.inj hr _ _ _ hyS (hg k hk)]
        have hm : mapK ins l[q] = mapG g l[q] := by
          unfold mapK mapG; congr 1; exact List.map_congr_left hk
        have h1 := sub_put hs hM1 hA hql h9
        rw [hm, put_found hr (by exact ho) hx2 hN] at h1
        exact fin x h1 fun _ => .made g hql h9 ha hg ho hx2 hN
end
end Go.Sy

namespace Go.Sy
open Go Go.Proofs

section
variable {N : List Ty} {args others both : List Int}
theorem SubS.comp (hr : rightP N) (hgood : ∀ a ∈ args, 0 ≤ a ∧ a < N.length) (hb : ∀ (j : Nat) (a : Int), args[j]? = some a → ∃ b : Nat, both[j]? = some (b : Int) ∧ SubS N others a.toNat b) : ∀ p p1 p2, SubS N args p p1 → SubS N others p1 p2 → SubS N both p p2 := by
  intro p
  induction p using Nat.strongRecOn with
  | ind p ih =>
    intro p1 p2 h1 h2
    cases h1 with
    | stay hp h =>
      cases h2 with
      | stay _ _ => exact .stay hp h
      | param _ h9 _ => exact absurd h (ask_pos hr hp h9)
      | made g _ h9 ha _ _ _ _ => exact absurd h ha
    | param hp h9 hq =>
      obtain ⟨b, hbj, hbS⟩ := hb _ _ hq
      have e : b = p2 := SubS.inj hr _ _ _ hbS (by rw [Int.toNat_natCast]; exact h2)
      subst e
      exact .param hp h9 hbj
    | made g hp h9 ha hg ho hq hN =>
      have hrt := rt_of_right hr hp
      have hgl : ∀ k ∈ N[p].kids, g k < N.length := fun k hk => (hg k hk).lt hgood
      have hmk := mapG_kids hgl
      have hwk : (mapG g N[p]).kind = 7 → (mapG g N[p]).words.length = (mapG g N[p]).kids.length := fun h7 => by
        unfold mapG; simp only [List.length_map]; exact hrt.iface h7
      have hkids : ∀ k : Int, k ∈ N[p1].kids ↔ k ∈ (mapG g N[p]).kids := fun k => by rw [hN]; exact norm_kids hwk hmk k
      have hkind : N[p1].kind = N[p].kind := by rw [hN, norm_kind]; rfl
      have hin : ∀ k ∈ N[p].kids, ((g k : Nat) : Int) ∈ N[p1].kids := fun k hk => (hkids _).2 (mapG_in hk)
      cases h2 with
      | stay _ h =>
        refine .made g hp h9 ha (fun k hk => ?_) ho hq hN
        have hb2 := hrt.kids k hk
        have h3 := ask_kid hr hq (hin k hk)
        rw [Int.toNat_natCast] at h3
        have h4 := ask_nonneg hr (hgl k hk)
        exact ih k.toNat (by omega) _ _ (hg k hk) (.stay (hgl k hk) (by omega))
      | param _ h92 _ => rw [hkind] at h92; exact absurd h92 h9
      | made f _ h92 ha2 hf ho2 hq2 hN2 =>
        have hS : ∀ k ∈ N[p].kids, SubS N both k.toNat (f ((g k : Nat) : Int)) := fun k hk => by
          have hb2 := hrt.kids k hk
          have h3 := hf _ (hin k hk)
          rw [Int.toNat_natCast] at h3
          exact ih k.toNat (by omega) _ _ (hg k hk) h3
        have hmm : mapG f (mapG g N[p]) = mapG (fun k => f ((g k : Nat) : Int)) N[p] := by
          unfold mapG; simp only [List.map_map]; rfl
        by_cases h7 : N[p].kind = 7
        · have hn : normT N.length (mapG g N[p]) = termsT N.length (mapG g N[p]) := by unfold normT; rw [if_pos (show (mapG g N[p]).kind = 7 from h7)]
          rw [hn] at hN
          refine .made (fun k => f ((g k : Nat) : Int)) hp h9 ha hS (fun _ => ?_) hq2 ?_
          · intro hodd
            refine ho2 (hkind.trans h7) ?_
            rw [hN]
            obtain ⟨z, hz, hm, hk⟩ := hodd
            rw [← hmm, zips_mapG] at hz
            obtain ⟨⟨w, x⟩, hx, rfl⟩ := List.mem_map.1 hz
            have hb2 := zips_in hmk _ hx
            have hne : markOf (zips (mapG g N[p])) x ≠ [] := by
              rcases hm with e | e
              · simp only at e; subst e
                by_cases h2 : ([126], x) ∈ zips (mapG g N[p])
                · rw [(markOf_set _ x).1.2 h2]; simp
                · rw [(markOf_set _ x).2.2 ⟨h2, hx⟩]; simp
              · simp only at e; subst e
                rw [(markOf_set _ x).1.2 hx]; simp
            refine ⟨(markOf (zips (mapG g N[p])) x, ((f x : Nat) : Int)), ?_, (markOf_is _ x).resolve_left hne, hk⟩
            rw [zips_mapG, zips_terms]
            exact List.mem_map.2 ⟨(markOf (zips (mapG g N[p])) x, x), List.mem_append_right _ ((termsR_mem _ _ _).2 ⟨rfl, hne, hb2.1, hb2.2⟩), rfl⟩
          · rw [hN2, hN]
            unfold normT
            rw [if_pos (show (mapG f (termsT N.length (mapG g N[p]))).kind = 7 from h7), if_pos (show (mapG (fun k => f ((g k : Nat) : Int)) N[p]).kind = 7 from h7), terms_twice hmk, hmm]
        · have hn : normT N.length (mapG g N[p]) = mapG g N[p] := by unfold normT; rw [if_neg (show ¬ (mapG g N[p]).kind = 7 from h7)]
          rw [hn] at hN
          refine .made (fun k => f ((g k : Nat) : Int)) hp h9 ha hS (fun h => absurd h h7) hq2 ?_
          rw [hN2, hN]
          unfold normT
          rw [if_neg (show ¬ (mapG f (mapG g N[p])).kind = 7 from h7), if_neg (show ¬ (mapG (fun k => f ((g k : Nat) : Int)) N[p]).kind = 7 from h7), hmm]
end
theorem good_args {l : List Ty} {i : Nat} {args : List Int} (h : ¬ badArgs l i args) : (∀ a ∈ args, 0 ≤ a ∧ a < l.length) ∧ (asksL (l.take (i + 1))).getD i 0 ≤ args.length := by
  refine ⟨fun a ha => Classical.byContradiction fun hn => h (.inr ⟨a, ha, hn⟩), ?_⟩
  have : ¬ ((args.length : Int) < (asksL (l.take (i + 1))).getD i 0) := fun hn => h (.inl hn)
  omega
theorem subR_sound {l : List Ty} {i : Nat} {args : List Int} (hr : rightP l) (hi : i < l.length) {o : List Ty} {q : Int} (h : subR l i args = .ok (o, q)) : ¬ badArgs l i args ∧ rightP o ∧ l <+: o ∧ 0 ≤ q ∧ q < o.length ∧ SubS o args i q.toNat := by
  by_cases hb : badArgs l i args
  · rw [subR_bad hb] at h; cases h
  · obtain ⟨hgood, hlen⟩ := good_args hb
    cases hs : subN l args (asksL (l.take (i + 1))) (partsL l i) (i + 1) with
    | error e => rw [subR_error hb (Nat.le_refl _) hs] at h; cases h
    | ok x =>
      obtain ⟨out, ins⟩ := x
      rw [subR_ok hb hs] at h
      injection h with h; injection h with h h'
      subst h h'
      obtain ⟨hso, hS⟩ := sub_sound hr hi hgood hlen (i + 1) (Nat.le_refl _) out ins hs
      have := hso.ins i (by omega)
      exact ⟨hb, hso.right, hso.pre, this.1, this.2, hS i (by omega) (parts_self hr hi)⟩
theorem subR_found {N : List Ty} {i q : Nat} {args : List Int} (hr : rightP N) (hi : i < N.length) (hb : ¬ badArgs N i args) (hS : SubS N args i q) : subR N i args = .ok (N, (q : Int)) := by
  obtain ⟨hgood, hlen⟩ := good_args hb
  obtain ⟨ins, hs, _, hall⟩ := sub_complete hr hi (fun p hM => SubS.parts hr hi ⟨q, hS⟩ (i + 1) (Nat.le_refl _) p hM) hgood (i + 1) (Nat.le_refl _)
  obtain ⟨x, hx, hxS⟩ := hall i (by omega) (parts_self hr hi)
  rw [subR_ok hb hs, hx, SubS.inj hr _ _ _ hxS hS]
/-- A type that asks for no params stays. -/
theorem subR_zero {l : List Ty} {i : Nat} (hr : rightP l) (hi : i < l.length) (h : (asksL (l.take (i + 1))).getD i 0 = 0) : subR l i [] = .ok (l, (i : Int)) := by
  refine subR_found hr hi (not_bad (by simp) (by rw [h]; simp)) (.stay hi ?_)
  rw [← ask_in hi (Nat.le_refl i)]; exact h
/-- In two steps as in one. -/
theorem subR_steps {l y z now : List Ty} {i : Nat} {args others both : List Int} {first second : Int} (hr : rightP l) (hi : i < l.length) (h1 : subR l i args = .ok (y, first)) (h2 : subR y first.toNat others = .ok (z, second)) (hrn : rightP now) (hzn : z <+: now)
    (hlen : both.length = args.length) (hb : ∀ (j : Nat) (a : Int), args[j]? = some a → ∃ b : Nat, both[j]? = some (b : Int) ∧ SubS now others a.toNat b) : subR now i both = .ok (now, second) := by
  obtain ⟨b1, hry, hly, hf0, hf1, hS1⟩ := subR_sound hr hi h1
  obtain ⟨b2, hrz, hyz, hs0, hs1, hS2⟩ := subR_sound hry (by omega) h2
  obtain ⟨g1, l1⟩ := good_args b1
  obtain ⟨g2, l2⟩ := good_args b2
  have hyn := hyz.trans hzn
  have hln := hly.trans hyn
  have hyl := hly.length_le
  have hynl := hyn.length_le
  have hznl := hzn.length_le
  have hyzl := hyz.length_le
  have hin : i < now.length := by omega
  have e1 : SubS now args i first.toNat := hS1.mono hyn (fun a ha => by have := g1 a ha; omega)
  have e2 : SubS now others first.toNat second.toNat := hS2.mono hzn (fun a ha => by have := g2 a ha; omega)
  have e3 := SubS.comp hrn (fun a ha => by have := g1 a ha; omega) hb i _ _ e1 e2
  have hbad : ¬ badArgs now i both := by
    refine not_bad (fun x hx => ?_) ?_
    · obtain ⟨j, hj, rfl⟩ := List.getElem_of_mem hx
      obtain ⟨b, hbj, hbS⟩ := hb j (args[j]'(by omega)) (List.getElem?_eq_getElem (by omega))
      rw [List.getElem?_eq_getElem hj] at hbj
      injection hbj with e
      rw [e]
      have := hbS.lt (fun a ha => by have := g2 a ha; omega)
      omega
    · rw [hlen, ask_in hin (Nat.le_refl i), ask_pre hln hi, ← ask_in hi (Nat.le_refl i)]; exact l1
  have := subR_found hrn hin hbad e3
  rw [this]
  congr 2; omega

/-! ### Each param instead of itself -/
def paramN (k : Int) : Ty := ⟨9, [], k, [], []⟩
theorem right_param {N : List Ty} (hr : rightP N) {p : Nat} (hp : p < N.length) (h9 : N[p].kind = 9) : N[p] = paramN N[p].n := by
  have h := hr.2.2 p hp
  unfold rowAt at h
  by_cases c : p < 22
  · rw [if_pos c] at h
    have hql : p < startL.length := by rw [start_len]; exact c
    rw [start_get hql] at h
    exact absurd h9 (by rw [h]; exact (start_plain _ (List.getElem_mem hql)).2.2.1)
  · rw [if_neg c] at h
    obtain ⟨⟨_, _, hn, hw, _⟩, _⟩ := h
    have hk := ((rt_of_right hr hp).param h9).2.2
    generalize N[p] = t at *
    exact ty_ext h9 (hn (by omega)) rfl (hw (by omega) (by omega)) hk
theorem param_made (l : List Ty) {k : Int} (h0 : 0 ≤ k) (h1 : k < 16) : madeP l (paramN k) :=
  ⟨fun x hx => by simp [paramN] at hx, by simp [paramN], fun _ => rfl, fun _ _ => rfl, (madeK_9 rfl).2 ⟨h0, h1, rfl⟩⟩
theorem last_app {α : Type} (ds ms : List α) (h : ms ≠ []) : (ds ++ ms).getLast? = ms.getLast? := by
  rw [List.getLast?_append, List.getLast?_eq_some_getLast h]; rfl
/-- An interface that may be stands in order. -/
theorem elems_parts {l : List Ty} {t : Ty} (h : elemsP l t) : ∃ ds ms : List Tm, zips t = ds ++ ms ∧ (∀ z ∈ ds, ¬ markP z.1) ∧ (∀ z ∈ ms, markP z.1) ∧ ms.Pairwise fun x y => x.2 < y.2 := by
  obtain ⟨hl, _, _, hall⟩ := h
  have hzl := zips_kids hl
  have key : ∀ q, q ≤ (zips t).length → ∃ ds ms : List Tm, (zips t).take q = ds ++ ms ∧ (∀ z ∈ ds, ¬ markP z.1) ∧ (∀ z ∈ ms, markP z.1) ∧ ms.Pairwise fun x y => x.2 < y.2 := by
    intro q
    induction q with
    | zero => intro _; exact ⟨[], [], by simp, by simp, by simp, .nil⟩
    | succ q ih =>
      intro hq
      obtain ⟨ds, ms, e, h1, h2, h3⟩ := ih (by omega)
      have hqw : q < t.words.length := by omega
      have hqk : q < t.kids.length := by omega
      have hqz : q < (zips t).length := by omega
      have hz := zips_get hqw hqk hqz
      have hlast : 0 < q → ∃ hq1 : q - 1 < (zips t).length, (ds ++ ms).getLast? = some (zips t)[q - 1] := by
        intro h0
        refine ⟨by omega, ?_⟩
        rw [← e, List.getLast?_take]
        rw [if_neg (by omega), List.getElem?_eq_getElem (by omega)]; rfl
      rw [List.take_succ_eq_append_getElem hqz, e]
      have hprev : ∀ hq1 : q - 1 < (zips t).length, 0 < q → (zips t)[q - 1] = (t.words.getD (q - 1) [], kidAt t (q - 1)) := by
        intro hq1 h0
        rw [zips_get (show q - 1 < t.words.length by omega) (show q - 1 < t.kids.length by omega) hq1, getD_eq _ (show q - 1 < t.words.length by omega), kid_get (show q - 1 < t.kids.length by omega)]
      rcases hall q hqw with ⟨hm, _, _, _, _, hp⟩ | ⟨hm, _, _, hp⟩
      · refine ⟨ds, ms ++ [(zips t)[q]], by rw [List.append_assoc], h1, fun z hx => ?_, ?_⟩
        · rcases List.mem_append.1 hx with hx | hx
          · exact h2 z hx
          · have : z = (zips t)[q] := by simpa using hx
            rw [this, hz]; exact hm
        · refine List.pairwise_append.2 ⟨h3, by simp, fun x hx y hy => ?_⟩
          have : y = (zips t)[q] := by simpa using hy
          subst this
          have h0 : 0 < q := by
            rcases Nat.eq_zero_or_pos q with c | c
            · subst c
              have hen : ds ++ ms = [] := by rw [← e]; simp
              rw [(List.append_eq_nil_iff.1 hen).2] at hx; cases hx
            · exact c
          obtain ⟨hq1, hg⟩ := hlast h0
          have hne : ms ≠ [] := fun c => by rw [c] at hx; cases hx
          rw [last_app _ _ hne] at hg
          have hgl : ms.getLast? = some (ms.getLast hne) := List.getLast?_eq_some_getLast hne
          rw [hgl] at hg
          have e5 : ms.getLast hne = (zips t)[q - 1] := Option.some.inj hg
          have hmk : markP (t.words.getD (q - 1) []) := by
            have := h2 _ (List.getLast_mem hne)
            rw [e5, hprev hq1 h0] at this; exact this
          have hlt := hp h0 hmk
          have hle : x.2 ≤ ((zips t)[q - 1]).2 := by
            rw [← e5]
            rcases List.eq_nil_or_concat ms with c | ⟨ms', y', c⟩
            · exact absurd c hne
            · rw [List.concat_eq_append] at c
              subst c
              have hgy : (ms' ++ [y']).getLast hne = y' := by simp
              rw [hgy]
              rcases List.mem_append.1 hx with hx | hx
              · have := (List.pairwise_append.1 h3).2.2 x hx y' (by simp)
                omega
              · have : x = y' := by simpa using hx
                rw [this]; exact Int.le_refl _
          rw [hprev hq1 h0] at hle
          rw [hz]
          have hle2 : x.2 ≤ kidAt t (q - 1) := hle
          rw [kid_get hqk] at hlt
          show x.2 < t.kids[q]
          omega
      · have hms : ms = [] := by
          refine Classical.byContradiction fun hne => ?_
          have h0 : 0 < q := by
            rcases Nat.eq_zero_or_pos q with c | c
            · subst c
              have hen : ds ++ ms = [] := by rw [← e]; simp
              exact absurd (List.append_eq_nil_iff.1 hen).2 hne
            · exact c
          obtain ⟨hq1, hg⟩ := hlast h0
          rw [last_app _ _ hne, List.getLast?_eq_some_getLast hne] at hg
          have e5 : ms.getLast hne = (zips t)[q - 1] := Option.some.inj hg
          have := h2 _ (List.getLast_mem hne)
          rw [e5, hprev hq1 h0] at this
          exact (hp h0).1 this
        subst hms
        refine ⟨ds ++ [(zips t)[q]], [], by simp, fun z hx => ?_, by simp, .nil⟩
        rcases List.mem_append.1 hx with hx | hx
        · exact h1 z hx
        · have : z = (zips t)[q] := by simpa using hx
          rw [this, hz]; exact hm
  obtain ⟨ds, ms, e, h⟩ := key (zips t).length (Nat.le_refl _)
  rw [List.take_length] at e
  exact ⟨ds, ms, e, h⟩
theorem parts_norm {m : Nat} {t : Ty} (hw : t.words.length = t.kids.length) (hk : ∀ k ∈ t.kids, 0 ≤ k ∧ k < m) (hname : t.name = []) (h : ∃ ds ms : List Tm, zips t = ds ++ ms ∧ (∀ z ∈ ds, ¬ markP z.1) ∧ (∀ z ∈ ms, markP z.1) ∧ ms.Pairwise fun x y => x.2 < y.2) : termsT m t = t := by
  obtain ⟨ds, ms, e, h1, h2, h3⟩ := h
  have hd : declsR (zips t) = ds := by
    rw [e, declsR_app, declsR_marks h2, List.append_nil]
    unfold declsR
    rw [List.filter_eq_self]
    intro z hz; simp [h1 z hz]
  have hin := zips_in hk
  have hnd : ms.Nodup := h3.imp fun h e => by rw [e] at h; omega
  have huniq : ∀ x ∈ ms, ∀ y ∈ ms, x.2 = y.2 → x = y := by
    intro x hx y hy exy
    obtain ⟨a, ha, rfl⟩ := List.getElem_of_mem hx
    obtain ⟨b, hb, rfl⟩ := List.getElem_of_mem hy
    rcases Nat.lt_trichotomy a b with c | c | c
    · have := List.pairwise_iff_getElem.1 h3 a b ha hb c; omega
    · subst c; rfl
    · have := List.pairwise_iff_getElem.1 h3 b a hb ha c; omega
  have hmem : ∀ x : Tm, x ∈ ms ↔ x ∈ termsR m (zips t) := by
    intro x
    rw [termsR_mem]
    have hmz : ∀ x : Tm, markP x.1 → (x ∈ zips t ↔ x ∈ ms) := fun x hm => by
      rw [e, List.mem_append]
      exact ⟨fun h => h.resolve_left fun h => h1 x h hm, .inr⟩
    constructor
    · intro hx
      have hm := h2 x hx
      have hb := hin x ((hmz x hm).2 hx)
      obtain ⟨w, k⟩ := x
      refine ⟨?_, by rcases hm with c | c <;> rw [c] <;> simp, hb.1, hb.2⟩
      simp only at hm ⊢
      rcases hm with rfl | rfl
      · refine ((markOf_set (zips t) k).2.2 ⟨fun hx2 => ?_, (hmz _ (.inl rfl)).2 hx⟩).symm
        have := huniq _ ((hmz _ (.inr rfl)).1 hx2) _ hx rfl
        simp at this
      · exact ((markOf_set (zips t) k).1.2 ((hmz _ (.inr rfl)).2 hx)).symm
    · rintro ⟨ha, hb, _, _⟩
      obtain ⟨w, k⟩ := x
      simp only at ha hb
      have hm : markP w := ha ▸ (markOf_is (zips t) k).resolve_left (by rw [← ha]; exact hb)
      refine (hmz _ hm).1 ?_
      rcases hm with rfl | rfl
      · exact ((markOf_set (zips t) k).2.1 ha.symm).2
      · exact (markOf_set (zips t) k).1.1 ha.symm
  have hnr : (termsR m (zips t)).Nodup := (termsR_sorted m (zips t)).imp fun h e => by rw [e] at h; omega
  have hperm := (List.perm_ext_iff_of_nodup hnd hnr).2 hmem
  have hms : ms = termsR m (zips t) := List.Perm.eq_of_pairwise (le := fun x y => x.2 < y.2) (fun a b _ _ h1 h2 => by omega) h3 (termsR_sorted m (zips t)) hperm
  have hz : declsR (zips t) ++ termsR m (zips t) = zips t := by rw [hd, ← hms, ← e]
  unfold termsT
  rw [hz]
  refine ty_ext rfl hname.symm rfl ?_ ?_
  · show (zips t).map (·.1) = t.words
    unfold zips; rw [List.map_fst_zip (by omega)]
  · show (zips t).map (·.2) = t.kids
    unfold zips; rw [List.map_snd_zip (by omega)]
theorem right_iface {N : List Ty} (hr : rightP N) {p : Nat} (hp : p < N.length) (h7 : N[p].kind = 7) : termsT N.length N[p] = N[p] ∧ ¬ oddP N N[p] := by
  have hrt := rt_of_right hr hp
  have hk : ∀ k ∈ N[p].kids, 0 ≤ k ∧ k < N.length := fun k hk => by have := hrt.kids k hk; omega
  have h := hr.2.2 p hp
  unfold rowAt at h
  by_cases c : p < 22
  · rw [if_pos c] at h
    have hql : p < startL.length := by rw [start_len]; exact c
    rw [start_get hql] at h
    obtain ⟨s1, s2, _, _⟩ := start_plain _ (List.getElem_mem hql)
    have hzn : zips N[p] = [] := by unfold zips; rw [h, s1, s2]; rfl
    refine ⟨parts_norm (hrt.iface h7) hk (hrt.bare h7) ⟨[], [], by rw [hzn]; rfl, by simp, by simp, .nil⟩, fun ⟨z, hz, _⟩ => ?_⟩
    rw [hzn] at hz; cases hz
  · rw [if_neg c] at h
    have hE := (madeK_7 h7).1 h.1.2.2.2.2
    have hkp := h.1.1
    refine ⟨parts_norm (hrt.iface h7) hk (hrt.bare h7) (elems_parts hE), fun ⟨z, hz, hm, ho⟩ => ?_⟩
    obtain ⟨i, hi, rfl⟩ := List.getElem_of_mem hz
    have hzk := zips_kids (hrt.iface h7)
    have hiw : i < N[p].words.length := by rw [hrt.iface h7]; omega
    have hik : i < N[p].kids.length := by omega
    rw [zips_get hiw hik hi] at hm ho
    simp only at hm ho
    have hb := hrt.kids _ (List.getElem_mem hik)
    have hpre : N.take p <+: N := List.take_prefix p N
    have hkn : kindAt N N[p].kids[i] = kindAt (N.take p) N[p].kids[i] := by
      unfold kindAt
      rw [List.getElem?_take, if_pos (by omega)]
    rcases hE.2.2.2 i hiw with ⟨_, _, k7, k9, kr, _⟩ | ⟨hn, _⟩
    · rw [kid_get hik] at k7 k9 kr
      rw [hkn] at ho
      rcases ho with ho | ho | ho
      · exact k7 ho
      · exact k9 ho
      · exact kr ho
    · exact hn hm
/-- Each param instead of itself changes nothing. -/
theorem subR_self {own : List Ty} {i : Nat} {self : List Int} (hr : rightP own) (hi : i < own.length) (hlen : (asksL (own.take (i + 1))).getD i 0 ≤ self.length) (hself : ∀ k : Nat, k < self.length → ∃ q : Nat, ∃ hq : q < own.length, self[k]? = some (q : Int) ∧ own[q] = paramN (k : Int)) : subR own i self = .ok (own, (i : Int)) := by
  have hM : ∀ p, (partsL own i).getD p false = true → SubS own self p p := by
    intro p
    induction p using Nat.strongRecOn with
    | ind p ih =>
      intro hp
      have hask := parts_ask hr hi (i + 1) (Nat.le_refl _) hp
      have hpl : p < own.length := by omega
      have hrt := rt_of_right hr hpl
      by_cases h0 : askAt own p = 0
      · exact .stay hpl h0
      · by_cases h9 : own[p].kind = 9
        · have hpa := ask_param hr hpl h9
          rw [ask_in hi hask.1] at hask
          have hp9 := hrt.param h9
          obtain ⟨q, hq, e1, e2⟩ := hself own[p].n.toNat (by omega)
          have e3 : own[q] = own[p] := by
            rw [e2, right_param hr hpl h9]
            congr 1
            show ((own[p].n.toNat : Nat) : Int) = own[p].n
            omega
          have := right_inj hr hq hpl e3
          subst this
          exact .param hpl h9 e1
        · have hm : mapG (fun k => k.toNat) own[p] = own[p] := by
            unfold mapG
            have e : (own[p].kids.map fun k => ((k.toNat : Nat) : Int)) = own[p].kids := by
              conv => rhs; rw [← List.map_id own[p].kids]
              exact List.map_congr_left fun k hk => by have := hrt.kids k hk; simp only [id]; omega
            rw [e]
          refine .made (fun k => k.toNat) hpl h9 h0 (fun k hk => ?_) (fun h7 => ?_) hpl ?_
          · have hb := hrt.kids k hk
            exact ih k.toNat (by omega) (parts_kid hr hi hask.1 hp hk)
          · rw [hm]; exact (right_iface hr hpl h7).2
          · rw [hm]
            unfold normT
            split
            · exact (right_iface hr hpl ‹_›).1.symm
            · rfl
  refine subR_found hr hi (not_bad (fun x hx => ?_) hlen) (hM i (parts_self hr hi))
  obtain ⟨j, hj, rfl⟩ := List.getElem_of_mem hx
  obtain ⟨q, hq, e1, _⟩ := hself j hj
  rw [List.getElem?_eq_getElem hj] at e1
  injection e1 with e1
  omega
end Go.Sy
