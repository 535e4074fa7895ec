/- Texts of types: in plain words. No program in sight. -/
import Derived.Test.YthbngbiodamndaaDoorTyG
namespace Go.Sy
open Go Go.Proofs

def rowT (l : List Ty) (k : Int) : Ty := l.getD k.toNat (basicT [])
def sigT (T : Int → List UInt8) (t : Ty) : List UInt8 :=
  if t.n = 0 then [40] ++ Lib.join (t.kids.map T) [44, 32] ++ [41] else [40] ++ Lib.join ((t.kids.map T).take (t.kids.length - 1)) [44, 32] ++ [41, 32] ++ T (kidAt t (t.kids.length - 1))
def wordK (T : Int → List UInt8) (z : List UInt8 × Int) : List UInt8 := z.1 ++ [32] ++ T z.2
def declK (T : Int → List UInt8) (l : List Ty) (z : List UInt8 × Int) : Option (List UInt8) := if z.1 = [61] ∨ z.1 = [126] then none else some (z.1 ++ sigT T (rowT l z.2))
def termK (T : Int → List UInt8) (z : List UInt8 × Int) : Option (List UInt8) := if z.1 = [61] then some (T z.2) else if z.1 = [126] then some ([126] ++ T z.2) else none
def zipT (t : Ty) : List (List UInt8 × Int) := t.words.zip t.kids
def headT (t : Ty) : List (List UInt8) := if t.n = 1 ∨ t.n = 3 then [[99, 111, 109, 112, 97, 114, 97, 98, 108, 101]] else []
def tailT (T : Int → List UInt8) (t : Ty) : List (List UInt8) :=
  if (zipT t).filterMap (termK T) ≠ [] then [Lib.join ((zipT t).filterMap (termK T)) [32, 124, 32]] else if 2 ≤ t.n then [[110, 111, 110, 101]] else []
def partsT (T : Int → List UInt8) (l : List Ty) (t : Ty) : List (List UInt8) := headT t ++ (zipT t).filterMap (declK T l) ++ tailT T t
def ifaceT (T : Int → List UInt8) (l : List Ty) (t : Ty) : List UInt8 := [105, 110, 116, 101, 114, 102, 97, 99, 101, 123] ++ Lib.join (partsT T l t) [59, 32] ++ [125]
def structT (T : Int → List UInt8) (t : Ty) : List UInt8 := [115, 116, 114, 117, 99, 116, 123] ++ Lib.join ((zipT t).map (wordK T)) [59, 32] ++ [125]
def namedT (T : Int → List UInt8) (t : Ty) : List UInt8 := if 0 < t.kids.length then t.name ++ ([91] ++ Lib.join (t.kids.map T) [44, 32] ++ [93]) else t.name
def ownT (T : Int → List UInt8) (l : List Ty) (t : Ty) : List UInt8 :=
  if t.kind = 0 then t.name else if t.kind = 1 then [42] ++ T (kidAt t 0) else if t.kind = 2 then [91, 93] ++ T (kidAt t 0) else if t.kind = 3 then [91] ++ Lib.itoa t.n ++ [93] ++ T (kidAt t 0)
  else if t.kind = 4 then [109, 97, 112, 91] ++ T (kidAt t 0) ++ [93] ++ T (kidAt t 1) else if t.kind = 5 then [102, 117, 110, 99] ++ sigT T t else if t.kind = 6 then structT T t
  else if t.kind = 7 then ifaceT T l t else if t.kind = 8 then namedT T t else if t.kind = 9 then [35] ++ Lib.itoa t.n else []
/-- What a text's walk asks of a type. -/
structure TxOk (l : List Ty) (q : Nat) (t : Ty) : Prop where
  kids : ∀ k ∈ t.kids, 0 ≤ k ∧ k < q
  one : t.kind = 1 ∨ t.kind = 2 ∨ t.kind = 3 → t.kids.length = 1
  two : t.kind = 4 → t.kids.length = 2
  sig : t.kind = 5 → t.n = 0 ∨ 0 < t.kids.length
  wk : t.kind = 6 ∨ t.kind = 7 → t.words.length = t.kids.length
  fn : t.kind = 7 → ∀ z ∈ zipT t, ¬ markP z.1 → (rowT l z.2).kind = 5
  few : t.kids.length ≤ 16
  n7 : t.kind = 7 → 0 ≤ t.n ∧ t.n ≤ 3
  full : t.kind = 0 ∨ t.kind = 8 → t.name ≠ []
  kd : 0 ≤ t.kind ∧ t.kind ≤ 9
  word : ∀ w ∈ t.words, w.length ≤ 40
theorem row_at {l : List Ty} {i : Nat} (hi : i < l.length) : rowT l (i : Int) = l[i] := by
  unfold rowT; simp [List.getD, List.getElem?_eq_getElem hi]
theorem start_shape : ∀ t ∈ startL, (t.kind = 0 ∧ t.name ≠ [] ∨ t.kind = 7) ∧ t.kids = [] ∧ t.words = [] ∧ 0 ≤ t.n ∧ t.n ≤ 3 := by decide
theorem name_short {s : List UInt8} (h : isName s = true) : s.length ≤ 20 := by
  unfold isName at h
  simp only [Bool.and_eq_true, decide_eq_true_eq] at h
  exact h.1.1.2
theorem field_short (w : List UInt8) : w.length ≤ (fieldN w).length + 1 := by
  unfold fieldN; split <;> simp
theorem made_word {l : List Ty} {t : Ty} (h : madeP l t) : ∀ w ∈ t.words, w.length ≤ 40 := by
  obtain ⟨_, _, _, hw, hK⟩ := h
  intro w hm
  by_cases c6 : t.kind = 6
  · obtain ⟨i, hi, rfl⟩ := List.getElem_of_mem hm
    have h1 := name_short (((madeK_6 c6).1 hK).2.1 i hi).1
    have h2 := field_short t.words[i]
    omega
  · by_cases c7 : t.kind = 7
    · obtain ⟨i, hi, rfl⟩ := List.getElem_of_mem hm
      rcases ((madeK_7 c7).1 hK).2.2.2 i hi with h1 | h1
      · rcases h1.1 with e | e <;> rw [e] <;> decide
      · have := name_short h1.2.1; omega
    · rw [hw c6 c7] at hm; simp at hm
theorem tx_of_right {l : List Ty} (h : rightP l) {q : Nat} (hq : q < l.length) : TxOk l q l[q] := by
  have hr := h.2.2 q hq
  unfold rowAt at hr
  by_cases c : q < 22
  · rw [if_pos c] at hr
    have hql : q < startL.length := by rw [start_len]; exact c
    rw [start_get hql] at hr
    obtain ⟨hk, h1, h2, h3⟩ := start_shape _ (List.getElem_mem hql)
    rw [hr]
    generalize startL[q] = t at hk h1 h2 h3
    refine ⟨by rw [h1]; simp, fun e => by omega, fun e => by omega, fun e => by omega, fun _ => by rw [h1, h2]; rfl, fun _ z hz => by unfold zipT at hz; rw [h1, h2] at hz; simp at hz, by rw [h1]; simp, fun _ => h3, fun e => ?_, by omega, by rw [h2]; simp⟩
    rcases hk with hk | hk
    · exact hk.2
    · omega
  · rw [if_neg c] at hr
    have hwd := made_word hr.1
    obtain ⟨⟨hkids, hlen, _, _, hK⟩, _⟩ := hr
    have htl : (l.take q).length = q := by rw [List.length_take]; omega
    rw [kidsP, htl] at hkids
    generalize l[q] = t at hkids hlen hK hwd
    have hk : 0 ≤ t.kind ∧ t.kind ≤ 9 ∧ t.kind ≠ 0 := by
      rcases hK with e | e | e | e | e | e | e | e | e <;> (have := e.1; omega)
    refine ⟨hkids, fun e => ?_, fun e => ((madeK_4 e).1 hK).2, fun e => ?_, fun e => ?_, fun e z hz hm => ?_, hlen, fun e => ?_, fun e => ?_, ⟨hk.1, hk.2.1⟩, hwd⟩
    · rcases e with e | e | e
      · exact ((madeK_1 e).1 hK).2
      · exact ((madeK_2 e).1 hK).2
      · exact ((madeK_3 e).1 hK).2.2
    · rcases (madeK_5 e).1 hK with e | e
      · exact .inl e
      · exact .inr e.2
    · rcases e with e | e
      · exact ((madeK_6 e).1 hK).2.2
      · exact ((madeK_7 e).1 hK).1
    · obtain ⟨hwk, _, _, hel⟩ := (madeK_7 e).1 hK
      obtain ⟨i, hi, rfl⟩ := List.getElem_of_mem hz
      unfold zipT at hi hm ⊢
      rw [List.length_zip] at hi
      simp only [List.getElem_zip] at hm ⊢
      rcases hel i (by omega) with ⟨h1, _⟩ | ⟨_, _, h3, _⟩
      · exact absurd h1 hm
      · have hik : i < t.kids.length := by omega
        rw [kid_get hik] at h3
        have hb := hkids _ (List.getElem_mem hik)
        obtain ⟨j, hj⟩ : ∃ j : Nat, t.kids[i] = (j : Int) := ⟨t.kids[i].toNat, by omega⟩
        rw [hj] at h3 hb ⊢
        rw [kind_get rfl (show j < (l.take q).length by rw [htl]; omega), List.getElem_take] at h3
        rw [row_at (by omega)]
        exact h3
    · obtain ⟨_, h1, h2, _⟩ := (madeK_7 e).1 hK
      exact ⟨h1, h2⟩
    · have e8 : t.kind = 8 := by omega
      have := ((madeK_8 e8).1 hK).2
      intro hn
      rw [hn] at this
      exact absurd this.1 (by decide)

/-! ### A row's texts -/
/-- 'T' tells the texts of an arena. -/
def Texts (l : List Ty) (T : Int → List UInt8) : Prop := ∀ i (hi : i < l.length), T (i : Int) = cutT (ownT T l l[i])
theorem cutT_len (s : List UInt8) : (cutT s).length ≤ 4001 := by unfold cutT; simp; omega
theorem fm_congr {α β : Type} {f g : α → Option β} : ∀ {l : List α}, (∀ x ∈ l, f x = g x) → l.filterMap f = l.filterMap g
  | [], _ => rfl
  | x :: l, h => by
    rw [List.filterMap_cons, List.filterMap_cons, h x (.head _), fm_congr fun y hy => h y (.tail _ hy)]
theorem sig_congr {T U : Int → List UInt8} {t : Ty} (hs : t.n = 0 ∨ 0 < t.kids.length) (h : ∀ k ∈ t.kids, T k = U k) : sigT T t = sigT U t := by
  have h1 : t.kids.map T = t.kids.map U := List.map_congr_left h
  unfold sigT
  split
  · rw [h1]
  · have hk : 0 < t.kids.length := by omega
    rw [h1, kid_get (by omega), h _ (List.getElem_mem _)]
theorem zip_kid {t : Ty} {z : List UInt8 × Int} (hz : z ∈ zipT t) : z.2 ∈ t.kids := (List.of_mem_zip hz).2
theorem kid_mem {t : Ty} {i : Nat} (hi : i < t.kids.length) : kidAt t i ∈ t.kids := by rw [kid_get hi]; exact List.getElem_mem hi
theorem own_congr {T U : Int → List UInt8} {l m : List Ty} {q : Nat} {t : Ty} (ht : TxOk l q t) (h : ∀ k : Int, 0 ≤ k → k < q → T k = U k ∧ rowT l k = rowT m k ∧ TxOk l k.toNat (rowT l k)) : ownT T l t = ownT U m t := by
  have hk : ∀ k ∈ t.kids, T k = U k := fun k hm => (h k (ht.kids k hm).1 (ht.kids k hm).2).1
  have hz : ∀ z ∈ zipT t, T z.2 = U z.2 := fun z hm => hk _ (zip_kid hm)
  have h1 : t.kids.map T = t.kids.map U := List.map_congr_left hk
  unfold ownT
  repeat' split
  · rfl
  · rw [hk _ (kid_mem (by have := ht.one (.inl ‹_›); omega))]
  · rw [hk _ (kid_mem (by have := ht.one (.inr (.inl ‹_›)); omega))]
  · rw [hk _ (kid_mem (by have := ht.one (.inr (.inr ‹_›)); omega))]
  · have := ht.two ‹_›
    rw [hk _ (kid_mem (by omega)), hk _ (kid_mem (by omega))]
  · rw [sig_congr (ht.sig ‹_›) hk]
  · unfold structT
    have e : (zipT t).map (wordK T) = (zipT t).map (wordK U) := List.map_congr_left fun z hm => by unfold wordK; rw [hz z hm]
    rw [e]
  · rename_i h7
    have e1 : (zipT t).filterMap (termK T) = (zipT t).filterMap (termK U) := fm_congr fun z hm => by unfold termK; rw [hz z hm]
    have e2 : (zipT t).filterMap (declK T l) = (zipT t).filterMap (declK U m) := fm_congr fun z hm => by
      unfold declK
      split
      · rfl
      · rename_i hn
        have hb := ht.kids _ (zip_kid hm)
        obtain ⟨_, hr, hx⟩ := h z.2 hb.1 hb.2
        have h5 := ht.fn h7 z hm hn
        rw [← hr, sig_congr (hx.sig h5) (fun k hkk => (h k (hx.kids k hkk).1 (by have := (hx.kids k hkk).2; omega)).1)]
    unfold ifaceT partsT tailT
    rw [e1, e2]
  · unfold namedT; rw [h1]
  · rfl
  · rfl
theorem texts_pre {l m : List Ty} {T U : Int → List UInt8} (hl : rightP l) (hT : Texts l T) (hU : Texts m U) (hp : l <+: m) : ∀ (i : Nat), i < l.length → T (i : Int) = U (i : Int) := by
  obtain ⟨r, rfl⟩ := hp
  intro i
  induction i using Nat.strongRecOn with
  | ind i ih =>
    intro hi
    have hi2 : i < (l ++ r).length := by simp; omega
    rw [hT i hi, hU i hi2, List.getElem_append_left hi]
    congr 1
    refine own_congr (tx_of_right hl hi) (fun k h0 hk => ?_)
    obtain ⟨j, rfl⟩ : ∃ j : Nat, k = (j : Int) := ⟨k.toNat, by omega⟩
    have hj : j < l.length := by omega
    refine ⟨ih j (by omega) hj, ?_, ?_⟩
    · rw [row_at hj, row_at (by simp; omega), List.getElem_append_left hj]
    · rw [row_at hj]; exact tx_of_right hl hj
/-- They are there. -/
def textsN (l : List Ty) : Nat → Int → List UInt8
  | 0, _ => []
  | n + 1, k => if k = (n : Int) then cutT (ownT (textsN l n) l (rowT l k)) else textsN l n k
def textsL (l : List Ty) (k : Int) : List UInt8 := textsN l l.length k
theorem textsN_step (l : List Ty) {k : Nat} : ∀ n, k < n → textsN l n (k : Int) = cutT (ownT (textsN l k) l (rowT l (k : Int)))
  | 0, h => by omega
  | n + 1, h => by
    rw [textsN]
    by_cases e : k = n
    · subst e; rw [if_pos rfl]
    · rw [if_neg (by omega)]; exact textsN_step l n (by omega)
theorem texts_are {l : List Ty} (hl : rightP l) : Texts l (textsL l) := by
  intro i hi
  unfold textsL
  rw [textsN_step l l.length hi, row_at hi]
  congr 1
  refine own_congr (tx_of_right hl hi) (fun k h0 hk => ?_)
  obtain ⟨j, rfl⟩ : ∃ j : Nat, k = (j : Int) := ⟨k.toNat, by omega⟩
  refine ⟨?_, rfl, ?_⟩
  · rw [textsN_step l i (by omega), textsN_step l l.length (by omega)]
  · rw [row_at (by omega)]; exact tx_of_right hl (by omega)
theorem text_full {l : List Ty} (hl : rightP l) {T : Int → List UInt8} (hT : Texts l T) {i : Nat} (hi : i < l.length) : T (i : Int) ≠ [] := by
  have hx := tx_of_right hl hi
  have hf := hx.full
  have hd := hx.kd
  rw [hT i hi]
  generalize l[i] = t at hf hd
  have ho : ownT T l t ≠ [] := by
    unfold ownT
    repeat' split
    · exact hf (.inl ‹_›)
    · simp
    · simp
    · simp
    · simp
    · simp
    · simp [structT]
    · simp [ifaceT]
    · unfold namedT
      have := hf (.inr ‹_›)
      split
      · simp [this]
      · exact this
    · simp
    · omega
  unfold cutT
  intro e
  have := congrArg List.length e
  have h2 : 0 < (ownT T l t).length := List.length_pos_iff.2 ho
  rw [List.length_take, List.length_nil] at this
  omega
end Go.Sy
