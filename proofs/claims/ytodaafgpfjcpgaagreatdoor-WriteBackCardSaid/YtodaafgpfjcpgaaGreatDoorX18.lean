/- Joined of my own texts: WrP, WrL. -/
import Derived.Test.YtodaafgpfjcpgaaGreatDoorX17
import Derived.Lib.Join
namespace Go.Sy
open Go
section
variable (l : List Nod) (T : Nat → Bs)
def kindAt (i : Int) : Int := ((l[i.toNat]?).map Nod.kind).getD 0
def tx (i : Int) : Bs := if i < 0 then [] else T i.toNat
def allB (ks : List Int) (sep : Bs) : Bs := Lib.join (ks.map (tx T)) sep
def kid (n : Nod) (j : Nat) : Int := n.kids.getD j (-1)
def bareB (n : Nod) : Bs :=
  let out := [40] ++ allB T (n.kids.take (n.kids.length - 1)) [44, 32] ++ [41]
  if kindAt l (kid n (n.kids.length - 1)) = 0 then out else out ++ [32] ++ tx T (kid n (n.kids.length - 1))
def nodOf (i : Int) : Nod := (l[i.toNat]?).getD ⟨0, [], [], 0⟩
def signB (i : Int) : Bs := if kindAt l i = 15 then bareB l T (nodOf l i) else tx T i
def bracesB (word : Bs) (n : Nod) : Bs := if n.kids.length = 0 then word ++ [123, 125] else word ++ [32, 123, 32] ++ allB T n.kids [59, 32] ++ [32, 125]
def namedB (n : Nod) : Bs := if n.text = [] then tx T (kid n 0) else n.text ++ [32] ++ tx T (kid n 0)
def valueB (word : Bs) (n : Nod) : Bs :=
  let o1 := word ++ [32] ++ n.text
  let o2 := if kindAt l (kid n 0) = 0 then o1 else o1 ++ ([32] ++ tx T (kid n 0))
  if kindAt l (kid n 1) = 0 then o2 else o2 ++ ([32, 61, 32] ++ tx T (kid n 1))
def nodeB (n : Nod) : Bs :=
  if n.kind = 0 then []
  else if n.kind = 1 ∨ n.kind = 2 ∨ n.kind = 3 ∨ n.kind = 4 ∨ n.kind = 5 then n.text
  else if n.kind = 6 then (if kindAt l (kid n 0) = 2 ∨ kindAt l (kid n 0) = 3 then tx T (kid n 0) ++ [32] else tx T (kid n 0)) ++ [46] ++ n.text
  else if n.kind = 7 then tx T (kid n 0) ++ [40] ++ allB T (n.kids.drop 1) [44, 32] ++ [41]
  else if n.kind = 8 then tx T (kid n 0) ++ [91] ++ allB T (n.kids.drop 1) [44, 32] ++ [93]
  else if n.kind = 9 ∨ n.kind = 22 then n.text ++ tx T (kid n 0)
  else if n.kind = 10 then allB T n.kids ([32] ++ n.text ++ [32])
  else if n.kind = 11 then [40] ++ tx T (kid n 0) ++ [41]
  else if n.kind = 12 then [91, 93] ++ tx T (kid n 0)
  else if n.kind = 13 then [91] ++ tx T (kid n 0) ++ [93] ++ tx T (kid n 1)
  else if n.kind = 14 then [109, 97, 112, 91] ++ tx T (kid n 0) ++ [93] ++ tx T (kid n 1)
  else if n.kind = 15 then [102, 117, 110, 99] ++ bareB l T n
  else if n.kind = 16 then bracesB T [115, 116, 114, 117, 99, 116] n
  else if n.kind = 17 then bracesB T [105, 110, 116, 101, 114, 102, 97, 99, 101] n
  else if n.kind = 18 ∨ n.kind = 19 ∨ n.kind = 27 ∨ n.kind = 29 then namedB T n
  else if n.kind = 20 then n.text ++ signB l T (kid n 0)
  else if n.kind = 21 then allB T n.kids [32, 124, 32]
  else if n.kind = 23 then valueB l T [99, 111, 110, 115, 116] n
  else if n.kind = 24 then valueB l T [118, 97, 114] n
  else if n.kind = 25 then [116, 121, 112, 101, 32] ++ n.text ++ tx T (kid n 0) ++ [32] ++ tx T (kid n 1)
  else if n.kind = 26 then (if n.kids.length = 0 then [] else [91] ++ allB T n.kids [44, 32] ++ [93])
  else if n.kind = 28 then (if kindAt l (kid n 0) = 0 then [102, 117, 110, 99, 32] else [102, 117, 110, 99, 32] ++ ([40] ++ tx T (kid n 0) ++ [41, 32])) ++ n.text ++ tx T (kid n 1) ++ signB l T (kid n 2) ++ [32] ++ tx T (kid n 3)
  else if n.kind = 30 then (if kindAt l (kid n 0) = 0 then [123, 125] else [123, 32, 114, 101, 116, 117, 114, 110, 32] ++ tx T (kid n 0) ++ [32, 125])
  else if n.kind = 31 then [105, 109, 112, 111, 114, 116, 32] ++ n.text
  else [112, 97, 99, 107, 97, 103, 101, 32] ++ n.text ++ [10] ++ (n.kids.map fun k => tx T k ++ [10]).flatten
end
def tabB (l : List Nod) : Nat → List Bs
  | 0 => []
  | i + 1 => tabB l i ++ [match l[i]? with
    | none => []
    | some n => nodeB l (fun k => (tabB l i).getD k []) n]
def txtB (l : List Nod) (i : Nat) : Bs := (tabB l l.length).getD i []
theorem tabB_len (l : List Nod) : ∀ i, (tabB l i).length = i
  | 0 => rfl
  | i + 1 => by simp [tabB, tabB_len l i]
theorem tabB_get (l : List Nod) {k : Nat} : ∀ i, k < i → (tabB l i).getD k [] = (tabB l (k + 1)).getD k []
  | 0, h => absurd h (Nat.not_lt_zero _)
  | i + 1, h => by
    rcases Nat.lt_succ_iff_lt_or_eq.1 h with q | rfl
    · rw [← tabB_get l i q]
      show (tabB l i ++ _).getD k [] = _
      rw [List.getD_eq_getElem?_getD, List.getElem?_append_left (by rw [tabB_len]; exact q), List.getD_eq_getElem?_getD]
    rfl
theorem tx_congr {T T' : Nat → Bs} {ks : List Int} (h : ∀ k ∈ ks, tx T k = tx T' k) (sep : Bs) : allB T ks sep = allB T' ks sep := by
  unfold allB; rw [List.map_congr_left h]
theorem kid_mem {n : Nod} {j : Nat} (h : j < n.kids.length) : kid n j ∈ n.kids := by
  unfold kid; rw [List.getD_eq_getElem?_getD, List.getElem?_eq_getElem h]; exact List.getElem_mem h
section
variable {l : List Nod} {T T' : Nat → Bs} {i : Nat}
theorem right_kids (hr : RightN l) (hi : i < l.length) : ∀ k ∈ l[i].kids, 0 ≤ k ∧ k < (i : Int) := (hr.node i l[i] (List.getElem?_eq_getElem hi)).2.2.2
theorem tx_low (h : ∀ k, k < i → T k = T' k) {k : Int} (hk : k < (i : Int)) : tx T k = tx T' k := by
  unfold tx
  split
  · rfl
  exact h _ HS
theorem kid_low {n : Nod} (hn : ∀ k ∈ n.kids, 0 ≤ k ∧ k < (i : Int)) (j : Nat) : kid n j < (i : Int) := by
  rcases Nat.lt_or_ge j n.kids.length with q | q
  · exact (hn _ (kid_mem q)).2
  unfold kid
  rw [List.getD_eq_getElem?_getD, List.getElem?_eq_none q]
  show (-1 : Int) < i
  omega
theorem bareB_congr (h : ∀ k, k < i → T k = T' k) {n : Nod} (hn : ∀ k ∈ n.kids, 0 ≤ k ∧ k < (i : Int)) : bareB l T n = bareB l T' n := by
  unfold bareB
  rw [tx_congr (fun k hk => tx_low h (hn k (List.mem_of_mem_take hk)).2), tx_low h (kid_low hn _)]
theorem signB_congr (hr : RightN l) (h : ∀ k, k < i → T k = T' k) {n : Nod} (hn : ∀ k ∈ n.kids, 0 ≤ k ∧ k < (i : Int)) (j : Nat) : signB l T (kid n j) = signB l T' (kid n j) := by
  have hl := kid_low hn j
  unfold signB
  rw [tx_low h hl]
  have hb : bareB l T (nodOf l (kid n j)) = bareB l T' (nodOf l (kid n j)) := by
    refine bareB_congr h (fun k hk => ?_)
    unfold nodOf at hk
    cases hg : l[(kid n j).toNat]? with
    | none => rw [hg] at hk; cases hk
    | some m =>
      rw [hg] at hk
      have := (hr.node _ m hg).2.2.2 k hk
      omega
  rw [hb]
theorem nodeB_congr (hr : RightN l) (h : ∀ k, k < i → T k = T' k) {n : Nod} (hn : ∀ k ∈ n.kids, 0 ≤ k ∧ k < (i : Int)) : nodeB l T n = nodeB l T' n := by
  have hk : ∀ j, tx T (kid n j) = tx T' (kid n j) := fun j => tx_low h (kid_low hn j)
  have ha : ∀ sep, allB T n.kids sep = allB T' n.kids sep := fun sep => tx_congr (fun k hk => tx_low h (hn k hk).2) sep
  have hd : ∀ sep, allB T (n.kids.drop 1) sep = allB T' (n.kids.drop 1) sep := fun sep => tx_congr (fun k hk => tx_low h (hn k (List.mem_of_mem_drop hk)).2) sep
  have hs : ∀ j, signB l T (kid n j) = signB l T' (kid n j) := fun j => signB_congr hr h hn j
  have hb : bareB l T n = bareB l T' n := bareB_congr h hn
  have hm : (n.kids.map fun k => tx T k ++ [10]) = (n.kids.map fun k => tx T' k ++ [10]) := List.map_congr_left fun k hk => by rw [tx_low h (hn k hk).2]
  unfold nodeB bracesB namedB valueB
  simp only [hk, ha, hd, hs, hb, hm]
theorem txtB_eq (hr : RightN l) (hi : i < l.length) : txtB l i = nodeB l (txtB l) l[i] := by
  unfold txtB
  rw [tabB_get l l.length hi]
  show (tabB l i ++ [match l[i]? with
    | none => []
    | some n => nodeB l (fun k => (tabB l i).getD k []) n]).getD i [] = _
  rw [List.getD_eq_getElem?_getD, List.getElem?_append_right (by rw [tabB_len]; exact Nat.le_refl _), tabB_len, Nat.sub_self, List.getElem?_eq_getElem hi]
  show nodeB l (fun k => (tabB l i).getD k []) l[i] = _
  refine nodeB_congr hr (fun k hk => ?_) (right_kids hr hi)
  rw [tabB_get l i hk, tabB_get l l.length HS]
end
end Go.Sy
namespace Go.Sy
abbrev Hu := @kid_mem
end Go.Sy
namespace Go.Sy
open Go
def lenK (T : Nat → Bs) (k : Int) : Nat := (tx T k).length
theorem lenK_eq (T : Nat → Bs) (k : Int) : (tx T k).length = lenK T k := rfl
def sumL (f : Int → Nat) (ks : List Int) : Nat := (ks.map f).sum
def ownC (n : Nod) : Nat := 3 * n.text.length + 8 * n.kids.length + 40
theorem joinTail_len (sep : Bs) : ∀ xs : List Bs, (Lib.joinTail sep xs).length = (xs.map List.length).sum + xs.length * sep.length
  | [] => by simp [Lib.joinTail]
  | x :: xs => by
    have := joinTail_len sep xs
    unfold Lib.joinTail at *
    simp only [List.map_cons, List.flatten_cons, List.length_append, this, List.sum_cons, List.length_cons, Nat.add_mul]
    omega
theorem allB_len (T : Nat → Bs) (ks : List Int) (sep : Bs) : (allB T ks sep).length ≤ sumL (lenK T) ks + (ks.length - 1) * sep.length := by
  unfold allB sumL
  cases ks with
  | nil => rw [List.map_nil, Lib.join_nil]; exact Nat.zero_le _
  | cons k ks =>
    rw [List.map_cons, Lib.join_cons, List.length_append, joinTail_len]
    simp only [List.map_cons, List.sum_cons, List.map_map, List.length_map, List.length_cons, Nat.add_sub_cancel]
    have : (List.map (List.length ∘ tx T) ks).sum = (List.map (lenK T) ks).sum := rfl
    have h2 : (tx T k).length = lenK T k := rfl
    omega
theorem sumL_take (f : Int → Nat) (ks : List Int) (j : Nat) : sumL f (ks.take j) + sumL f (ks.drop j) = sumL f ks := by
  unfold sumL
  rw [← List.sum_append, ← List.map_append, List.take_append_drop]
theorem sumL_get (f : Int → Nat) {ks : List Int} {j : Nat} (h : j < ks.length) : f ks[j] ≤ sumL f (ks.drop j) := by
  unfold sumL
  rw [List.drop_eq_getElem_cons h, List.map_cons, List.sum_cons]
  exact Nat.le_add_right _ _
theorem list1 {α : Type} {l : List α} (h : l.length = 1) : ∃ a, l = [a] := by
  match l, h with
  | [a], _ => exact ⟨a, rfl⟩
theorem list2 {α : Type} {l : List α} (h : l.length = 2) : ∃ a b, l = [a, b] := by
  match l, h with
  | [a, b], _ => exact ⟨a, b, rfl⟩
theorem list4 {α : Type} {l : List α} (h : l.length = 4) : ∃ a b c d, l = [a, b, c, d] := by
  match l, h with
  | [a, b, c, d], _ => exact ⟨a, b, c, d, rfl⟩
theorem bareB_len (l : List Nod) (T : Nat → Bs) {n : Nod} (h : 1 ≤ n.kids.length) : (bareB l T n).length ≤ sumL (lenK T) n.kids + 2 * n.kids.length + 10 := by
  have h1 := allB_len T (n.kids.take (n.kids.length - 1)) [44, 32]
  have h2 := sumL_take (lenK T) n.kids (n.kids.length - 1)
  have h3 := sumL_get (lenK T) (ks := n.kids) (j := n.kids.length - 1) HS
  have h4 : kid n (n.kids.length - 1) = n.kids[n.kids.length - 1] := by
    unfold kid; rw [List.getD_eq_getElem?_getD, List.getElem?_eq_getElem HS]; rfl
  have h5 : (n.kids.take (n.kids.length - 1)).length ≤ n.kids.length := by rw [List.length_take]; omega
  have h6 : ((n.kids.take (n.kids.length - 1)).length - 1) * 2 ≤ 2 * n.kids.length := by omega
  simp only [List.length_cons, List.length_nil] at h1
  unfold bareB
  rw [h4]
  split <;> simp only [List.length_append, List.length_cons, List.length_nil, lenK_eq] <;> omega
section
variable (l : List Nod) (T : Nat → Bs) {n : Nod}
theorem sum1 (h : n.kids.length = 1) : lenK T (kid n 0) ≤ sumL (lenK T) n.kids := by
  obtain ⟨a, e⟩ := list1 h
  unfold kid sumL; rw [e]; simp
theorem sum2 (h : n.kids.length = 2) : lenK T (kid n 0) + lenK T (kid n 1) ≤ sumL (lenK T) n.kids := by
  obtain ⟨a, b, e⟩ := list2 h
  unfold kid sumL; rw [e]; simp
theorem sum4 (h : n.kids.length = 4) : lenK T (kid n 0) + lenK T (kid n 1) + lenK T (kid n 2) + lenK T (kid n 3) ≤ sumL (lenK T) n.kids := by
  obtain ⟨a, b, c, d, e⟩ := list4 h
  unfold kid sumL; rw [e]; simp; omega
theorem sumD (h : 1 ≤ n.kids.length) : lenK T (kid n 0) + sumL (lenK T) (n.kids.drop 1) ≤ sumL (lenK T) n.kids := by
  cases e : n.kids with
  | nil => rw [e] at h; simp at h
  | cons a r => unfold kid sumL; rw [e]; simp
theorem bracesB_len (word : Bs) : (bracesB T word n).length ≤ word.length + sumL (lenK T) n.kids + 2 * n.kids.length + 10 := by
  have h1 := allB_len T n.kids [59, 32]
  simp only [List.length_cons, List.length_nil] at h1
  unfold bracesB
  split <;> simp only [List.length_append, List.length_cons, List.length_nil] <;> omega
theorem namedB_len (h : n.kids.length = 1) : (namedB T n).length ≤ n.text.length + 1 + sumL (lenK T) n.kids := by
  have h1 := sum1 T h
  unfold namedB
  split <;> simp only [List.length_append, List.length_cons, List.length_nil, lenK_eq] <;> omega
theorem valueB_len (word : Bs) (h : n.kids.length = 2) : (valueB l T word n).length ≤ word.length + n.text.length + 10 + sumL (lenK T) n.kids := by
  have h1 := sum2 T h
  unfold valueB
  simp only
  split <;> split <;> simp only [List.length_append, List.length_cons, List.length_nil, lenK_eq] <;> omega
theorem lines_len : ∀ ks : List Int, ((ks.map fun k => tx T k ++ [10]).flatten).length = sumL (lenK T) ks + ks.length
  | [] => rfl
  | k :: ks => by
    have := lines_len ks
    unfold sumL at *
    simp only [List.map_cons, List.flatten_cons, List.length_append, this, List.sum_cons, List.length_cons, List.length_nil, lenK_eq]
    omega
theorem nodeB_len (hk : kidsOk n.kind n.kids.length = true) (hs : ∀ j, (signB l T (kid n j)).length ≤ lenK T (kid n j)) : (nodeB l T n).length ≤ ownC n + sumL (lenK T) n.kids := by
  unfold ownC nodeB
  by_cases e : n.kind = 0
  · rw [if_pos e]
    simp
  rw [if_neg e]
  clear e
  by_cases e : n.kind = 1 ∨ n.kind = 2 ∨ n.kind = 3 ∨ n.kind = 4 ∨ n.kind = 5
  · rw [if_pos e]
    omega
  rw [if_neg e]
  clear e
  by_cases e : n.kind = 6
  · rw [if_pos e]
    rw [e] at hk
    have h1 := sum1 T (by simpa [kidsOk] using hk)
    split <;> simp only [List.length_append, List.length_cons, List.length_nil, lenK_eq] <;> omega
  rw [if_neg e]
  clear e
  by_cases e : n.kind = 7
  · rw [if_pos e]
    rw [e] at hk
    have h1 := sumD T (show 1 ≤ n.kids.length by simpa [kidsOk, Nat.ble_eq] using hk)
    have h2 := allB_len T (n.kids.drop 1) [44, 32]
    simp only [List.length_append, List.length_cons, List.length_nil, lenK_eq, List.length_drop] at *
    omega
  rw [if_neg e]
  clear e
  by_cases e : n.kind = 8
  · rw [if_pos e]
    rw [e] at hk
    have h0 : 2 ≤ n.kids.length := by simpa [kidsOk, Nat.ble_eq] using hk
    have h1 := sumD T (show 1 ≤ n.kids.length by omega)
    have h2 := allB_len T (n.kids.drop 1) [44, 32]
    simp only [List.length_append, List.length_cons, List.length_nil, lenK_eq, List.length_drop] at *
    omega
  rw [if_neg e]
  clear e
  by_cases e : n.kind = 9 ∨ n.kind = 22
  · rw [if_pos e]
    have h1 := sum1 T (by rcases e with e | e <;> (rw [e] at hk; simpa [kidsOk] using hk))
    simp only [List.length_append, lenK_eq]; omega
  rw [if_neg e]
  clear e
  by_cases e : n.kind = 10
  · rw [if_pos e]
    rw [e] at hk
    have h0 : n.kids.length = 2 := by simpa [kidsOk] using hk
    have h2 := allB_len T n.kids ([32] ++ n.text ++ [32])
    simp only [List.length_append, List.length_cons, List.length_nil, h0] at *
    omega
  rw [if_neg e]
  clear e
  by_cases e : n.kind = 11
  · rw [if_pos e]
    rw [e] at hk
    have h1 := sum1 T (by simpa [kidsOk] using hk)
    simp only [List.length_append, List.length_cons, List.length_nil, lenK_eq]; omega
  rw [if_neg e]
  clear e
  by_cases e : n.kind = 12
  · rw [if_pos e]
    rw [e] at hk
    have h1 := sum1 T (by simpa [kidsOk] using hk)
    simp only [List.length_append, List.length_cons, List.length_nil, lenK_eq]; omega
  rw [if_neg e]
  clear e
  by_cases e : n.kind = 13
  · rw [if_pos e]
    rw [e] at hk
    have h1 := sum2 T (by simpa [kidsOk] using hk)
    simp only [List.length_append, List.length_cons, List.length_nil, lenK_eq]; omega
  rw [if_neg e]
  clear e
  by_cases e : n.kind = 14
  · rw [if_pos e]
    rw [e] at hk
    have h1 := sum2 T (by simpa [kidsOk] using hk)
    simp only [List.length_append, List.length_cons, List.length_nil, lenK_eq]; omega
  rw [if_neg e]
  clear e
  by_cases e : n.kind = 15
  · rw [if_pos e]
    rw [e] at hk
    have h1 := bareB_len l T (show 1 ≤ n.kids.length by simpa [kidsOk, Nat.ble_eq] using hk)
    simp only [List.length_append, List.length_cons, List.length_nil]; omega
  rw [if_neg e]
  clear e
  by_cases e : n.kind = 16
  · rw [if_pos e]
    have h1 := bracesB_len T (n := n) [115, 116, 114, 117, 99, 116]
    simp only [List.length_cons, List.length_nil] at h1; omega
  rw [if_neg e]
  clear e
  by_cases e : n.kind = 17
  · rw [if_pos e]
    have h1 := bracesB_len T (n := n) [105, 110, 116, 101, 114, 102, 97, 99, 101]
    simp only [List.length_cons, List.length_nil] at h1; omega
  rw [if_neg e]
  clear e
  by_cases e : n.kind = 18 ∨ n.kind = 19 ∨ n.kind = 27 ∨ n.kind = 29
  · rw [if_pos e]
    have h1 := namedB_len T (n := n) (by rcases e with e | e | e | e <;> (rw [e] at hk; simpa [kidsOk] using hk))
    omega
  rw [if_neg e]
  clear e
  by_cases e : n.kind = 20
  · rw [if_pos e]
    rw [e] at hk
    have h1 := sum1 T (by simpa [kidsOk] using hk)
    have h2 := hs 0
    simp only [List.length_append]; omega
  rw [if_neg e]
  clear e
  by_cases e : n.kind = 21
  · rw [if_pos e]
    have h2 := allB_len T n.kids [32, 124, 32]
    simp only [List.length_cons, List.length_nil] at h2; omega
  rw [if_neg e]
  clear e
  by_cases e : n.kind = 23
  · rw [if_pos e]
    rw [e] at hk
    have h1 := valueB_len l T (n := n) [99, 111, 110, 115, 116] (by simpa [kidsOk] using hk)
    simp only [List.length_cons, List.length_nil] at h1; omega
  rw [if_neg e]
  clear e
  by_cases e : n.kind = 24
  · rw [if_pos e]
    rw [e] at hk
    have h1 := valueB_len l T (n := n) [118, 97, 114] (by simpa [kidsOk] using hk)
    simp only [List.length_cons, List.length_nil] at h1; omega
  rw [if_neg e]
  clear e
  by_cases e : n.kind = 25
  · rw [if_pos e]
    rw [e] at hk
    have h1 := sum2 T (by simpa [kidsOk] using hk)
    simp only [List.length_append, List.length_cons, List.length_nil, lenK_eq]; omega
  rw [if_neg e]
  clear e
  by_cases e : n.kind = 26
  · rw [if_pos e]
    have h2 := allB_len T n.kids [44, 32]
    simp only [List.length_cons, List.length_nil] at h2
    split <;> simp only [List.length_append, List.length_cons, List.length_nil] <;> omega
  rw [if_neg e]
  clear e
  by_cases e : n.kind = 28
  · rw [if_pos e]
    rw [e] at hk
    have h1 := sum4 T (by simpa [kidsOk] using hk)
    have h2 := hs 2
    split <;> simp only [List.length_append, List.length_cons, List.length_nil, lenK_eq] <;> omega
  rw [if_neg e]
  clear e
  by_cases e : n.kind = 30
  · rw [if_pos e]
    rw [e] at hk
    have h1 := sum1 T (by simpa [kidsOk] using hk)
    split <;> simp only [List.length_append, List.length_cons, List.length_nil, lenK_eq] <;> omega
  rw [if_neg e]
  clear e
  by_cases e : n.kind = 31
  · rw [if_pos e]
    simp only [List.length_append, List.length_cons, List.length_nil]; omega
  rw [if_neg e]
  have h1 := lines_len T n.kids
  simp only [List.length_append, List.length_cons, List.length_nil, h1]; omega
end
theorem sum_nodup (f : Nat → Nat) : ∀ (m : Nat) (ks : List Int), ks.Nodup → (∀ k ∈ ks, 0 ≤ k ∧ k < (m : Int)) → sumL (fun k => f k.toNat) ks ≤ ((List.range m).map f).sum
  | 0, ks, _, h => by
    cases ks with
    | nil => exact Nat.zero_le _
    | cons k r => have := h k (List.mem_cons_self ..); omega
  | m + 1, ks, hn, h => by
    rw [List.range_succ, List.map_append, List.sum_append]
    simp only [List.map_cons, List.map_nil, List.sum_cons, List.sum_nil, Nat.add_zero]
    by_cases hm : (m : Int) ∈ ks
    · have hp := List.perm_cons_erase hm
      have h1 := sum_nodup f m (ks.erase m) (hn.erase _) (fun k hk => by
        have h2 := h k (List.mem_of_mem_erase hk)
        have h3 : k ≠ (m : Int) := fun e => by
          subst e
          exact (List.Nodup.not_mem_erase hn) hk
        omega)
      have h4 : sumL (fun k => f k.toNat) ks = f m + sumL (fun k => f k.toNat) (ks.erase m) := by
        unfold sumL
        rw [(hp.map _).sum_nat, List.map_cons, List.sum_cons]
        rfl
      omega
    have h1 := sum_nodup f m ks hn (fun k hk => by
      have h2 := h k hk
      have h3 : k ≠ (m : Int) := fun e => hm (e ▸ hk)
      omega)
    omega
theorem signB_len {l : List Nod} (hr : RightN l) {i : Nat} (hi : i < l.length) (j : Nat) : (signB l (txtB l) (kid l[i] j)).length ≤ lenK (txtB l) (kid l[i] j) := by
  unfold signB
  split
  · rename_i hk
    unfold kindAt at hk
    unfold lenK tx nodOf
    cases hg : l[(kid l[i] j).toNat]? with
    | none => rw [hg] at hk; simp at hk
    | some m =>
      rw [hg] at hk
      have hmk : m.kind = 15 := by simpa using hk
      have hlt : (kid l[i] j).toNat < l.length := by
        rcases Nat.lt_or_ge (kid l[i] j).toNat l.length with q | q
        · exact q
        rw [List.getElem?_eq_none q] at hg; cases hg
      have hme : l[(kid l[i] j).toNat] = m := by rw [List.getElem?_eq_getElem hlt] at hg; injection hg
      have hm := hr.node _ m hg
      have h1 : 1 ≤ m.kids.length := by
        have := hm.2.2.1
        rw [hmk] at this
        simpa [kidsOk, Nat.ble_eq] using this
      split
      · rename_i hneg
        have : (kid l[i] j).toNat = 0 := by omega
        rw [this] at hm
        obtain ⟨a, ha⟩ := List.exists_mem_of_length_pos h1
        have := hm.2.2.2 a ha
        omega
      rw [txtB_eq hr hlt, hme]
      show (bareB l (txtB l) m).length ≤ _
      unfold nodeB
      simp only [hmk]
      simp
      omega
  exact Nat.le_refl _
def ownAll (l : List Nod) : Nat := (l.map ownC).sum
theorem sum_flat (f : Int → Nat) : ∀ l : List Nod, (l.map fun n => sumL f n.kids).sum = sumL f (l.flatMap Nod.kids)
  | [] => rfl
  | n :: l => by
    unfold sumL
    rw [List.flatMap_cons, List.map_append, List.sum_append, List.map_cons, List.sum_cons]
    have := sum_flat f l
    unfold sumL at this
    rw [← this]
theorem sum_txt {l : List Nod} (hr : RightN l) : ∀ q, q ≤ l.length → ((List.range q).map fun j => (txtB l j).length).sum ≤ ownAll (l.take q) + ((l.take q).map fun n => sumL (lenK (txtB l)) n.kids).sum
  | 0, _ => Nat.zero_le _
  | q + 1, hq => by
    have h1 := sum_txt hr q HS
    have hi : q < l.length := by omega
    have h2 := nodeB_len l (txtB l) (n := l[q]) (hr.node q l[q] (List.getElem?_eq_getElem hi)).2.2.1 (fun j => signB_len hr hi j)
    rw [← txtB_eq hr hi] at h2
    unfold ownAll at *
    rw [List.range_succ, List.take_succ_eq_append_getElem hi]
    simp only [List.map_append, List.sum_append, List.map_cons, List.map_nil, List.sum_cons, List.sum_nil, Nat.add_zero]
    omega
theorem txtB_len {l : List Nod} (hr : RightN l) {i : Nat} (hi : i < l.length) : (txtB l i).length ≤ ownAll l := by
  have h1 := sum_txt hr (i + 1) HS
  rw [sum_flat] at h1
  have hn : ((l.take (i + 1)).flatMap Nod.kids).Nodup := by
    have := hr.once
    rw [← List.take_append_drop (i + 1) l, List.flatMap_append] at this
    exact (List.nodup_append.1 this).1
  have hb : ∀ k ∈ (l.take (i + 1)).flatMap Nod.kids, 0 ≤ k ∧ k < (i : Int) := fun k hk => by
    obtain ⟨n, hn, hkn⟩ := List.mem_flatMap.1 hk
    obtain ⟨j, hj⟩ := List.mem_iff_getElem?.1 hn
    have hji : j < i + 1 := by
      rcases Nat.lt_or_ge j (i + 1) with q | q
      · exact q
      rw [List.getElem?_take_eq_none q] at hj; cases hj
    rw [List.getElem?_take_of_lt hji] at hj
    have := (hr.node j n hj).2.2.2 k hkn
    omega
  have h2 := sum_nodup (fun j => (txtB l j).length) i _ hn hb
  have h3 : sumL (lenK (txtB l)) ((l.take (i + 1)).flatMap Nod.kids) = sumL (fun k => (txtB l k.toNat).length) ((l.take (i + 1)).flatMap Nod.kids) := by
    unfold sumL
    congr 1
    refine List.map_congr_left fun k hk => ?_
    unfold lenK tx
    rw [if_neg (by have := hb k hk; omega)]
  have h4 : ownAll (l.take (i + 1)) ≤ ownAll l := by
    unfold ownAll
    conv => rhs; rw [← List.take_append_drop (i + 1) l, List.map_append, List.sum_append]
    exact Nat.le_add_right _ _
  rw [List.range_succ, List.map_append, List.sum_append] at h1
  simp only [List.map_cons, List.map_nil, List.sum_cons, List.sum_nil, Nat.add_zero] at h1
  omega
end Go.Sy
