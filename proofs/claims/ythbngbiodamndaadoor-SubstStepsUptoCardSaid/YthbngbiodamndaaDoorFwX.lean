/- A slice of one's own, sorted by the library's sort: the contract as a rule. No program in sight. -/
import Derived.Test.YthbngbiodamndaaDoorFwW
import Derived.Shelf.SlSortCmp.NoneTotal
namespace Go.Sy
open Go Go.RowKit Go.Sort Go.Proofs

theorem get_putCells {F : Array Value} {c : Array Value} {t : Nat} (ht : t < F.size) (hc : t < c.size) : (putCells id 0 F c)[t]? = some F[t]! := by
  unfold putCells
  rw [Array.getElem?_mapIdx, Array.getElem?_eq_getElem hc, Option.map_some, if_pos ⟨Nat.zero_le _, by omega⟩]
  rfl
theorem size_putCells' (F c : Array Value) : (putCells id 0 F c).size = c.size := by unfold putCells; simp
section
variable {P : Program} {W0 : World} {L : List Res} {F : List Fact} {R : Value → List Res → List Fact → Prop}
theorem ACalls.sortK {α : Type} [Inhabited α] (enc : α → List Value) {k : Nat} (hk0 : 0 < k) (hk : ∀ x, (enc x).length = k) (lt : α → α → Bool) {f : FuncId} {fv : Value}
    (hcon : ∀ (blk cap : Nat) (d : Array α) (w : World), HoldsK enc k w blk 0 d → blk < w.heap.size → d.size < 4611686018427387904 →
      Calls P f #[.slice (some ⟨blk, 0, none⟩) d.size cap, fv] w fun e w' => e = .returned (.tuple #[]) ∧ ∃ d' n os, PermIn 0 d.size d d' ∧ SortedIn lt 0 d.size d' ∧ w' = sortWorldK enc k w blk 0 n d' os)
    (hnil : ∀ (w : World), Calls P f #[.slice none 0 0, fv] w fun e w' => e = .returned (.tuple #[]) ∧ w' = w)
    (lst : List α) (hls : lst.length < 4611686018427387904) {i : Nat} {v : Value} {e : TypeId} (hi : L[i]? = some (Res.own v e k (lst.map fun x => (enc x).map D.val)))
    (h : ∀ l2 : List α, l2.Perm lst → l2.Pairwise (fun x y => lt y x = false) → R (.tuple #[]) (L.set i (Res.own v e k (l2.map fun x => (enc x).map D.val))) F) :
    ACalls P W0 f #[v, fv] L F R := by
  intro w s
  obtain ⟨hb, hh, m, sx⟩ := id s
  have hl := has_lt hi
  obtain ⟨h0, hp⟩ : ownP v e k (lst.map fun x => (enc x).map D.val) hh (m i) := sx.res i _ hi
  rcases hp with ⟨rfl, hr, hm0⟩ | ⟨b, cap, cur, rfl, hm, hcap, hmax, hcs, hxx⟩
  · have hl0 : lst = [] := by simpa using hr
    subst hl0
    refine (hnil w).mono fun e' w' ⟨he, hw⟩ => ?_
    subst he hw
    refine ⟨_, _, _, rfl, h [] (List.Perm.refl _) List.Pairwise.nil, ?_⟩
    have : L.set i (Res.own (.slice none 0 0) e k (([] : List α).map fun x => (enc x).map D.val)) = L := by
      have h2 := (List.getElem?_eq_some_iff.1 hi).2
      rw [← h2]; exact List.set_getElem_self _
    rw [this]; exact s
  · have hll : (lst.map fun x => (enc x).map D.val).length = lst.length := List.length_map _
    rw [hll] at hcap
    have hbl := sx.own i b _ hl (by rw [hm]; exact one_self _ _)
    have hbw := hbl.2.1
    have hsz : lst.length * k ≤ cur.size := by rw [hcs]; exact Nat.mul_le_mul_right k hcap
    have hget : ∀ q, q < lst.length → ∀ j, j < k → cur[q * k + j]? = some (enc lst[q]!)[j]! := by
      intro q hq j hj
      obtain ⟨x, hx1, hx2⟩ := hxx q ((enc lst[q]).map D.val) j (.val (enc lst[q])[j]!) (by simp [hq]) (by
        have hjl : j < (enc lst[q]).length := by rw [hk]; exact hj
        simp [hjl])
      cases hx2
      rw [hx1]; simp [hq]
    have hH : HoldsK enc k w b 0 lst.toArray := by
      intro t ht
      have ht' : t < lst.length * k := by simpa using ht
      have hdiv : t / k < lst.length := Nat.div_lt_of_lt_mul (by rw [Nat.mul_comm]; exact ht')
      have hmod : t % k < k := Nat.mod_lt _ hk0
      have e1 := hget _ hdiv _ hmod
      have e2 : t / k * k + t % k = t := by have := Nat.div_add_mod t k; rw [Nat.mul_comm] at this; omega
      rw [e2] at e1
      refine ⟨?_, by simp [World.frozen?, hbw]⟩
      rw [get_flatK _ _ _ _ (by simpa using ht')]
      obtain ⟨cl⟩ := cur
      rw [Nat.zero_add, block_cell hbw]
      simpa using e1
    have hcall := hcon b cap lst.toArray w hH (block_lt hbw) (by simpa using hls)
    rw [hll]
    rw [show lst.toArray.size = lst.length by simp] at hcall
    refine Calls.mono hcall fun e' w' he => ?_
    obtain ⟨he, d', n, os, hperm, hsort, hw⟩ := he
    have hs' : d'.size = lst.length := by simpa using hperm.1
    subst he hw
    have hpl : d'.toList.Perm lst := by
      have := hperm.2.2
      have e1 : d'.extract 0 lst.length = d' := by
        apply Array.ext <;> simp [hs']
      have e2 : lst.toArray.extract 0 lst.length = lst.toArray := by
        apply Array.ext <;> simp
      rw [e1, e2] at this
      simpa using this
    have hsorted : d'.toList.Pairwise (fun x y => lt y x = false) := by
      rw [List.pairwise_iff_getElem]
      intro a c ha hc hac
      have hc' : c < d'.size := by simpa using hc
      have := hsort a c (Nat.zero_le _) hac (by omega)
      rw [getElem!_pos d' c hc', getElem!_pos d' a (by omega)] at this
      simpa using this
    refine ⟨_, _, _, rfl, h d'.toList hpl hsorted, ?_⟩
    have hheap : (sortWorldK enc k w b 0 n d' os).heap = w.heap.modify b (onCells (putCells id 0 (flatK enc k d'))) ++ os := rfl
    have hlt := block_lt hbw
    have hnew : (sortWorldK enc k w b 0 n d' os).heap[b]? = some (.cells (putCells id 0 (flatK enc k d') cur) e (0, 0)) := by
      rw [hheap, Array.getElem?_append_left (by simpa using hlt), Array.getElem?_modify, if_pos rfl, hbw]; rfl
    have st : Step w (sortWorldK enc k w b 0 n d' os) (m i) := by
      refine ⟨rfl, rfl, rfl, by rw [hheap]; simp, fun q hq hmq => ?_⟩
      have hqb : b ≠ q := fun e' => by subst e'; rw [hm, one_self] at hmq; simp at hmq
      rw [hheap, Array.getElem?_append_left (by simpa using hq), Array.getElem?_modify, if_neg hqb]
    refine ⟨Sat.below_of hb st (fun b' O hm' => (sx.own i b' O hl hm').1), hh, _, sx.upd hb.size hl st _ (one b (.cells (putCells id 0 (flatK enc k d') cur) e (0, 0))) ⟨?_, .inr ⟨b, cap, putCells id 0 (flatK enc k d') cur, by simp [hs'], rfl, by simp [hs']; exact hcap, hmax, by rw [size_putCells']; exact hcs, ?_⟩⟩ ?_⟩
    · intro q r hr
      simp only [List.getElem?_map, Option.map_eq_some_iff] at hr
      obtain ⟨x, _, rfl⟩ := hr
      simpa using hk x
    · intro q r j dd hr hj
      simp only [List.getElem?_map, Option.map_eq_some_iff] at hr
      obtain ⟨x, hx, rfl⟩ := hr
      simp only [List.getElem?_map, Option.map_eq_some_iff] at hj
      obtain ⟨u, hu, rfl⟩ := hj
      have hql : q < d'.size := by simpa using has_lt' hx
      have hjk : j < k := by have := has_lt' hu; rw [hk] at this; exact this
      have hpl2 : q * k + j < d'.size * k := by
        have := Nat.mul_le_mul_right k (show q + 1 ≤ d'.size from hql)
        rw [Nat.add_mul, Nat.one_mul] at this; omega
      refine ⟨u, ?_, .val _⟩
      rw [get_putCells (by simpa using hpl2) (by rw [hs'] at hpl2; omega), get_flatK _ _ _ _ hpl2]
      have e1 : (q * k + j) / k = q := by rw [Nat.mul_comm, Nat.mul_add_div (by omega), Nat.div_eq_of_lt hjk]; rfl
      have e2 : (q * k + j) % k = j := by rw [Nat.mul_comm, Nat.mul_add_mod, Nat.mod_eq_of_lt hjk]
      have hx2 : d'[q]! = x := by
        rw [getElem!_pos d' q hql]; have := (List.getElem?_eq_some_iff.1 hx).2; simpa using this
      rw [e1, e2, hx2]
      have := (List.getElem?_eq_some_iff.1 hu)
      obtain ⟨hju, hju2⟩ := this
      rw [getElem!_pos _ j hju, hju2]
    · intro b' O hm'
      obtain ⟨rfl, rfl⟩ := one_some hm'
      exact ⟨.inl (by rw [hm, one_self]; simp), hnew⟩
end
end Go.Sy
