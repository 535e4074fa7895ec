/- Joined of my own texts: FwK, SeU, SeV, SeX, SeO, SeS, SeY. -/
import Derived.Test.YtinolpaapcpijaaGreatDoorP20
import Derived.Sort.EncStr
import Derived.Lib.SlicesCompact
namespace Go.Sy
open Go Go.RowKit Go.Sort Go.Proofs
section
variable {P : Program} {W0 : World} {L : List Res} {F : List Fact} {R : Value → List Res → List Fact → Prop}
theorem ACalls.rowK {α : Type} [Inhabited α] (enc : α → Value) {f : FuncId} (Pr : List α → Prop) (res : Option Addr → List α → Nat → Value) (lst : List α) (hls : lst.length < 4611686018427387904)
    (hcon : ∀ (blk cap : Nat) (w : World), Holds enc w blk 0 lst.toArray → blk < w.heap.size → lst.length ≤ cap →
      Calls P f #[.slice (some ⟨blk, 0, none⟩) lst.length cap] w fun e w' => ∃ l2 z q os, Pr l2 ∧ (l2 ++ z).length = lst.length ∧ e = .returned (res (some ⟨blk, 0, none⟩) l2 cap) ∧ w' = grow (putRow enc (Sort.ahead w q) blk 0 (l2 ++ z).toArray) os)
    (hnil : lst = [] → ∀ (w : World), Calls P f #[.slice none 0 0] w fun e w' => e = .returned (res none [] 0) ∧ w' = w) (hp0 : lst = [] → Pr [])
    {i : Nat} {v : Value} {e : TypeId} (hi : L[i]? = some (Res.own v e 1 (lst.map fun x => [D.val (enc x)])))
    (h : ∀ (l2 : List α) (a : Option Addr) (c : Nat), v = .slice a lst.length c → Pr l2 → R (res a l2 c) (L.set i (Res.own (.slice a l2.length c) e 1 (l2.map fun x => [D.val (enc x)]))) F) :
    ACalls P W0 f #[v] L F R := by
  intro w s
  obtain ⟨hb, hh, m, sx⟩ := id s
  have hl := HC hi
  obtain ⟨h0, hp⟩ : ownP v e 1 (lst.map fun x => [D.val (enc x)]) hh (m i) := sx.res i _ hi
  rcases hp with ⟨rfl, hr, hm0⟩ | ⟨b, cap, cur, rfl, hm, hcap, hmax, hcs, hxx⟩
  · have hl0 : lst = [] := by simpa using hr
    refine (hnil hl0 w).mono fun e' w' ⟨he, hw⟩ => ?_
    subst he hw
    refine ⟨_, _, _, rfl, h [] none 0 (by rw [hl0]; rfl) (hp0 hl0), ?_⟩
    have : L.set i (Res.own (.slice none ([] : List α).length 0) e 1 (([] : List α).map fun x => [D.val (enc x)])) = L := by
      subst hl0
      have h2 := (List.getElem?_eq_some_iff.1 hi).2
      have h3 : Res.own (.slice none ([] : List α).length 0) e 1 (([] : List α).map fun x => [D.val (enc x)]) = L[i] := h2.symm
      rw [h3]; exact List.set_getElem_self _
    rw [this]; exact s
  have hll : (lst.map fun x => [D.val (enc x)]).length = lst.length := List.length_map _
  rw [hll] at hcap
  have hbl := sx.own i b _ hl (by rw [hm]; exact Hb _ _)
  have hbw := hbl.2.1
  rw [Nat.mul_one] at hcs
  have hget : ∀ q (hq : q < lst.length), cur[q]? = some (enc lst[q]) := by
    intro q hq
    obtain ⟨x, hx1, hx2⟩ := hxx q [D.val (enc lst[q])] 0 (.val (enc lst[q])) (by simp [hq]) rfl
    cases hx2
    simpa using hx1
  have hH : Holds enc w b 0 lst.toArray := by
    intro t ht
    have ht' : t < lst.length := by simpa using ht
    refine ⟨?_, by simp [World.frozen?, hbw]⟩
    have e1 := hget t ht'
    obtain ⟨cl⟩ := cur
    rw [Nat.zero_add, block_cell hbw]
    simpa [ht'] using e1
  have hcall := hcon b cap w hH (block_lt hbw) hcap
  rw [hll]
  refine Calls.mono hcall fun e' w' he => ?_
  obtain ⟨l2, z, q, os, hpr, hlen, he, hw⟩ := he
  subst he hw
  have hl2 : l2.length ≤ lst.length := by rw [← hlen]; simp
  refine ⟨_, _, _, rfl, h l2 (some ⟨b, 0, none⟩) cap (by rw [hll]) hpr, ?_⟩
  have hlt := block_lt hbw
  have hheap : (grow (putRow enc (Sort.ahead w q) b 0 (l2 ++ z).toArray) os).heap = w.heap.modify b (onCells (putCells enc 0 (l2 ++ z).toArray)) ++ os := rfl
  have hnew : (grow (putRow enc (Sort.ahead w q) b 0 (l2 ++ z).toArray) os).heap[b]? = some (.cells (putCells enc 0 (l2 ++ z).toArray cur) e (0, 0)) := by
    rw [hheap, Array.getElem?_append_left (by simpa using hlt), Array.getElem?_modify, if_pos rfl, hbw]; rfl
  have st : Step w (grow (putRow enc (Sort.ahead w q) b 0 (l2 ++ z).toArray) os) (m i) := by
    refine ⟨rfl, rfl, rfl, by rw [hheap]; simp, fun k hk hmk => ?_⟩
    have hkb : b ≠ k := fun e' => by subst e'; rw [hm, Hb] at hmk; simp at hmk
    rw [hheap, Array.getElem?_append_left (by simpa using hk), Array.getElem?_modify, if_neg hkb]
  refine ⟨Ho hb st (fun b' O hm' => (sx.own i b' O hl hm').1), hh, _, sx.upd hb.size hl st _ (one b (.cells (putCells enc 0 (l2 ++ z).toArray cur) e (0, 0))) ⟨?_, .inr ⟨b, cap, putCells enc 0 (l2 ++ z).toArray cur, by simp, rfl, by simp; omega, hmax, by unfold putCells; simpa using hcs, ?_⟩⟩ ?_⟩
  · intro k r hr
    simp only [List.getElem?_map, Option.map_eq_some_iff] at hr
    obtain ⟨x, _, rfl⟩ := hr
    rfl
  · intro k r j dd hr hj
    simp only [List.getElem?_map, Option.map_eq_some_iff] at hr
    obtain ⟨x, hx, rfl⟩ := hr
    have hkl : k < l2.length := has_lt' hx
    obtain rfl : j = 0 := by have := has_lt' hj; simp at this; exact this
    injection hj with hj; subst hj
    refine ⟨enc x, ?_, .val _⟩
    unfold putCells
    rw [Nat.mul_one, Nat.add_zero, Array.getElem?_mapIdx, Array.getElem?_eq_getElem HY, Option.map_some, if_pos ⟨Nat.zero_le _, by simp at hlen ⊢; omega⟩]
    have : (l2 ++ z).toArray[k - 0]! = x := by
      rw [getElem!_pos _ _ (by simp; omega)]
      simp [List.getElem_append_left hkl, (List.getElem?_eq_some_iff.1 hx).2]
    rw [this]
  intro b' O hm'
  obtain ⟨rfl, rfl⟩ := HR hm'
  exact ⟨.inl (by rw [hm, Hb]; simp), hnew⟩
end
theorem putL_get : ∀ (vs cs : List Value) (o j : Nat), o + vs.length ≤ cs.length → (putL cs o vs)[j]? = if o ≤ j ∧ j < o + vs.length then vs[j - o]? else cs[j]?
  | [], cs, o, j, _ => by rw [if_neg (by simp)]; rfl
  | v :: vs, cs, o, j, h => by
    simp only [List.length_cons] at h ⊢
    rw [putL, putL_get vs _ _ j (by simp; omega)]
    by_cases c : o = j
    · subst c
      rw [if_neg HY, if_pos HY, List.getElem?_set_self HY]
      simp
    rw [List.getElem?_set_ne c]
    by_cases c2 : o ≤ j ∧ j < o + (vs.length + 1)
    · rw [if_pos c2, if_pos HY, show j - o = (j - (o + 1)) + 1 by omega]; rfl
    rw [if_neg c2, if_neg HY]
section
variable {P : Program} {W0 : World} {n : Nat} {Q : Po} {ρ : Rho} {L : List Res} {F : List Fact} {K : Act → World → Prop}
variable {d : Tmp} {ty t : TypeId} {pos : String} {af : Array Edge} {g : Option (Nat × Bool)}
variable {x y : Operand} {e sz bytes : Nat} {rows : List (List D)} {b k c : Nat}
theorem AO.sliceLO {i q : Nat} {j : Int} {kd : IntKind} {a : Option Addr} (hx : ev ρ x = some (.slice a k c)) (hy : ev ρ y = some (.int kd j)) (hd : Nat.blt d n = true) [ht : SlT P t e sz bytes] (hj : j = (q : Int)) (hi : L[i]? = some (Res.own (.slice a k c) e sz rows)) (hq : q < rows.length)
    (h : ∀ b, a = some ⟨b, 0, none⟩ → k = rows.length → AT W0 n K ((d, .slice (some ⟨b, 0 + q * sz, none⟩) (k - q) (c - q)) :: ρ) L F) : AO P W0 n K ⟨some d, .slice t x (some y) none none, ty, pos, af, g⟩ Q ρ L F := by
  intro a0 w s
  subst hj
  have hk := s.sat.ownLen hi
  obtain ⟨hb, hh, m, sx⟩ := id s.sat
  obtain ⟨_, hp⟩ : ownP (.slice a k c) e sz rows hh (m i) := sx.res i _ hi
  obtain ⟨b, ha, hkc⟩ : ∃ b, a = some ⟨b, 0, none⟩ ∧ k ≤ c := by
    rcases hp with ⟨_, hr, _⟩ | ⟨gg, cap, cur, hv, _, hcap, _⟩
    · rw [hr] at hq; exact absurd hq (by simp)
    injection hv with e1 e2 e3; exact ⟨gg, e1, by omega⟩
  subst ha
  refine HQ (Q := Q) hd (fun s w st => ?_) (h b HV hk) a0 w s
  have hne : ¬ c = q := by omega
  simp only [execOp, GK st.slots hx, Option.map_none, Option.map_some, GK st.slots hy, Sem.run_bind, run_sliceAt_slice (P := P) w t _ _ _ _ SlT.elem, run_slice_any (P := P) w t _ _ c SlT.elem, SlT.size]
  simp [Instr.sliceBounds, Instr.sliceBound, asIntOf, Result.andThen, show q ≤ k by omega, sliced, hne, Addr.add_lit]
theorem AO.sliceHO {i q : Nat} {j : Int} {kd : IntKind} (hx : ev ρ x = some (.slice (some ⟨b, 0, none⟩) k c)) (hy : ev ρ y = some (.int kd j)) (hd : Nat.blt d n = true) [ht : SlT P t e sz bytes] (hj : j = (q : Int)) (hi : L[i]? = some (Res.own (.slice (some ⟨b, 0, none⟩) k c) e sz rows)) (hq : q ≤ rows.length)
    (h : AT W0 n K ((d, .slice (some ⟨b, 0, none⟩) q c) :: ρ) (L.set i (Res.own (.slice (some ⟨b, 0, none⟩) q c) e sz (rows.take q))) F) : AO P W0 n K ⟨some d, .slice t x none (some y) none, ty, pos, af, g⟩ Q ρ L F := by
  intro a0 w s
  subst hj
  have hk := s.sat.ownLen hi
  obtain ⟨hb, hh, m, sx⟩ := id s.sat
  have hl := HC hi
  obtain ⟨h0, hp⟩ : ownP (.slice (some ⟨b, 0, none⟩) k c) e sz rows hh (m i) := sx.res i _ hi
  rcases hp with ⟨hv, _⟩ | ⟨gg, cap, cur, hv, hm, hcap, hmax, hcs, hxx⟩
  · simp at hv
  injection hv with e1 e2 e3
  injection e1 with e1
  injection e1 with e1
  subst e1 e2 e3
  have hr : (execOp a0.eval ⟨some d, .slice t x none (some y) none, ty, pos, af, g⟩).run P w = .ok (.value (.slice (some ⟨b, 0, none⟩) q c)) w := by
    have := run_slice_h (P := P) w t (some ⟨b, 0, none⟩) rows.length c SlT.elem kd q HY HY
    simp only [execOp, GK s.slots hx, Option.map_none, Option.map_some, GK s.slots hy, Sem.run_bind, run_sliceAt_slice (P := P) w t _ _ _ _ SlT.elem, this, SlT.size]
    simp [Result.andThen, sliced, Addr.add_lit]
  refine ⟨HA hr (fun _ e => by cases e), ?_⟩
  simp only [hr, owR]
  have st : Step w w (m i) := ⟨rfl, rfl, rfl, Nat.le_refl _, fun _ _ _ => rfl⟩
  have hbl := sx.own i b _ hl (by rw [hm]; exact Hb _ _)
  refine h _ _ ⟨s.slots.put (Nat.le_of_ble_eq_true hd) _, hb, hh, _, sx.upd hb.size hl st _ (one b (.cells cur e (0, 0))) ⟨?_, .inr ⟨b, c, cur, by simp [hq], rfl, by simp; omega, hmax, hcs, ?_⟩⟩ ?_⟩
  · intro u r hu
    rw [List.getElem?_take] at hu
    split at hu
    · exact h0 u r hu
    cases hu
  · intro u r v dd hu hv
    rw [List.getElem?_take] at hu
    split at hu
    · exact hxx u r v dd hu hv
    cases hu
  intro b' O hm'
  obtain ⟨rfl, rfl⟩ := HR hm'
  exact ⟨.inl (by rw [hm, Hb]; simp), hbl.2.1⟩
theorem AO.clearO {i q m0 c0 : Nat} {z : Value} (hx : ev ρ x = some (.slice (some ⟨b, 0 + q * 1, none⟩) m0 c0)) [ht : SlT P t e 1 bytes] [hz : ZeT P e z] (h1 : oneC z = true) (hi : L[i]? = some (Res.own (.slice (some ⟨b, 0, none⟩) k c) e 1 rows)) (hm0 : m0 = rows.length - q) (hq : q < rows.length)
    (h : AT W0 n K ρ (L.set i (Res.own (.slice (some ⟨b, 0, none⟩) k c) e 1 (rows.take q ++ List.replicate (rows.length - q) [.val z]))) F) : AO P W0 n K ⟨none, .call ⟨.builtin .clear, #[x], #[t]⟩, ty, pos, af, g⟩ Q ρ L F := by
  intro a0 w s
  subst hm0
  have hk := s.sat.ownLen hi
  obtain ⟨hb, hh, m, sx⟩ := id s.sat
  have hl := HC hi
  obtain ⟨h0, hp⟩ : ownP (.slice (some ⟨b, 0, none⟩) k c) e 1 rows hh (m i) := sx.res i _ hi
  rcases hp with ⟨hv, _⟩ | ⟨gg, cap, cur, hv, hm, hcap, hmax, hcs, hxx⟩
  · simp at hv
  injection hv with e1 e2 e3
  injection e1 with e1
  injection e1 with e1
  subst e1 e2 e3
  have hbl := sx.own i b _ hl (by rw [hm]; exact Hb _ _)
  obtain ⟨cs, hcs'⟩ : ∃ cs : List Value, cur = cs.toArray := ⟨cur.toList, by simp⟩
  subst hcs'
  have hlen : cs.length = c := by simpa using hcs
  obtain ⟨w', f0, f1, f2, f3, f4, f5, f6⟩ := run_storeCells (P := P) (List.replicate (rows.length - q) z) cs (0 + q * 1) 0 w hbl.2.1 (by simp; omega) (fun u hu => by rw [List.eq_of_mem_replicate hu]; exact h1)
  have hr : (execOp a0.eval ⟨none, .call ⟨.builtin .clear, #[x], #[t]⟩, ty, pos, af, g⟩).run P w = .ok (.value (.tuple #[])) w' := by
    have hzc : (Builtin.zeroCells z.cells (rows.length - q)).toList = List.replicate (rows.length - q) z := by
      rw [oneC_cells h1]
      simp [Builtin.zeroCells]
      apply List.ext_getElem
      · simp
      intro i h1 h2; simp [Nat.mod_one]
    obtain ⟨u, hu⟩ : ∃ u, rows.length - q = u + 1 := ⟨rows.length - q - 1, by omega⟩
    rw [hu] at hzc f0
    simp only [Nat.zero_add, Nat.mul_one] at f0
    rw [hu] at hx
    simp [execOp, resolve, invoke, builtin, GK s.slots hx, Builtin.clear_, run_underlying ht.und, hz.zero, hzc, f0, Result.andThen]
  refine ⟨HA hr (fun _ e => by cases e), ?_⟩
  simp only [hr, owR]
  have st : Step w w' (m i) := ⟨f4, f5, f6, by omega, fun k _ hk => f2 k (fun e' => by subst e'; rw [hm, Hb] at hk; simp at hk)⟩
  have f1' : w'.heap[b]? = some (.cells (putL cs q (List.replicate (rows.length - q) z)).toArray e (0, 0)) := by simpa using f1
  have hpl : rows.length - q + q = rows.length := by omega
  refine h _ _ ⟨s.slots, Ho hb st (fun b' O hm' => (sx.own i b' O hl hm').1), hh, _, sx.upd hb.size hl st _ (one b (.cells (putL cs q (List.replicate (rows.length - q) z)).toArray e (0, 0))) ⟨?_, .inr ⟨b, c, (putL cs q (List.replicate (rows.length - q) z)).toArray, by simp; omega, rfl, by simp; omega, hmax, by simp [putL_length, hlen], ?_⟩⟩ ?_⟩
  · intro j r hj
    by_cases c1 : j < q
    · rw [List.getElem?_append_left (by simp; omega), List.getElem?_take_of_lt c1] at hj
      exact h0 j r hj
    rw [List.getElem?_append_right (by simp; omega)] at hj
    rw [List.eq_of_mem_replicate (List.mem_of_getElem? hj)]; rfl
  · intro j r u dd hj hu
    simp only [List.getElem?_toArray, Nat.mul_one]
    by_cases c1 : j < q
    · rw [List.getElem?_append_left (by simp; omega), List.getElem?_take_of_lt c1] at hj
      obtain ⟨x1, hx1, hx2⟩ := hxx j r u dd hj hu
      have hu0 : u = 0 := by have := (List.getElem?_eq_some_iff.1 hu).1; have := h0 j r hj; omega
      subst hu0
      refine ⟨x1, ?_, hx2⟩
      rw [putL_get _ _ _ _ (by simp; omega), if_neg HY]
      simpa using hx1
    have hjl : j < rows.length := by
      have := (List.getElem?_eq_some_iff.1 hj).1
      simp at this; omega
    rw [List.getElem?_append_right (by simp; omega)] at hj
    have hr := List.eq_of_mem_replicate (List.mem_of_getElem? hj)
    subst hr
    have hu0 : u = 0 := by have := (List.getElem?_eq_some_iff.1 hu).1; simpa using this
    subst hu0
    injection hu with hu; subst hu
    refine ⟨z, ?_, .val _⟩
    rw [Nat.add_zero, putL_get _ _ _ _ (by simp; omega), if_pos (by simp; omega), List.getElem?_replicate, if_pos HY]
  intro b' O hm'
  obtain ⟨rfl, rfl⟩ := HR hm'
  exact ⟨.inl (by rw [hm, Hb]; simp), f1'⟩
theorem AO.fieldV {i off : Nat} {t1 : TypeId} {fs : Array Field} {f : Field} {cs : List Value} {v : Value} (hu : P.underlying t = some (.struct fs)) (hf : fs[i]? = some f) (he : f.type = t1) (ho : f.offset = off) [ht : ScT P t1] (hx : ev ρ x = some (.agg cs.toArray)) (hv : cs[off]? = some v) (hd : Nat.blt d n = true)
    (h : AT W0 n K ((d, v) :: ρ) L F) : AO P W0 n K ⟨some d, .field t x i, ty, pos, af, g⟩ Q ρ L F := by
  subst he ho
  exact HQ hd (fun a w s => by simp [execOp, GK s.slots hx, Instr.field, run_underlying hu, hf, part, asAgg, ht.agg, hv, Result.andThen]) h
end
end Go.Sy
namespace Go.Sy
open Go Go.Proofs Go.RowKit
theorem Sub.eqIn {A B : List Res} {x y : Res} {F : List Fact} (h : x = y) : Sub (A ++ x :: B) F (A ++ y :: B) F := by subst h; exact Gc _ _
def keptW (p : List UInt8 → Bool) (l : List (List UInt8)) (j : Nat) : List (List UInt8) := (l.take j).filter fun s => !p s
theorem kept_next (p : List UInt8 → Bool) {l : List (List UInt8)} {j : Nat} (hj : j < l.length) : keptW p l (j + 1) = keptW p l j ++ if p l[j] = true then [] else [l[j]] := by
  unfold keptW
  rw [List.take_succ_eq_append_getElem hj, List.filter_append]
  cases h : p l[j] <;> simp [h]
theorem kept_lt {p : List UInt8 → Bool} {l : List (List UInt8)} {n j : Nat} (hn : n < l.length) (hp : p l[n] = true) (hnj : n < j) (hj : j ≤ l.length) : (keptW p l j).length < j := by
  unfold keptW
  have h1 : ((l.take j).filter fun s => !p s).length < (l.take j).length := by
    rw [List.length_filter_lt_length_iff_exists]
    exact ⟨l[n], List.mem_take_iff_getElem.2 ⟨n, by omega, rfl⟩, by simp [hp]⟩
  rw [List.length_take] at h1
  omega
theorem kept_all {p : List UInt8 → Bool} {l : List (List UInt8)} {n : Nat} (h : ∀ x ∈ l.take n, p x = false) : keptW p l n = l.take n := by
  unfold keptW
  exact List.filter_eq_self.2 fun x hx => by rw [h x hx]; rfl
abbrev rowsD (p : List UInt8 → Bool) (l : List (List UInt8)) (j : Nat) : List (List UInt8) := keptW p l j ++ l.drop (keptW p l j).length
theorem rowsD_len {p : List UInt8 → Bool} {l : List (List UInt8)} {j : Nat} (hj : j ≤ l.length) : (rowsD p l j).length = l.length := by
  have : (keptW p l j).length ≤ j := by unfold keptW; have := List.length_filter_le (fun s => !p s) (l.take j); simp at this; omega
  simp only [rowsD, List.length_append, List.length_drop]; omega
theorem rowsD_get {p : List UInt8 → Bool} {l : List (List UInt8)} {j : Nat} (hj : j < l.length) (hk : (keptW p l j).length ≤ j) : ((rowsD p l j).map eS)[j]? = some (eS l[j]) := by
  rw [List.getElem?_map, List.getElem?_append_right hk, List.getElem?_drop, show (keptW p l j).length + (j - (keptW p l j).length) = j by omega, List.getElem?_eq_getElem hj]; rfl
theorem rowsD_set {p : List UInt8 → Bool} {l : List (List UInt8)} {j : Nat} (hj : j < l.length) (hk : (keptW p l j).length < j) (hp : p l[j] = false) : ((rowsD p l j).map eS).set (keptW p l j).length (eS l[j]) = (rowsD p l (j + 1)).map eS := by
  have h1 : keptW p l (j + 1) = keptW p l j ++ [l[j]] := by rw [kept_next p hj, hp]; rfl
  rw [← List.map_set]
  congr 1
  simp only [rowsD, h1, List.length_append, List.length_singleton]
  rw [List.set_append_right _ _ (Nat.le_refl _), Nat.sub_self, List.drop_eq_getElem_cons (show (keptW p l j).length < l.length by omega), List.set_cons_zero, List.append_assoc]; rfl
attribute [local irreducible] AC AT AO AK AH ACalls Sub Res.cells Res.obj Res.nix Res.own Res.map Exit.then Exit.inBlock bodyPost Code.wp Code.wpIn WL Next Post Kont
section
variable {W0 : World} {L : List Res} {F : List Fact} {R : Value → List Res → List Fact → Prop}
set_option maxRecDepth 100000
set_option maxHeartbeats 16000000
theorem indexW_c (p : List UInt8 → Bool) (l : List (List UInt8)) (hl : l.length ≤ 1000000) {f : FuncId} [hf : FnT Tryz.prog f] {cs : List Value} {a : Option Addr} {k c : Nat}
    (hp : ∀ s {R' : Value → List Res → List Fact → Prop}, R' (.bool (p s)) (Res.own (.slice a k c) 9 1 (l.map eS) :: L) F → ACalls Tryz.prog W0 f (S s :: cs).toArray (Res.own (.slice a k c) 9 1 (l.map eS) :: L) F R')
    (h : ∀ r : Int, (r = -1 ∧ ∀ x ∈ l, p x = false) ∨ (∃ n : Nat, ∃ hn : n < l.length, r = n ∧ p l[n] = true ∧ ∀ x ∈ l.take n, p x = false) → R (.int .i64 r) (Res.own (.slice a k c) 9 1 (l.map eS) :: L) F) :
    ACalls Tryz.prog W0 156 #[.slice a k c, .func (.func f) #[] cs.toArray] (Res.own (.slice a k c) 9 1 (l.map eS) :: L) F R := by
  refine Gh Tryz.func156 HV Tryz.ntmps156 HV ?_
  refine qs 9 ?_
  refine Ga (AO.lenO HV HV (i := 0) HV (fun hk7 => ?_))
  rw [List.length_map]
  refine qs 4 ?_
  refine Gz (fun (v : Nat) => v ≤ l.length ∧ ∀ x ∈ l.take v, p x = false) (fun v => [(0, .slice a k c), (1, .func (.func f) #[] cs.toArray), (6, .slice a k c), (7, .int .i64 l.length), (8, .int .i64 (v : Int))]) (fun _ => _) (fun _ => _) (fun v => l.length - v) 0 ⟨Nat.zero_le _, by simp⟩ srA (Gc _ _) ?_
  rintro v ⟨hv, hall⟩
  refine qs 2 ?_
  refine Ga (Gu HV HV HV (fun c9 => ?_) (fun c9 => ?_))
  ·refine qs 19 ?_
   have hvl : v < l.length := by omega
   refine Ga (GU HV HV HV HV (i := 0) HV (by rw [List.length_map]; exact hvl) (fun b14 hb14 => ?_))
   subst hb14
   refine Ga (AO.loadO (v := S l[v]) HV HV HV (i := 0) HV (by rw [List.getElem?_map, List.getElem?_eq_getElem hvl]; rfl) ?_)
   refine Ga (AO.callC (cs := cs) HV HV HV (hp _ ?_))
   refine qs 2 ?_
   refine AC.cond HV (fun c16 => ?_) (fun c16 => ?_)
   ·refine qs 12 ?_
    exact Gb Tryz.results156 rfl (Gc _ _) (h v (.inr ⟨v, hvl, rfl, c16, hall⟩))
   refine qs 7 ?_
   exact Gi (v + 1) ⟨hvl, fun x hx => by
    rw [List.take_succ_eq_append_getElem hvl] at hx
    rcases List.mem_append.1 hx with hx | hx
    · exact hall x hx
    rw [List.mem_singleton.1 hx]; exact c16⟩ HY srA (Gc _ _)
  refine qs 15 ?_
  obtain rfl : v = l.length := by omega
  exact Gb Tryz.results156 rfl (Gc _ _) (h (-1) (.inl ⟨rfl, by rwa [List.take_length] at hall⟩))
theorem deleteW_c (p : List UInt8 → Bool) (l : List (List UInt8)) (hl : l.length ≤ 1000000) {f : FuncId} [hf : FnT Tryz.prog f] {cs : List Value} {a : Option Addr} {k c : Nat}
    (hp : ∀ (l' : List (List UInt8)) s {R' : Value → List Res → List Fact → Prop}, R' (.bool (p s)) (Res.own (.slice a k c) 9 1 (l'.map eS) :: L) F → ACalls Tryz.prog W0 f (S s :: cs).toArray (Res.own (.slice a k c) 9 1 (l'.map eS) :: L) F R')
    (h : ∀ a k c, R (.slice a k c) (Res.own (.slice a k c) 9 1 ((l.filter fun s => !p s).map eS) :: L) F) :
    ACalls Tryz.prog W0 95 #[.slice a k c, .func (.func f) #[] cs.toArray] (Res.own (.slice a k c) 9 1 (l.map eS) :: L) F R := by
  refine Gh Tryz.func95 HV Tryz.ntmps95 HV ?_
  refine qs 9 ?_
  refine Ga (Gf HV HV (indexW_c p l hl (hp l) (fun r hr => ?_)))
  refine qs 7 ?_
  refine Ga (Gr HV HV HV (fun c12 => ?_) (fun c12 => ?_))
  ·refine qs 11 ?_
   have hall : ∀ x ∈ l, p x = false := by
    rcases hr with ⟨_, h⟩ | ⟨n, hn, e, _⟩
    · exact h
    omega
   refine Gb Tryz.results95 HV (Gc _ _) ?_
   have hfl : (l.filter fun s => !p s) = l := List.filter_eq_self.2 fun x hx => by rw [hall x hx]; rfl
   have h9 := h a k c
   rwa [hfl] at h9
  refine qs 9 ?_
  obtain ⟨n, hn, rfl, hpn, hall⟩ : ∃ n : Nat, ∃ hn : n < l.length, r = n ∧ p l[n] = true ∧ ∀ x ∈ l.take n, p x = false := hr.resolve_left fun e => c12 e.1
  have hk0 : keptW p l (n + 1) = l.take n := by rw [kept_next p hn, hpn, if_pos rfl, List.append_nil, kept_all hall]
  refine Ga (AO.add HV HV HV HY HY ?_)
  refine qs 4 ?_
  refine Gz (fun (j : Nat) => n < j ∧ j ≤ l.length) (fun j => [(0, .slice a k c), (1, .func (.func f) #[] cs.toArray), (5, .int .i64 ((keptW p l j).length : Int)), (6, .int .i64 (j : Int))]) (fun j => Res.own (.slice a k c) 9 1 ((rowsD p l j).map eS) :: L) (fun _ => _) (fun j => l.length - j) (n + 1) ⟨by omega, hn⟩ (by rw [hk0, List.length_take, Nat.min_eq_left HY]; exact srA) (Hi (by rw [rowsD, hk0, List.length_take, Nat.min_eq_left HY, List.take_append_drop])) ?_
  rintro j ⟨hnj, hj⟩
  have hkl := kept_lt hn hpn hnj hj
  refine qs 5 ?_
  refine Ga (AO.lenO HV HV (i := 0) HV (fun hk18 => ?_))
  rw [List.length_map, rowsD_len hj]
  refine Ga (Gu HV HV HV (fun c19 => ?_) (fun c19 => ?_))
  ·refine qs 11 ?_
   have hjl : j < l.length := by omega
   refine Ga (GU HV HV HV HV (i := 0) HV (by rw [List.length_map, rowsD_len hj]; exact hjl) (fun b24 hb24 => ?_))
   subst hb24
   refine Ga (AO.loadO (v := S l[j]) HV HV HV (i := 0) HV (rowsD_get hjl HY) ?_)
   refine qs 7 ?_
   refine Ga (AO.callC (cs := cs) HV HV HV (hp _ _ ?_))
   refine qs 3 ?_
   refine AC.cond HV (fun c29 => ?_) (fun c29 => ?_)
   ·refine qs 5 ?_
    refine Ga (GU HV HV HV HV (i := 0) HV (by rw [List.length_map, rowsD_len hj]; omega) (fun b33 hb33 => ?_))
    cases hb33
    have c29' : p l[j] = false := by simpa using c29
    refine Ga (AO.storeO (q := (keptW p l j).length) HV HV HV HV (i := 0) HV (by rw [List.length_map, rowsD_len hj]; omega) ?_)
    have hset := rowsD_set hjl hkl c29'
    have hkn : (keptW p l (j + 1)).length = (keptW p l j).length + 1 := by rw [kept_next p hjl, c29']; simp
    refine qs 14 ?_
    exact Gi (j + 1) ⟨by omega, hjl⟩ HY (by rw [hkn]; exact srA) (Hi (by rw [← hset]; rfl))
   refine qs 8 ?_
   have c29' : p l[j] = true := by simpa using c29
   have hkn : keptW p l (j + 1) = keptW p l j := by rw [kept_next p hjl, c29']; simp
   exact Gi (j + 1) ⟨by omega, hjl⟩ HY (by rw [hkn]; exact srA) (Hi (by simp only [rowsD, hkn]))
  refine qs 12 ?_
  obtain rfl : j = l.length := by omega
  refine Ga (AO.sliceLO (q := (keptW p l l.length).length) HV HV HV HV (i := 0) HV (by rw [List.length_map, rowsD_len (Nat.le_refl _)]; exact hkl) (fun b38 hb38 hk38 => ?_))
  subst hb38
  refine Ga (AO.clearO HV HV (i := 0) HV (by rw [hk38]) (by rw [List.length_map, rowsD_len (Nat.le_refl _)]; exact hkl) ?_)
  refine qs 6 ?_
  refine Ga (AO.sliceHO (q := (keptW p l l.length).length) HV HV HV HV (i := 0) HV (by simp) ?_)
  refine qs 4 ?_
  refine Gb Tryz.results95 HV (Gc _ _) ?_
  have hfl : (l.filter fun s => !p s) = keptW p l l.length := by unfold keptW; rw [List.take_length]
  have h9 := h (some ⟨b38, 0, none⟩) (keptW p l l.length).length c
  rw [hfl] at h9
  have hrw : (((rowsD p l l.length).map eS).take (keptW p l l.length).length ++ List.replicate (((rowsD p l l.length).map eS).length - (keptW p l l.length).length) [D.val (S [])]).take (keptW p l l.length).length = (keptW p l l.length).map eS := by
   rw [List.map_append, List.take_left' (by simp), List.take_left' (by simp)]
  rw [← hrw] at h9
  exact h9
end
end Go.Sy
namespace Go.Sy
open Go Go.Proofs Go.RowKit
def sortedW (l : List (List UInt8)) : List (List UInt8) := l.mergeSort fun x y => decide (x ≤ y)
theorem sortedW_len (l : List (List UInt8)) : (sortedW l).length = l.length := by unfold sortedW; exact List.length_mergeSort _
theorem sortedW_mem (l : List (List UInt8)) (x : List UInt8) : x ∈ sortedW l ↔ x ∈ l := by unfold sortedW; exact List.mem_mergeSort
theorem sortedW_up (l : List (List UInt8)) : (sortedW l).Pairwise fun x y => ¬ y < x := by
  have h := List.pairwise_mergeSort (le := fun x y : List UInt8 => decide (x ≤ y)) (fun a b c h1 h2 => by
    simp only [decide_eq_true_eq] at h1 h2 ⊢; exact List.le_trans h1 h2) (fun a b => by
    simp only [Bool.or_eq_true, decide_eq_true_eq]; exact List.le_total a b) l
  exact h.imp fun {x y} h => by
    have h' : x ≤ y := of_decide_eq_true h
    exact List.not_lt.2 h'
noncomputable def oddN (N : List Nmd) (T : List Ty) (i : Int) (s : List UInt8) : Bool := if s = [95] then true else match findR N T i s with | .error _ => true | .ok _ => false
theorem oddN_pick {N : List Nmd} {T : List Ty} {i : Int} {s : List UInt8} : (!oddN N T i s) = true ↔ pickN N T i s := by
  unfold oddN pickN
  by_cases c : s = [95]
  · simp [c]
  rw [if_neg c]
  cases h : findR N T i s with
  | error e => simp
  | ok x => simp [c]
theorem names_is (N : List Nmd) (T : List Ty) (i : Int) : namesP N T i ((Lib.compact (sortedW (allN N T i))).filter fun s => !oddN N T i s) := by
  obtain ⟨h1, h2, _⟩ := compact_rising (sortedW_up (allN N T i)) _ (Nat.le_refl _)
  refine ⟨List.Pairwise.filter _ h1, fun x => ?_⟩
  rw [List.mem_filter, oddN_pick]
  unfold Lib.compact
  rw [h2, List.take_length, sortedW_mem]
theorem compact_len (l : List (List UInt8)) : (Lib.compact l).length ≤ l.length := by
  unfold Lib.compact Lib.compactUpTo
  rw [List.length_map]
  exact Nat.le_trans (List.length_filter_le _ _) (by simp)
theorem namesW_len {T : List Ty} (hr : rightP T) {w : Wht} (h : whP T w) : (namesW T w).length ≤ 40 := by
  obtain ⟨hn, e⟩ := Hz h.1 h.2.1
  have h1 := (Hu hr _ (List.getElem_mem hn)).words
  have h2 := h.2.2
  unfold namesW
  rw [List.length_append, List.length_map]
  split
  · rw [List.length_map, e]; omega
  simp; omega
theorem wordsN_len {T : List Ty} (hr : rightP T) : ∀ {ws : List Wht}, (∀ w ∈ ws, whP T w) → (wordsN T ws).length ≤ ws.length * 40
  | [], _ => by simp [wordsN]
  | w :: ws, h => by
    have h1 := namesW_len hr (h w (.head _))
    have h2 := wordsN_len hr fun w hw => h w (.tail _ hw)
    unfold wordsN at h2 ⊢
    rw [List.flatMap_cons, List.length_append, List.length_cons]; omega
theorem docW_len {N : List Nmd} : ∀ (n p : Nat) (r : Except Int (List Ty × List Ent × List Wht × List Int)), (∀ T lev ws seen, r = .ok (T, lev, ws, seen) → DocOk N p T lev ws seen) → (docW N n r).length ≤ n * 16000
  | 0, _, _, _ => by simp [docW]
  | n + 1, p, .error _, _ => by simp [docW]
  | n + 1, p, .ok (T, lev, ws, seen), h => by
    have hd := h _ _ _ _ rfl
    have h1 := wordsN_len hd.right.1 hd.wh
    have h2 := hd.lv.few
    have h3 := hd.right.1.2.1
    have h4 := hd.ln
    have h5 := docW_len n (p + 1) (docL N T (nextL T lev ws seen) (seen ++ typs (nextL T lev ws seen))) fun _ _ _ _ e => docNext_is hd e
    simp only [docW, List.length_append]
    omega
theorem allN_len {T : List Ty} {N : List Nmd} (hu : rightU T N) {i : Int} (h0 : 0 ≤ i) (hi : i < T.length) : (allN N T i).length ≤ 112000 := by
  have := docW_len 7 0 (docFirst N T i) fun _ _ _ _ e => docFirst_is hu h0 hi e
  unfold allN; omega
theorem words_next {T : List Ty} {ws : List Wht} {v : Nat} (hv : v < ws.length) : wordsN T (ws.take (v + 1)) = wordsN T (ws.take v) ++ namesW T ws[v] := by
  unfold wordsN
  rw [List.take_succ_eq_append_getElem hv, List.flatMap_append]; simp
theorem pre_len {T : List Ty} (hr : rightP T) {ws : List Wht} (h : ∀ w ∈ ws, whP T w) (v : Nat) : (wordsN T (ws.take v)).length ≤ v * 40 := by
  have h1 := wordsN_len hr (ws := ws.take v) fun w hw => h w (List.mem_of_mem_take hw)
  have : (ws.take v).length ≤ v := by simp; omega
  omega
attribute [local irreducible] AC AT AO AK AH ACalls Sub Res.cells Res.obj Res.nix Res.own Res.map Exit.then Exit.inBlock bodyPost bodyPostM roundPost Begin AYields Code.wp Code.wpIn WL Next Post Kont
section
variable {W0 : World} {L : List Res} {F : List Fact} {R : Value → List Res → List Fact → Prop}
set_option maxRecDepth 100000
set_option maxHeartbeats 16000000
theorem sortW_c (l : List (List UInt8)) (hl : l.length ≤ 1000000) {i : Nat} {a : Option Addr} {k c : Nat} (hi : L[i]? = some (Res.own (.slice a k c) 9 1 (l.map eS))) (h : R (.tuple #[]) (L.set i (Res.own (.slice a k c) 9 1 ((sortedW l).map eS))) F) :
    ACalls Tryz.prog W0 93 #[.slice a k c] L F R := by
  refine ACalls.rowK encStr (fun l2 => l2 = sortedW l) (fun _ _ _ => .tuple #[]) l HY (fun blk cap w hH hb hc => ?_) (fun e w => Tryz.slices_Sort_string_none none 0 w) (fun e => by subst e; unfold sortedW; simp) hi (fun l2 a' c' hv hp => ?_)
  · refine (Tryz.slices_Sort_string blk 0 cap l w hH hb HY).mono fun e w' ⟨he, n, os, hw⟩ => ⟨sortedW l, [], n, os, rfl, by rw [List.append_nil, sortedW_len], he, ?_⟩
    rw [List.append_nil]; exact hw
  subst hp
  injection hv with e1 e2 e3
  subst e1 e2 e3
  rw [sortedW_len]
  exact h
theorem compactW_c (l : List (List UInt8)) (hl : l.length ≤ 1000000) {i : Nat} {a : Option Addr} {k c : Nat} (hi : L[i]? = some (Res.own (.slice a k c) 9 1 (l.map eS))) (h : ∀ a k c, R (.slice a k c) (L.set i (Res.own (.slice a k c) 9 1 ((Lib.compact l).map eS))) F) :
    ACalls Tryz.prog W0 96 #[.slice a k c] L F R := by
  refine ACalls.rowK encStr (fun l2 => l2 = Lib.compact l) (fun a l2 c => .slice a l2.length c) l HY (fun blk cap w hH hb hc => ?_) (fun e w => Tryz.slices_Compact_string_empty none 0 w) (fun e => by subst e; rfl) hi (fun l2 a' c' hv hp => ?_)
  · refine (Tryz.slices_Compact_string blk 0 cap l w hH HY hc).mono fun e w' ⟨he, q, hw⟩ => ⟨Lib.compact l, List.replicate (l.length - (Lib.compact l).length) [], q, #[], rfl, by have := compact_len l; simp; omega, he, ?_⟩
    rw [Sort.grow_empty]; exact hw
  subst hp
  exact h _ _ _
theorem odd_c (g : Glob W0) (T : List Ty) (N : List Nmd) (hno : ∀ n ∈ N, NmOk n) (hu : rightU T N) (i : Int) (h0 : 0 ≤ i) (hi : i < T.length) (s : List UInt8) {a a2 : Option Addr} {k c k2 c2 b2 b3 i2 i3 : Nat} (H2 : L[i2]? = some (Res.cells b2 #[.slice a k c, .slice a2 k2 c2] 25)) (H3 : L[i3]? = some (Res.cells b3 #[.int .i64 i] 3)) (mL : fL T a k c ∈ F) (mN : fN N a2 k2 c2 ∈ F) (mE : Fact.slc (.slice none 0 0) 5 [] ∈ F) (mM : Fact.slc (.slice none 0 0) 3 [] ∈ F)
    (h : R (.bool (oddN N T i s)) L F) : ACalls Tryz.prog W0 94 #[S s, .pointer (some ⟨b2, 0, none⟩), .pointer (some ⟨b3, 0, none⟩)] L F R := by
  refine Gh Tryz.func94 HV Tryz.ntmps94 HV ?_
  refine qs 9 ?_
  refine Ga (Hp HV HV HV (fun c9 => ?_) (fun c9 => ?_))
  ·refine qs 10 ?_
   exact Gb (L' := L) (F' := F) Tryz.results94 rfl (Gc _ _) (by unfold oddN at h; rwa [if_pos c9] at h)
  refine qs 7 ?_
  refine Ga (HG HV HV ?_ (hi := H2))
  refine Ga (GR HV HV ?_ (hi := H3))
  refine qs 1 ?_
  refine Ga (Gf HV HV (sfind_c g T N hno hu i h0 hi s memA memA memA memA (fun e he hx => ?_) (fun o x a14 k14 z14 a15 k15 z15 hx => ?_)))
  ·refine qs 4 ?_
   refine Ga (Gl HV (fun b5 => (Ga (Gl HV (fun b6 => ?_)))))
   refine qs 8 ?_
   refine Ga (GL HV HV HV (fun c19 => ?_) (fun c19 => ?_))
   ·refine qs 4 ?_
    exact Gb (L' := L) (F' := F) Tryz.results94 rfl subA (by unfold oddN at h; rwa [if_neg c9, hx] at h)
   refine qs 4 ?_
   exact absurd c19 he
  refine qs 4 ?_
  refine Ga (Gl HV (fun b5 => (Ga (Gl HV (fun b6 => ?_)))))
  refine qs 8 ?_
  refine Ga (GL HV HV HV (fun c19 => ?_) (fun c19 => ?_))
  ·refine qs 4 ?_
   exact absurd rfl c19
  refine qs 4 ?_
  exact Gb (L' := L) (F' := F) Tryz.results94 rfl subA (by unfold oddN at h; rwa [if_neg c9, hx] at h)
theorem sNames_c (g : Glob W0) (T : List Ty) (N : List Nmd) (hok : ∀ t ∈ T, TyOk t) (hno : ∀ n ∈ N, NmOk n) (i : Int) {a a2 : Option Addr} {k c k2 c2 : Nat} (mL : fL T a k c ∈ F) (mN : fN N a2 k2 c2 ∈ F) (mE : Fact.slc (.slice none 0 0) 5 [] ∈ F) (mM : Fact.slc (.slice none 0 0) 3 [] ∈ F)
    (hB : ∀ e, e ≠ 0 → (¬ rightU T N ∧ e = 1) ∨ (rightU T N ∧ ¬(0 ≤ i ∧ i < T.length) ∧ e = 8) → R (.tuple #[.slice none 0 0, .int .i64 e]) L F)
    (hO : rightU T N → 0 ≤ i → i < T.length → ∀ l a k c, namesP N T i l → l.length ≤ 112000 → R (.tuple #[.slice a k c, .int .i64 0]) L (fS l a k c :: F)) :
    ACalls Tryz.prog W0 38 #[.agg #[.slice a k c, .slice a2 k2 c2], .int .i64 i] L F R := by
  have hml : 1000000 ≤ maxLen := by decide
  refine ACalls.bodyM Tryz.func38 HV Tryz.ntmps38 HV ?_
  refine qs 2 ?_
  refine Ga (GO HV HV (fun b2 => (Ga (GO HV HV (fun b3 => ?_)))))
  refine qs 9 ?_
  refine Ga (Gf HV HV (sthere_c g T N hok hno i memA memA (fun e he => ?_) (fun c21 d21 => ?_)))
  ·refine qs 6 ?_
   have he0 : e ≠ 0 := by rcases he with ⟨_, h⟩ | ⟨_, _, h⟩ <;> omega
   refine Ga (GL HV HV HV (fun _ => ?_) (fun c23 => absurd c23 he0))
   refine qs 12 ?_
   exact AK.unmark0 (HM (L' := L) (F' := F) Tryz.results38 rfl rfl subA (hB e he0 he))
  refine qs 6 ?_
  refine Ga (GL HV HV HV (fun c23 => absurd HV c23) (fun _ => ?_))
  refine qs 8 ?_
  refine Ga (GI HV HV HV (Ga (GO HV HV (fun b27 => (Ga (Gl HV (fun b7 => ?_)))))))
  refine qs 5 ?_
  refine Ga (Gl HV (fun b8 => ?_))
  refine qs 7 ?_
  refine GD (GY (e := 9) (sz := 1)) ?_
  refine Ga (Gf HV HV (levels_c i (fun d2 d3 => ?_)))
  refine qs 3 ?_
  refine AC.rangeFunc HV (fun fn tm l D hsl => ?_)
  generalize hrec : recL fn tm [31, 32] _ _ D = rec
  refine Hy (Gc _ _) (levels1_c (σ := List (List UInt8)) (χ := Option Addr × Nat × Nat) g N hno T c21 i d21.1 d21.2 stpN (fun _ => true) (fun n s => s.length ≤ n * 16000) (fun s1 x w => Res.obj l (rec .ready none) :: Res.obj D dfr :: Res.cells d3 #[.int .i64 i] 3 :: Res.cells d2 #[.pointer (some ⟨b27, 0, none⟩)] 145 :: Res.own (.slice x.1 x.2.1 x.2.2) 9 1 (s1.map eS) :: Res.cells b8 #[.slice x.1 x.2.1 x.2.2] 26 :: Res.cells b7 #[.pointer (some ⟨b27, 0, none⟩)] 145 :: Res.cells b27 w.toArray 147 :: _) [] (none, 0, 0) (i2 := 3) (i3 := 2) (iw := 7) (fun _ _ _ => rfl) (fun _ _ _ => rfl) (fun _ _ _ => rfl) (fun _ _ _ _ => rfl) (Nat.zero_le _) (fun n s1 T1 lev ws hs hn hr hl hw hws _ => ?_) memA memA memA memA (fun n s1 x T1 a1 k1 c1 lev ws a3 k3 c3 a4 k4 c4 A F1 hs hn hr hl hw hws m1 m2 m3 => ?_) (fun s1 x T1 e a1 k1 c1 he => ?_))
  · (have h1 := wordsN_len hr.1 hws; have h2 := hl.few; have h3 := hr.1.2.1; simp only [stpN, List.length_append]; omega)
  ·subst hrec
   obtain ⟨a9, k9, c9⟩ := x
   refine AYields.swap ?_
   refine AYields.round (i := 0) (ps := [31, 32]) HV HV hsl HV ?_
   simp only [binds]
   refine qs 3 ?_
   refine AK.begin (i := 0) HV ?_
   refine qs 4 ?_
   have hlf := hl.few
   have hT4 := hr.1.2.1
   refine Ga (Gn HV HV (fun hl34 => ?_) (enc := eWh) (lst := ws) (hm := memA))
   refine qs 4 ?_
   refine Gz (fun (v : Nat × Option Addr × Nat × Nat) => v.1 ≤ ws.length) (fun v => [(7, .pointer (some ⟨b7, 0, none⟩)), (8, .pointer (some ⟨b8, 0, none⟩)), (33, .slice a4 k4 c4), (34, .int .i64 ws.length), (35, .int .i64 (v.1 : Int))]) (fun v => _ :: _ :: _ :: _ :: Res.own (.slice v.2.1 v.2.2.1 v.2.2.2) 9 1 ((s1 ++ wordsN T1 (ws.take v.1)).map eS) :: Res.cells b8 #[.slice v.2.1 v.2.2.1 v.2.2.2] 26 :: _) (fun _ => _) (fun v => ws.length - v.1) (0, a9, k9, c9) (Nat.zero_le _) srA (Sub.eqIn (A := [_, _, _, _]) (by simp [wordsN])) ?_
   rintro ⟨v, a8, k8, c8⟩ hv
   simp only at hv ⊢
   refine qs 2 ?_
   refine Ga (Gu HV HV HV (fun c36 => ?_) (fun c36 => ?_))
   ·refine qs 10 ?_
    have hvl : v < ws.length := by omega
    have hwv := hws _ (List.getElem_mem hvl)
    have hms := hwv.2.2
    have hpl := pre_len hr.1 hws v
    obtain ⟨hun, hue⟩ := Hz hwv.1 hwv.2.1
    have hoku := Hu hr.1 _ (List.getElem_mem hun)
    refine Ga (Gd HV HV HV HV (enc := eWh) (lst := ws) memA hvl (fun _ _ => ?_))
    refine Ga (GJ HV HV ?_)
    intro a38 k38 z38
    refine Ga (Gl HV (fun b12 => ?_))
    refine qs 8 ?_
    refine Ga (Gn HV HV (fun hl41 => ?_) (enc := eMt) (lst := ws[v].ms) (hm := memA))
    refine qs 4 ?_
    generalize hpre : s1 ++ wordsN T1 (ws.take v) = pre
    have hprel : pre.length ≤ 400000 := by rw [← hpre, List.length_append]; omega
    refine Gz (fun (x : Nat × Option Addr × Nat × Nat) => x.1 ≤ ws[v].ms.length) (fun x => [(7, .pointer (some ⟨b7, 0, none⟩)), (8, .pointer (some ⟨b8, 0, none⟩)), (12, .pointer (some ⟨b12, 0, none⟩)), (33, .slice a4 k4 c4), (34, .int .i64 ws.length), (35, .int .i64 (v : Int)), (40, .slice a38 k38 z38), (41, .int .i64 ws[v].ms.length), (42, .int .i64 (x.1 : Int))]) (fun x => _ :: _ :: _ :: _ :: _ :: Res.own (.slice x.2.1 x.2.2.1 x.2.2.2) 9 1 ((pre ++ (ws[v].ms.take x.1).map (·.name)).map eS) :: Res.cells b8 #[.slice x.2.1 x.2.2.1 x.2.2.2] 26 :: _) (fun _ => _) (fun x => ws[v].ms.length - x.1) (0, a8, k8, c8) (Nat.zero_le _) srA (Sub.eqIn (A := [_, _, _, _, _]) (by simp)) ?_
    rintro ⟨q, a6, k6, c6⟩ hq
    simp only at hq ⊢
    refine qs 2 ?_
    refine Ga (Gu HV HV HV (fun c43 => ?_) (fun c43 => ?_))
    ·refine qs 10 ?_
     have hql : q < ws[v].ms.length := by omega
     refine Ga (Gd HV HV HV HV (enc := eMt) (lst := ws[v].ms) memA hql (fun _ _ => ?_))
     refine Ga (GJ HV HV ?_)
     refine Ga (Gl HV (fun b14 => ?_))
     refine qs 7 ?_
     refine Ga (Gg HV HV HV HV HV (fun b49 => ?_))
     refine Ga (GB (i := 6) (enc := eS) (lst := pre ++ (ws[v].ms.take q).map (·.name)) [ws[v].ms[q].name] HV HV HV HV (.val .nil) HV HV (fun _ => rfl) (by simp only [List.length_append, List.length_map, List.length_take]; omega) (by simp only [List.length_append, List.length_map, List.length_take]; omega) (fun a50 k50 c50 => ?_))
     rw [show pre ++ (ws[v].ms.take q).map (·.name) ++ [ws[v].ms[q].name] = pre ++ (ws[v].ms.take (q + 1)).map (·.name) by rw [List.take_succ_eq_append_getElem hql, List.map_append, List.append_assoc]; rfl]
     refine qs 8 ?_
     exact Gi (q + 1, a50, k50, c50) (by simp only; omega) (by simp only; omega) srA (Sub.drop.trans subF)
    refine qs 10 ?_
    refine GP (fun i => Nat.beq i 10) [(b7, _, _), (b27, _, _), (b12, _, _)] bxA HV (fun hx hX => ?_)
    obtain rfl : q = ws[v].ms.length := by omega
    rw [List.take_length]
    have hu0 := hwv.1
    have hll := (Gs (hX (fL T1 a1 k1 c1) memA)).1
    obtain ⟨p1, o1, e1, at1⟩ := Gy (hX (fL T1 a1 k1 c1) memA) hun
    subst e1
    obtain ⟨w1, x1, y1, w2, x2, y2, hv1, hw1, hw2⟩ := ty_cells at1
    refine Hx hw1 memA ?_
    refine qt [0, 1, 2, 3, 4, 5, 6] ?_
    refine GE (i := 7) HV (GC (k := ws[v].under.toNat) HV HV HY HY) HW HV HV ?_
    refine GN (i := 8) HV (HP HV HV hv1) HW HW HV HV HV ?_
    refine Gm (i := 9) HW HV HV (fun _ => ?_)
    refine Gl HV (fun b15 => ?_)
    refine Gk bxA memB ?_
    refine Gm (i := 10) HW HV HV (fun _ => ?_)
    refine GF HV HV HV HV ?_
    refine Gw HV ?_
    refine Gq HW ?_
    refine qs 5 ?_
    refine Ga (Gr HV HV HV (fun c63 => ?_) (fun c63 => ?_))
    ·refine qs 7 ?_
     refine Ga (Gn HV HV (fun hl66 => ?_) (enc := eS) (lst := T1[ws[v].under.toNat].words) (hm := memA))
     refine qs 4 ?_
     generalize hpr2 : pre ++ ws[v].ms.map (·.name) = pr2
     have hpr2l : pr2.length ≤ 400020 := by rw [← hpr2, List.length_append, List.length_map]; omega
     have hwl := hoku.words
     refine Gz (fun (x : Nat × Option Addr × Nat × Nat) => x.1 ≤ T1[ws[v].under.toNat].words.length) (fun x => [(7, .pointer (some ⟨b7, 0, none⟩)), (8, .pointer (some ⟨b8, 0, none⟩)), (33, .slice a4 k4 c4), (34, .int .i64 ws.length), (35, .int .i64 (v : Int)), (65, .slice w1 x1 y1), (66, .int .i64 T1[ws[v].under.toNat].words.length), (67, .int .i64 (x.1 : Int))]) (fun x => _ :: _ :: _ :: _ :: _ :: _ :: Res.own (.slice x.2.1 x.2.2.1 x.2.2.2) 9 1 ((pr2 ++ (T1[ws[v].under.toNat].words.take x.1).map fieldN).map eS) :: Res.cells b8 #[.slice x.2.1 x.2.2.1 x.2.2.2] 26 :: _) (fun _ => _) (fun x => T1[ws[v].under.toNat].words.length - x.1) (0, a6, k6, c6) (Nat.zero_le _) srA (Sub.eqIn (A := [_, _, _, _, _, _]) (by simp)) ?_
     rintro ⟨z, a5, k5, c5⟩ hz
     simp only at hz ⊢
     refine qs 2 ?_
     refine Ga (Gu HV HV HV (fun c68 => ?_) (fun c68 => ?_))
     ·refine qs 10 ?_
      have hzl : z < T1[ws[v].under.toNat].words.length := by omega
      refine Ga (Gd HV HV HV HV (enc := eS) (lst := T1[ws[v].under.toNat].words) memA hzl (fun _ _ => ?_))
      refine Ga (Gt HV HV ?_)
      intros
      refine qs 3 ?_
      refine GP (fun i => Nat.beq i 5) [(b8, _, _)] bxA HV (fun hx hX => ?_)
      refine qt [0, 1] ?_
      refine Gm (i := 2) HW HV HV (fun _ => ?_)
      refine Gf HV HV (sfield_c T1[ws[v].under.toNat].words[z] ?_)
      refine Gk bxA memB ?_
      refine Gm (i := 3) HW HV HV (fun _ => ?_)
      refine Gg HV HV HV HV HV (fun b74 => ?_)
      refine Gk bxA memB ?_
      refine Gm (i := 4) HW HV HV (fun _ => ?_)
      refine GB (i := 6) (enc := eS) (lst := pr2 ++ (T1[ws[v].under.toNat].words.take z).map fieldN) [fieldN T1[ws[v].under.toNat].words[z]] HV HV HV HV (.val .nil) HV HV (fun _ => rfl) (by simp only [List.length_append, List.length_map, List.length_take]; omega) (by simp only [List.length_append, List.length_map, List.length_take]; omega) (fun a75 k75 c75 => ?_)
      rw [show pr2 ++ (T1[ws[v].under.toNat].words.take z).map fieldN ++ [fieldN T1[ws[v].under.toNat].words[z]] = pr2 ++ (T1[ws[v].under.toNat].words.take (z + 1)).map fieldN by rw [List.take_succ_eq_append_getElem hzl, List.map_append, List.append_assoc]; rfl]
      refine Gk bxA memB ?_
      refine Gm (i := 5) HW HV HV (fun _ => ?_)
      refine GG HV HV HV ?_
      refine Gw HV ?_
      refine Gq HW ?_
      refine qs 6 ?_
      exact Gi (z + 1, a75, k75, c75) (by simp only; omega) (by simp only; omega) srA subF
     refine qs 14 ?_
     obtain rfl : z = T1[ws[v].under.toNat].words.length := by omega
     refine Gi (v + 1, a5, k5, c5) (by simp only; omega) (by simp only; omega) srA ?_
     refine Sub.drop.trans (Sub.drop.trans (GM (Sub.eqIn (A := [_, _, _, _]) ?_) subF))
     rw [List.take_length, words_next hvl, ← hpr2, ← hpre]
     simp only [namesW, hue, if_pos c63, List.append_assoc]
    refine qs 10 ?_
    refine Gi (v + 1, a6, k6, c6) (by simp only; omega) (by simp only; omega) srA ?_
    refine Sub.drop.trans (Sub.drop.trans (GM (Sub.eqIn (A := [_, _, _, _]) ?_) subF))
    rw [words_next hvl, ← hpre]
    simp only [namesW, hue, if_neg c63, List.append_assoc, List.append_nil]
   refine qs 9 ?_
   obtain rfl : v = ws.length := by omega
   rw [List.take_length]
   exact AK.roundN (i := 0) (F' := F1) subF rfl ⟨_, rfl, (a8, k8, c8), rfl, rfl, rfl⟩
  obtain ⟨a9, k9, c9⟩ := x
  simp only
  refine Or.inl ⟨0, by subst hrec; rfl, ?_⟩
  refine qs 5 ?_
  have hall : s1 = allN N T i := by rcases he with ⟨_, h⟩ | ⟨_, h⟩ <;> rw [← levels_names, h]
  subst hall
  have hln := allN_len c21 d21.1 d21.2
  refine Ga (Gf HV HV (sortW_c (i := 4) _ HY HV ?_))
  refine qs 4 ?_
  refine Ga (HJ HV HV ?_)
  refine qs 6 ?_
  refine Ga (Gf HV HV (compactW_c (i := 4) _ (by rw [sortedW_len]; omega) HV (fun a82 k82 c82 => ?_)))
  refine qs 1 ?_
  have hcl := compact_len (sortedW (allN N T i))
  rw [sortedW_len] at hcl
  refine GD (Sub.swap (A := [_, _, _, _])) ?_
  refine Ga (Gf HV HV (deleteW_c (f := 94) (cs := [.pointer (some ⟨b2, 0, none⟩), .pointer (some ⟨b3, 0, none⟩)]) (oddN N T i) _ HY (fun l' s R' h' => odd_c g T N hno c21 i d21.1 d21.2 s (i2 := 5) (i3 := 4) HV HV memA memA memA memA h') (fun a84 k84 c84 => ?_)))
  refine GD (Sub.swap (A := _ :: _ :: _ :: _ :: _ :: _ :: L) (B := [_, _, _, _])) ?_
  refine qs 5 ?_
  exact AK.unmark (i := 1) rfl (HM (L' := L) (F' := fS ((Lib.compact (sortedW (allN N T i))).filter fun s => !oddN N T i s) a84 k84 c84 :: F) Tryz.results38 rfl rfl ((Gv (i := 4) rfl).trans (by repeat (first | exact GW (fun x hx => by repeat (first | exact hx | refine List.mem_cons_of_mem _ ?_)) | refine GM GA ?_))) (hO c21 d21.1 d21.2 _ a84 k84 c84 (names_is N T i) (by have := List.length_filter_le (fun s => !oddN N T i s) (Lib.compact (sortedW (allN N T i))); omega)))
end
end Go.Sy
namespace Go.Sy
open Go Go.Proofs Go.RowKit
def fldsK (t : Ty) (q : Nat) : List (List UInt8) := if t.kind = 6 then (t.words.take q).map fieldN else []
theorem fldsK_len (t : Ty) (q : Nat) : (fldsK t q).length ≤ q := by
  unfold fldsK
  split
  · simp; omega
  simp
theorem fldsK_yes {t : Ty} {q : Nat} (hq : q < t.words.length) (h : t.kind = 6) : fldsK t (q + 1) = fldsK t q ++ [fieldN t.words[q]] := by
  unfold fldsK; rw [if_pos h, if_pos h, List.take_succ_eq_append_getElem hq, List.map_append]; rfl
theorem fldsK_no {t : Ty} {q : Nat} (h : t.kind ≠ 6) : fldsK t (q + 1) = fldsK t q := by
  unfold fldsK; rw [if_neg h, if_neg h]
theorem namesW_is {T : List Ty} {w : Wht} {t : Ty} (h : tyAt T w.under = t) : namesW T w = w.ms.map (·.name) ++ fldsK t t.words.length := by
  unfold namesW fldsK; rw [h, List.take_length]
def insI (l : List (List UInt8)) (s : List UInt8) (q : Nat) (o : List (List UInt8)) (d : Bool) : Prop :=
  s ∉ l.take q ∧ ((d = false ∧ o = l.take q ∧ ∀ x ∈ l.take q, x < s) ∨ (d = true ∧ ∃ p, p ≤ q ∧ p < l.length ∧ o = l.take p ++ s :: (l.take q).drop p ∧ (∀ x ∈ l.take p, x < s) ∧ ∃ h : p < l.length, s < l[p]))
theorem insI_len {l : List (List UInt8)} {s : List UInt8} {q : Nat} {o : List (List UInt8)} {d : Bool} (h : insI l s q o d) : o.length ≤ q + 1 := by
  rcases h.2 with ⟨_, rfl, _⟩ | ⟨_, p, h1, _, rfl, _⟩
  · simp; omega
  simp; omega
theorem lt_of_bytes {a b : List UInt8} : (Op.bytesLess a b || a == b) = false ↔ b < a := by
  rw [bytesLess_eq]
  simp only [Bool.or_eq_false_iff, decide_eq_false_iff_not, beq_eq_false_iff_ne]
  constructor
  · rintro ⟨h1, h2⟩
    exact Classical.byContradiction fun h3 => h2 (List.le_antisymm (List.not_lt.1 h3) (List.not_lt.1 h1))
  intro h
  exact ⟨fun h2 => bs_irr _ (List.lt_trans h h2), fun e => by subst e; exact bs_irr _ h⟩
theorem lt_of_not {a b : List UInt8} (h : (Op.bytesLess a b || a == b) = true) (hne : a ≠ b) : a < b := by
  rw [bytesLess_eq] at h
  simpa [hne] using h
theorem mem_take_succ {l : List (List UInt8)} {q : Nat} (hq : q < l.length) {x : List UInt8} : x ∈ l.take (q + 1) ↔ x ∈ l.take q ∨ x = l[q] := by
  rw [List.take_succ_eq_append_getElem hq, List.mem_append, List.mem_singleton]
theorem drop_take_succ {l : List (List UInt8)} {p q : Nat} (hp : p ≤ q) (hq : q < l.length) : (l.take (q + 1)).drop p = (l.take q).drop p ++ [l[q]] := by
  rw [List.take_succ_eq_append_getElem hq, List.drop_append_of_le_length (by simp; omega)]
theorem insI_put {l : List (List UInt8)} {s : List UInt8} {q : Nat} {o : List (List UInt8)} (h : insI l s q o false) (hq : q < l.length) (hne : l[q] ≠ s) (hlt : s < l[q]) : insI l s (q + 1) (o ++ [s] ++ [l[q]]) true := by
  obtain ⟨h1, ⟨_, rfl, h3⟩ | ⟨e, _⟩⟩ := h
  · refine ⟨fun h => ((mem_take_succ hq).1 h).elim h1 fun e => hne e.symm, .inr ⟨rfl, q, by omega, hq, ?_, h3, hq, hlt⟩⟩
    rw [drop_take_succ (Nat.le_refl _) hq, List.drop_eq_nil_of_le (by simp; omega)]; simp
  cases e
theorem insI_low {l : List (List UInt8)} {s : List UInt8} {q : Nat} {o : List (List UInt8)} (h : insI l s q o false) (hq : q < l.length) (hlt : l[q] < s) : insI l s (q + 1) (o ++ [l[q]]) false := by
  obtain ⟨h1, ⟨_, rfl, h3⟩ | ⟨e, _⟩⟩ := h
  · refine ⟨fun h => ((mem_take_succ hq).1 h).elim h1 fun e => by rw [← e] at hlt; exact bs_irr _ hlt, .inl ⟨rfl, by rw [List.take_succ_eq_append_getElem hq], fun x hx => ?_⟩⟩
    rcases (mem_take_succ hq).1 hx with hx | e
    · exact h3 x hx
    rw [e]; exact hlt
  cases e
theorem insI_more {l : List (List UInt8)} {s : List UInt8} {q : Nat} {o : List (List UInt8)} (h : insI l s q o true) (hq : q < l.length) (hne : l[q] ≠ s) : insI l s (q + 1) (o ++ [l[q]]) true := by
  obtain ⟨h1, ⟨e, _⟩ | ⟨_, p, h2, h3, rfl, h5, h6⟩⟩ := h
  · cases e
  refine ⟨fun h => ((mem_take_succ hq).1 h).elim h1 fun e => hne e.symm, .inr ⟨rfl, p, by omega, h3, ?_, h5, h6⟩⟩
  rw [drop_take_succ h2 hq]; simp
def insP (l : List (List UInt8)) (s : List UInt8) (o : List (List UInt8)) : Prop := (rising l → rising o) ∧ (∀ x, x ∈ o ↔ x ∈ l ∨ x = s) ∧ o.length ≤ l.length + 1
theorem insP_same {l : List (List UInt8)} {s : List UInt8} (h : s ∈ l) : insP l s l := ⟨id, fun x => ⟨.inl, fun h' => h'.elim id fun e => e ▸ h⟩, by omega⟩
theorem rising_from {l : List (List UInt8)} (hr : rising l) {s : List UInt8} {p : Nat} (hp : p < l.length) (h : s < l[p]) : ∀ x ∈ l.drop p, s < x := fun x hx => by
  rw [List.drop_eq_getElem_cons hp] at hx
  rcases List.mem_cons.1 hx with e | hx
  · rw [e]; exact h
  have h2 : rising (l.drop p) := List.Pairwise.sublist (List.drop_sublist _ _) hr
  rw [List.drop_eq_getElem_cons hp] at h2
  exact List.lt_trans h ((List.pairwise_cons.1 h2).1 x hx)
theorem insP_done {l : List (List UInt8)} {s : List UInt8} {o : List (List UInt8)} (h : insI l s l.length o true) : insP l s o := by
  obtain ⟨h1, ⟨e, _⟩ | ⟨_, p, h2, h3, rfl, h5, h6, h7⟩⟩ := h
  · cases e
  rw [List.take_length]
  exact ⟨fun hr => rising_ins hr s h5 (rising_from hr h3 h7), fun x => mem_ins, by simp; omega⟩
theorem insP_last {l : List (List UInt8)} {s : List UInt8} {o : List (List UInt8)} (h : insI l s l.length o false) : insP l s (o ++ [s]) := by
  obtain ⟨h1, ⟨_, rfl, h3⟩ | ⟨e, _⟩⟩ := h
  · rw [List.take_length] at h3 ⊢
    refine ⟨fun hr => ?_, fun x => by simp, by simp⟩
    have := rising_ins hr s (p := l.length) (by rwa [List.take_length]) (by simp)
    simpa using this
  cases e
def resD (T : List Ty) (lev : List Ent) (ws : List Wht) (seen : List Int) (e : Int) : Except Int (List Ty × List Ent × List Wht × List Int) := if e = 0 then .ok (T, lev, ws, seen) else .error e
theorem resD_of {r : Except Int (List Ty × List Ent × List Wht × List Int)} {T : List Ty} {lev : List Ent} {ws : List Wht} {seen : List Int} {e : Int} (h : docP r T lev ws seen e) : r = resD T lev ws seen e := by
  unfold resD
  rcases h with ⟨h1, h2⟩ | ⟨h1, h2⟩
  · rw [if_neg h1]; exact h2
  rw [if_pos h1]; exact h2
def toldN (N : List Nmd) (T : List Ty) (i : Int) (A o : List (List UInt8)) : Prop := rising o ∧ ∀ x, x ∈ o ↔ x ∈ A ∧ pickN N T i x
theorem told_nil (N : List Nmd) (T : List Ty) (i : Int) : toldN N T i [] [] := ⟨.nil, fun x => by simp⟩
theorem told_put {N : List Nmd} {T : List Ty} {i : Int} {A o o2 : List (List UInt8)} {s : List UInt8} (h : toldN N T i A o) (hp : pickN N T i s) (hi : insP o s o2) : toldN N T i (A ++ [s]) o2 := by
  refine ⟨hi.1 h.1, fun x => ?_⟩
  rw [hi.2.1, h.2]
  simp only [List.mem_append, List.mem_singleton]
  constructor
  · rintro (⟨h1, h2⟩ | e)
    · exact ⟨.inl h1, h2⟩
    subst e; exact ⟨.inr rfl, hp⟩
  rintro ⟨h1 | h1, h2⟩
  · exact .inl ⟨h1, h2⟩
  exact .inr h1
theorem told_pass {N : List Nmd} {T : List Ty} {i : Int} {A o : List (List UInt8)} {s : List UInt8} (h : toldN N T i A o) (hp : ¬ pickN N T i s) : toldN N T i (A ++ [s]) o := by
  refine ⟨h.1, fun x => ?_⟩
  rw [h.2]
  simp only [List.mem_append, List.mem_singleton]
  constructor
  · rintro ⟨h1, h2⟩; exact ⟨.inl h1, h2⟩
  rintro ⟨h1 | h1, h2⟩
  · exact ⟨h1, h2⟩
  subst h1; exact absurd h2 hp
theorem docW_step {N : List Nmd} {n : Nat} {T : List Ty} {lev : List Ent} {ws : List Wht} {seen : List Int} (hn : n < 7) : docW N (7 - n) (resD T lev ws seen 0) = wordsN T ws ++ docW N (6 - n) (docL N T (nextL T lev ws seen) (seen ++ typs (nextL T lev ws seen))) := by
  rw [show 7 - n = 6 - n + 1 by omega]; rfl
theorem docW_end {N : List Nmd} {n : Nat} {T : List Ty} {lev : List Ent} {ws : List Wht} {seen : List Int} {e : Int} (h : 7 ≤ n ∨ e ≠ 0) : docW N (7 - n) (resD T lev ws seen e) = [] := by
  rcases h with h | h
  · rw [show 7 - n = 0 by omega]; rfl
  unfold resD; rw [if_neg h]
  cases 7 - n <;> rfl
attribute [local irreducible] AC AT AO AK AH ACalls Sub Res.cells Res.obj Res.nix Res.own Res.map Exit.then Exit.inBlock bodyPost Code.wp Code.wpIn WL Next Post Kont
section
variable {W0 : World} {L : List Res} {F : List Fact} {R : Value → List Res → List Fact → Prop}
set_option maxRecDepth 100000
set_option maxHeartbeats 16000000
theorem rWords_c (T : List Ty) (hr : rightP T) (ws : List Wht) (hlen : ws.length ≤ 1000) (hws : ∀ w ∈ ws, whP T w) {a a2 a3 a4 a5 : Option Addr} {k c k2 c2 k3 c3 k4 c4 k5 c5 : Nat} {e0 : Int} (mL : fL T a k c ∈ F) (mW : fWh ws a4 k4 c4 ∈ F)
    (h : ∀ a k c, R (.slice a k c) L (fS (wordsN T ws) a k c :: F)) :
    ACalls Tryz.prog W0 97 #[vL a k c a2 k2 c2 a3 k3 c3 a4 k4 c4 a5 k5 c5 e0] L F R := by
  have hml : 1000000 ≤ maxLen := by decide
  refine Gh Tryz.func97 HV Tryz.ntmps97 HV ?_
  refine qs 2 ?_
  refine Ga (GO HV HV (fun b1 => ?_))
  refine qs 5 ?_
  refine Ga (GZ HV (fun b11 => ?_))
  refine GD (Hv (i := 0) (k := 0) (sz := 1) (enc := eS) [] HV .nil (fun _ => rfl) HV (by decide)) ?_
  refine qs 8 ?_
  refine Ga (Gn HV HV (fun hl14 => ?_) (enc := eWh) (lst := ws) (hm := memA))
  refine qs 4 ?_
  refine Gz (fun (x : Nat × Option Addr × Nat × Nat) => x.1 ≤ ws.length) (fun x => [(1, .pointer (some ⟨b1, 0, none⟩)), (3, .slice x.2.1 x.2.2.1 x.2.2.2), (13, .slice a4 k4 c4), (14, .int .i64 ws.length), (15, .int .i64 (x.1 : Int))]) (fun x => Res.own (.slice x.2.1 x.2.2.1 x.2.2.2) 9 1 ((wordsN T (ws.take x.1)).map eS) :: _) (fun _ => _) (fun x => ws.length - x.1) (0, some ⟨b11, 0, none⟩, 0, 0) (Nat.zero_le _) srA (Gc _ _) ?_
  rintro ⟨v, a6, k6, c6⟩ hv
  simp only at hv ⊢
  refine qs 2 ?_
  refine Ga (Gu HV HV HV (fun c16 => ?_) (fun c16 => ?_))
  ·refine qs 10 ?_
   have hvl : v < ws.length := by omega
   have hwv := hws _ (List.getElem_mem hvl)
   have hms := hwv.2.2
   have hpl := pre_len hr hws v
   obtain ⟨n, hn⟩ : ∃ n : Nat, ws[v].under = (n : Int) := ⟨ws[v].under.toNat, by have := hwv.1; omega⟩
   have hnl : n < T.length := by have := hwv.2.1; omega
   have hty : tyAt T ws[v].under = T[n] := by rw [hn]; exact HE hnl
   have hok := Hu hr _ (List.getElem_mem hnl)
   have hwl := hok.words
   refine Ga (Gd HV HV HV HV (enc := eWh) (lst := ws) memA hvl (fun _ _ => ?_))
   refine Ga (GJ HV HV ?_)
   intro a18 k18 z18
   refine Ga (Gl HV (fun b5 => ?_))
   refine qs 8 ?_
   refine Ga (Gn HV HV (fun hl21 => ?_) (enc := eMt) (lst := ws[v].ms) (hm := memA))
   refine qs 4 ?_
   generalize hpre : wordsN T (ws.take v) = pre at hpl ⊢
   refine Gz (fun (x : Nat × Option Addr × Nat × Nat) => x.1 ≤ ws[v].ms.length) (fun x => [(1, .pointer (some ⟨b1, 0, none⟩)), (3, .slice x.2.1 x.2.2.1 x.2.2.2), (5, .pointer (some ⟨b5, 0, none⟩)), (13, .slice a4 k4 c4), (14, .int .i64 ws.length), (15, .int .i64 (v : Int)), (20, .slice a18 k18 z18), (21, .int .i64 ws[v].ms.length), (22, .int .i64 (x.1 : Int))]) (fun x => _ :: Res.own (.slice x.2.1 x.2.2.1 x.2.2.2) 9 1 ((pre ++ (ws[v].ms.take x.1).map (·.name)).map eS) :: _) (fun _ => _) (fun x => ws[v].ms.length - x.1) (0, a6, k6, c6) (Nat.zero_le _) srA (Sub.eqIn (A := [_]) (by simp)) ?_
   rintro ⟨q, a7, k7, c7⟩ hq
   simp only at hq ⊢
   refine qs 2 ?_
   refine Ga (Gu HV HV HV (fun c23 => ?_) (fun c23 => ?_))
   ·refine qs 10 ?_
    have hql : q < ws[v].ms.length := by omega
    refine Ga (Gd HV HV HV HV (enc := eMt) (lst := ws[v].ms) memA hql (fun _ _ => ?_))
    refine Ga (GJ HV HV ?_)
    refine Ga (Gl HV (fun b7 => ?_))
    refine qs 7 ?_
    refine Ga (Gg HV HV HV HV HV (fun b29 => ?_))
    refine Ga (GB (i := 2) (enc := eS) (lst := pre ++ (ws[v].ms.take q).map (·.name)) [ws[v].ms[q].name] HV HV HV HV (.val .nil) HV HV (fun _ => rfl) (by simp only [List.length_append, List.length_map, List.length_take]; omega) (by simp only [List.length_append, List.length_map, List.length_take]; omega) (fun a30 k30 c30 => ?_))
    rw [show pre ++ (ws[v].ms.take q).map (·.name) ++ [ws[v].ms[q].name] = pre ++ (ws[v].ms.take (q + 1)).map (·.name) by rw [List.take_succ_eq_append_getElem hql, List.map_append, List.append_assoc]; rfl]
    refine qs 8 ?_
    exact Gi (q + 1, a30, k30, c30) (by simp only; omega) (by simp only; omega) srA (Sub.drop.trans subF)
   refine qs 16 ?_
   obtain rfl : q = ws[v].ms.length := by omega
   rw [List.take_length]
   refine Ga (Gd (k := n) HV HV HV hn (enc := eTy) (lst := T) memA hnl (fun _ _ => ?_))
   refine Ga (GJ HV HV ?_)
   intro a38 k38 z38 d38 e38 f38
   refine Ga (Gl HV (fun b8 => ?_))
   refine qs 7 ?_
   refine Ga (Gn HV HV (fun hl41 => ?_) (enc := eS) (lst := T[n].words) (hm := memA))
   refine qs 4 ?_
   generalize hpr2 : pre ++ ws[v].ms.map (·.name) = pr2
   have hpr2l : pr2.length ≤ 40020 := by rw [← hpr2, List.length_append, List.length_map]; omega
   refine Gz (fun (x : Nat × Option Addr × Nat × Nat) => x.1 ≤ T[n].words.length) (fun x => [(1, .pointer (some ⟨b1, 0, none⟩)), (3, .slice x.2.1 x.2.2.1 x.2.2.2), (8, .pointer (some ⟨b8, 0, none⟩)), (13, .slice a4 k4 c4), (14, .int .i64 ws.length), (15, .int .i64 (v : Int)), (40, .slice a38 k38 z38), (41, .int .i64 T[n].words.length), (42, .int .i64 (x.1 : Int))]) (fun x => _ :: _ :: Res.own (.slice x.2.1 x.2.2.1 x.2.2.2) 9 1 ((pr2 ++ fldsK T[n] x.1).map eS) :: _) (fun _ => _) (fun x => T[n].words.length - x.1) (0, a7, k7, c7) (Nat.zero_le _) srA (Sub.eqIn (A := [_, _]) (by simp [fldsK])) ?_
   rintro ⟨z, a8, k8, c8⟩ hz
   simp only at hz ⊢
   refine qs 2 ?_
   refine Ga (Gu HV HV HV (fun c43 => ?_) (fun c43 => ?_))
   ·refine qs 10 ?_
    have hzl : z < T[n].words.length := by omega
    have hzf := fldsK_len T[n] z
    refine Ga (Gd HV HV HV HV (enc := eS) (lst := T[n].words) memA hzl (fun _ _ => ?_))
    refine Ga (Gt HV HV ?_)
    intros
    refine qs 7 ?_
    refine Ga (Gr HV HV HV (fun c48 => ?_) (fun c48 => ?_))
    ·refine qs 6 ?_
     refine Ga (Gf HV HV (sfieldR_c T[n].words[z] (hok.word _ (List.getElem_mem hzl)) ?_))
     refine Ga (Gg HV HV HV HV HV (fun b52 => ?_))
     refine Ga (GB (i := 2) (enc := eS) (lst := pr2 ++ fldsK T[n] z) [fieldN T[n].words[z]] HV HV HV HV (.val .nil) HV HV (fun _ => rfl) (by simp only [List.length_append, List.length_singleton]; omega) (by simp only [List.length_append]; omega) (fun a53 k53 c53 => ?_))
     rw [List.append_assoc, ← fldsK_yes hzl c48]
     refine qs 8 ?_
     exact Gi (z + 1, a53, k53, c53) (by simp only; omega) (by simp only; omega) srA subF
    refine qs 10 ?_
    refine Gi (z + 1, a8, k8, c8) (by simp only; omega) (by simp only; omega) srA ?_
    rw [fldsK_no c48]
    exact subF
   refine qs 14 ?_
   obtain rfl : z = T[n].words.length := by omega
   refine Gi (v + 1, a8, k8, c8) (by simp only; omega) (by simp only; omega) srA ?_
   refine Sub.drop.trans (Sub.drop.trans (GM (Sub.eqIn (A := []) ?_) subF))
   rw [words_next hvl, namesW_is hty, ← hpr2, ← hpre, List.append_assoc]
  refine qs 16 ?_
  obtain rfl : v = ws.length := by omega
  rw [List.take_length]
  exact Gb (L' := L) (F' := fS (wordsN T ws) a6 k6 c6 :: F) Tryz.results97 rfl ((Gv (i := 0) rfl).trans (by repeat (first | exact GW (fun x hx => by repeat (first | exact hx | refine List.mem_cons_of_mem _ ?_)) | refine GM GA ?_))) (h _ _ _)
theorem rInsert_c (l : List (List UInt8)) (hl : l.length ≤ 200000) (s : List UInt8) {a : Option Addr} {k c : Nat} (m1 : fS l a k c ∈ F)
    (h : ∀ o a k c, insP l s o → R (.slice a k c) L (fS o a k c :: F)) : ACalls Tryz.prog W0 98 #[.slice a k c, S s] L F R := by
  have hml : 1000000 ≤ maxLen := by decide
  refine Gh Tryz.func98 HV Tryz.ntmps98 HV ?_
  refine qs 7 ?_
  refine Ga (GZ HV (fun b9 => ?_))
  refine GD (Hv (i := 0) (k := 0) (sz := 1) (enc := eS) [] HV .nil (fun _ => rfl) HV (by decide)) ?_
  refine qs 12 ?_
  refine Ga (Gn HV HV (fun hl11 => ?_) (enc := eS) (lst := l) (hm := memA))
  refine qs 4 ?_
  refine Gz (fun (x : Nat × List (List UInt8) × Bool × Option Addr × Nat × Nat) => x.1 ≤ l.length ∧ insI l s x.1 x.2.1 x.2.2.1) (fun x => [(0, .slice a k c), (1, S s), (5, .slice x.2.2.2.1 x.2.2.2.2.1 x.2.2.2.2.2), (6, .bool x.2.2.1), (10, .slice a k c), (11, .int .i64 l.length), (12, .int .i64 (x.1 : Int))]) (fun x => Res.own (.slice x.2.2.2.1 x.2.2.2.2.1 x.2.2.2.2.2) 9 1 (x.2.1.map eS) :: _) (fun _ => _) (fun x => l.length - x.1) (0, [], false, some ⟨b9, 0, none⟩, 0, 0) ⟨Nat.zero_le _, by simp, .inl ⟨rfl, rfl, by simp⟩⟩ srA (Gc _ _) ?_
  rintro ⟨q, o, dn, a6, k6, c6⟩ ⟨hq, hin⟩
  simp only at hq hin ⊢
  have hol := insI_len hin
  refine qs 2 ?_
  refine Ga (Gu HV HV HV (fun c13 => ?_) (fun c13 => ?_))
  ·refine qs 10 ?_
   have hql : q < l.length := by omega
   refine Ga (Gd HV HV HV HV (enc := eS) (lst := l) memA hql (fun _ _ => ?_))
   refine Ga (Gt HV HV ?_)
   intros
   refine qs 8 ?_
   refine Ga (Hp HV HV HV (fun c18 => ?_) (fun c18 => ?_))
   ·refine qs 16 ?_
    exact Gb (L' := L) (F' := fS l a k c :: F) Tryz.results98 rfl (by repeat (first | exact Gj (mem1 memA (fun x hx => by repeat (first | exact hx | refine List.mem_cons_of_mem _ ?_))) | refine GM GA ?_)) (h l a k c (insP_same (c18 ▸ List.getElem_mem hql)))
   refine qs 10 ?_
   refine Ga (AO.gtrS HV HV HV (fun c22 => ?_) (fun c22 => ?_))
   ·refine qs 1 ?_
    rcases Bool.eq_false_or_eq_true dn with rfl | rfl
    all_goals refine Ge rfl rfl (HK rfl rfl ?_)
    ·refine qs 10 ?_
     refine Ga (Gg HV HV HV HV HV (fun b33 => ?_))
     refine Ga (GB (i := 0) (enc := eS) (lst := o) [l[q]] HV HV HV HV (.val .nil) HV HV (fun _ => rfl) (by first | omega | (simp only [List.length_append, List.length_singleton]; omega)) HY (fun a34 k34 c34 => ?_))
     refine qs 8 ?_
     exact Gi (q + 1, _, true, a34, k34, c34) ⟨hql, insI_more hin hql c18⟩ (by simp only; omega) srA subF
    refine qs 9 ?_
    refine Ga (Gg HV HV HV HV HV (fun b29 => ?_))
    refine Ga (GB (i := 0) (enc := eS) (lst := o) [s] HV HV HV HV (.val .nil) HV HV (fun _ => rfl) (by first | omega | (simp only [List.length_append, List.length_singleton]; omega)) HY (fun a30 k30 c30 => ?_))
    refine qs 10 ?_
    refine Ga (Gg HV HV HV HV HV (fun b33 => ?_))
    refine Ga (GB (i := 0) (enc := eS) (lst := o ++ [s]) [l[q]] HV HV HV HV (.val .nil) HV HV (fun _ => rfl) (by first | omega | (simp only [List.length_append, List.length_singleton]; omega)) (by first | omega | (simp only [List.length_append, List.length_singleton]; omega)) (fun a34 k34 c34 => ?_))
    refine qs 8 ?_
    exact Gi (q + 1, _, true, a34, k34, c34) ⟨hql, insI_put hin hql c18 (lt_of_bytes.1 c22)⟩ (by simp only; omega) srA subF
   refine qs 12 ?_
   refine Ga (Gg HV HV HV HV HV (fun b33 => ?_))
   refine Ga (GB (i := 0) (enc := eS) (lst := o) [l[q]] HV HV HV HV (.val .nil) HV HV (fun _ => rfl) (by first | omega | (simp only [List.length_append, List.length_singleton]; omega)) HY (fun a34 k34 c34 => ?_))
   refine qs 8 ?_
   refine Gi (q + 1, o ++ [l[q]], dn, a34, k34, c34) ⟨hql, ?_⟩ (by simp only; omega) srA subF
   cases dn
   · exact insI_low hin hql (lt_of_not c22 c18)
   exact insI_more hin hql c18
  refine qs 12 ?_
  obtain rfl : q = l.length := by omega
  rcases Bool.eq_false_or_eq_true dn with rfl | rfl
  all_goals refine Ga (HK rfl rfl ?_)
  ·refine qs 13 ?_
   exact Gb (L' := L) (F' := fS o a6 k6 c6 :: F) Tryz.results98 rfl ((Gv (i := 0) rfl).trans (by repeat (first | exact GW (fun x hx => by repeat (first | exact hx | refine List.mem_cons_of_mem _ ?_)) | refine GM GA ?_))) (h _ _ _ _ (insP_done hin))
  refine qs 7 ?_
  refine Ga (Gg HV HV HV HV HV (fun b40 => ?_))
  refine Ga (GB (i := 0) (enc := eS) (lst := o) [s] HV HV HV HV (.val .nil) HV HV (fun _ => rfl) (by first | omega | (simp only [List.length_append, List.length_singleton]; omega)) HY (fun a41 k41 c41 => ?_))
  refine qs 10 ?_
  exact Gb (L' := L) (F' := fS (o ++ [s]) a41 k41 c41 :: F) Tryz.results98 rfl ((Gv (i := 0) rfl).trans (by repeat (first | exact GW (fun x hx => by repeat (first | exact hx | refine List.mem_cons_of_mem _ ?_)) | refine GM GA ?_))) (h _ _ _ _ (insP_last hin))
theorem rNames_c (T0 : List Ty) (N : List Nmd) (hu : rightU T0 N) (i : Int) (h0 : 0 ≤ i) (hi : i < T0.length) {a a2 : Option Addr} {k c k2 c2 : Nat} (mL : fL T0 a k c ∈ F) (mN : fN N a2 k2 c2 ∈ F) (mE : Fact.slc (.slice none 0 0) 5 [] ∈ F)
    (h : ∀ l a k c, namesP N T0 i l → l.length ≤ 112000 → R (.slice a k c) L (fS l a k c :: F)) :
    ACalls Tryz.prog W0 40 #[.agg #[.slice a k c, .slice a2 k2 c2], .int .i64 i] L F R := by
  have hml : 1000000 ≤ maxLen := by decide
  refine Gh Tryz.func40 HV Tryz.ntmps40 HV ?_
  refine qs 2 ?_
  refine Ga (GO HV HV (fun b2 => ?_))
  refine qs 5 ?_
  refine Ga (GZ HV (fun b10 => ?_))
  refine GD (Hv (i := 0) (k := 0) (sz := 1) (enc := eS) [] HV .nil (fun _ => rfl) HV (by decide)) ?_
  refine GD ((Gv (i := 0) HV).trans GA) ?_
  refine qs 7 ?_
  refine Ga (Gf HV HV (rFirst_c T0 N hu i h0 hi memA memA memA (fun T1 lev1 ws1 seen1 a1 k1 c1 an kn cn a3 k3 c3 a4 k4 c4 a5 k5 c5 e hd hn => ?_)))
  refine Ga (Gl HV (fun b6 => ?_))
  refine qs 10 ?_
  refine Gz (fun (x : Nat × Int × (List Ty × List Ent × List Wht × List Int) × ((Option Addr × Nat × Nat) × (Option Addr × Nat × Nat) × (Option Addr × Nat × Nat) × (Option Addr × Nat × Nat) × (Option Addr × Nat × Nat)) × List (List UInt8) × (Option Addr × Nat × Nat)) => x.1 ≤ 7 ∧ x.2.2.2.2.1.length ≤ x.1 * 16000 ∧ (∃ A, toldN N T0 i A x.2.2.2.2.1 ∧ allN N T0 i = A ++ docW N (7 - x.1) (resD x.2.2.1.1 x.2.2.1.2.1 x.2.2.1.2.2.1 x.2.2.1.2.2.2 x.2.1)) ∧ (x.2.1 = 0 → x.1 < 7 → DocOk N x.1 x.2.2.1.1 x.2.2.1.2.1 x.2.2.1.2.2.1 x.2.2.1.2.2.2 ∧ x.2.2.2.1.2.1 = (a2, k2, c2))) (fun x => [(1, .int .i64 i), (2, .pointer (some ⟨b2, 0, none⟩)), (5, .slice x.2.2.2.2.2.1 x.2.2.2.2.2.2.1 x.2.2.2.2.2.2.2), (6, .pointer (some ⟨b6, 0, none⟩)), (7, .int .i64 (x.1 : Int))]) (fun x => Res.cells b6 #[.slice x.2.2.2.1.1.1 x.2.2.2.1.1.2.1 x.2.2.2.1.1.2.2, .slice x.2.2.2.1.2.1.1 x.2.2.2.1.2.1.2.1 x.2.2.2.1.2.1.2.2, .slice x.2.2.2.1.2.2.1.1 x.2.2.2.1.2.2.1.2.1 x.2.2.2.1.2.2.1.2.2, .slice x.2.2.2.1.2.2.2.1.1 x.2.2.2.1.2.2.2.1.2.1 x.2.2.2.1.2.2.2.1.2.2, .slice x.2.2.2.1.2.2.2.2.1 x.2.2.2.1.2.2.2.2.2.1 x.2.2.2.1.2.2.2.2.2.2, .int .i64 x.2.1] 103 :: _) (fun x => fL x.2.2.1.1 x.2.2.2.1.1.1 x.2.2.2.1.1.2.1 x.2.2.2.1.1.2.2 :: fEn x.2.2.1.2.1 x.2.2.2.1.2.2.1.1 x.2.2.2.1.2.2.1.2.1 x.2.2.2.1.2.2.1.2.2 :: fWh x.2.2.1.2.2.1 x.2.2.2.1.2.2.2.1.1 x.2.2.2.1.2.2.2.1.2.1 x.2.2.2.1.2.2.2.1.2.2 :: fI x.2.2.1.2.2.2 x.2.2.2.1.2.2.2.2.1 x.2.2.2.1.2.2.2.2.2.1 x.2.2.2.1.2.2.2.2.2.2 :: fS x.2.2.2.2.1 x.2.2.2.2.2.1 x.2.2.2.2.2.2.1 x.2.2.2.2.2.2.2 :: F) (fun x => 7 - x.1) (0, e, (T1, lev1, ws1, seen1), ((a1, k1, c1), (an, kn, cn), (a3, k3, c3), (a4, k4, c4), (a5, k5, c5)), [], (some ⟨b10, 0, none⟩, 0, 0)) ⟨by simp, by simp, ⟨[], told_nil _ _ _, by unfold allN; rw [resD_of hd]; rfl⟩, fun e0 _ => ⟨by rcases hd with ⟨h1, _⟩ | ⟨_, h2⟩; exact absurd e0 h1; exact docFirst_is hu h0 hi h2, by obtain ⟨e1, e2, e3⟩ := hn e0; simp only; rw [e1, e2, e3]⟩⟩ srA (Gj (mem2 memA memA (mem2 memA memA (mem1 memA (fun x hx => by repeat (first | exact hx | refine List.mem_cons_of_mem _ ?_)))))) ?_
  clear hd hn
  rintro ⟨n, e, ⟨T, lev, ws, seen⟩, ⟨⟨b1, j1, d1⟩, ⟨b2', j2, d2⟩, ⟨f3, j3, d3⟩, ⟨f4, j4, d4⟩, ⟨f5, j5, d5⟩⟩, o, ⟨f6, j6, d6⟩⟩ ⟨hn7, hol, ⟨A, hto, hal⟩, hdo⟩
  simp only at hn7 hol hto hal hdo ⊢
  refine qs 4 ?_
  refine Ga (Gu HV HV HV (fun c15 => ?_) (fun c15 => ?_))
  ·refine qs 3 ?_
   refine Ge HV HV (Gr HV HV HV (fun c19 => ?_) (fun c19 => ?_))
   ·refine qs 12 ?_
    have hlt : n < 7 := by omega
    subst c19
    obtain ⟨hdk, hnm⟩ := hdo rfl hlt
    clear hdo
    injection hnm with e1 e2
    injection e2 with e2 e3
    subst e1 e2 e3
    have hT4 := hdk.right.1.2.1
    have hlf := hdk.lv.few
    have hln := hdk.ln
    have hwl := wordsN_len hdk.right.1 hdk.wh
    rw [docW_step hlt] at hal
    refine Ga (Gf HV HV (rWords_c T hdk.right.1 ws HY hdk.wh (a5 := f5) (k5 := j5) (c5 := d5) (e0 := 0) (show fL T b1 j1 d1 ∈ _ from memA) (show fWh ws f4 j4 d4 ∈ _ from memA) (fun a24 k24 c24 => ?_)))
    refine Ga (Gn HV HV (fun hl25 => ?_) (enc := eS) (lst := wordsN T ws) (hm := memA))
    refine qs 4 ?_
    generalize hW : wordsN T ws = W at hal hwl hl25 ⊢
    refine Gz (fun (y : Nat × List (List UInt8) × (Option Addr × Nat × Nat)) => y.1 ≤ W.length ∧ y.2.1.length ≤ n * 16000 + y.1 ∧ toldN N T0 i (A ++ W.take y.1) y.2.1) (fun y => [(1, .int .i64 i), (2, .pointer (some ⟨b2, 0, none⟩)), (5, .slice y.2.2.1 y.2.2.2.1 y.2.2.2.2), (6, .pointer (some ⟨b6, 0, none⟩)), (7, .int .i64 (n : Int)), (24, .slice a24 k24 c24), (25, .int .i64 W.length), (26, .int .i64 (y.1 : Int))]) (fun _ => _) (fun y => fS y.2.1 y.2.2.1 y.2.2.2.1 y.2.2.2.2 :: fS W a24 k24 c24 :: fL T b1 j1 d1 :: fEn lev f3 j3 d3 :: fWh ws f4 j4 d4 :: fI seen f5 j5 d5 :: F) (fun y => W.length - y.1) (0, o, (f6, j6, d6)) ⟨Nat.zero_le _, by simp only; omega, by simpa using hto⟩ srA (Gj (mem2 memA memA (mem2 memA memA (mem2 memA memA (fun x hx => by repeat (first | exact hx | refine List.mem_cons_of_mem _ ?_)))))) ?_
    rintro ⟨q, o2, ⟨g6, l6, z6⟩⟩ ⟨hq, ho2, hto2⟩
    simp only at hq ho2 hto2 ⊢
    refine qs 2 ?_
    refine Ga (Gu HV HV HV (fun c27 => ?_) (fun c27 => ?_))
    ·refine qs 10 ?_
     have hql : q < W.length := by omega
     have htk : A ++ W.take (q + 1) = A ++ W.take q ++ [W[q]] := by rw [List.take_succ_eq_append_getElem hql, List.append_assoc]
     refine Ga (Gd HV HV HV HV (enc := eS) (lst := W) (show fS W a24 k24 c24 ∈ _ from memA) hql (fun _ _ => ?_))
     refine Ga (Gt HV HV ?_)
     intros
     refine qs 6 ?_
     refine Ga (AO.neqS HV HV HV (fun c31 => ?_) (fun c31 => ?_))
     ·refine qs 4 ?_
      refine Ge HV HV (Gf HV HV (rFind_c T0 N hu i h0 hi W[q] memA memA memA (fun ee he hx => ?_) (fun oo xx a36 k36 z36 a37 k37 z37 hx => ?_)))
      ·refine Ge HV HV (AO.fieldV (t1 := 33) Tryz.underlying53 HV HV HV HV HV HV ?_)
       refine Ge HV HV (Gr HV HV HV (fun c38 => absurd c38 he) (fun _ => ?_))
       refine qs 11 ?_
       exact Gi (q + 1, o2, (g6, l6, z6)) ⟨by simp only; omega, by simp only; omega, by simp only; rw [htk]; exact told_pass hto2 (by rintro ⟨_, y, hy⟩; rw [hx] at hy; cases hy)⟩ (by simp only; omega) srA subF
      refine Ge HV HV (AO.fieldV (t1 := 33) Tryz.underlying53 HV HV HV HV HV HV ?_)
      refine Ge HV HV (Gr HV HV HV (fun _ => ?_) (fun c38 => absurd HV c38))
      refine qs 7 ?_
      refine Ga (Gf HV HV (rInsert_c o2 HY W[q] (show fS o2 _ _ _ ∈ _ from memA) (fun o3 a42 k42 c42 ho3 => ?_)))
      refine qs 8 ?_
      exact Gi (q + 1, o3, (a42, k42, c42)) ⟨by simp only; omega, by have := ho3.2.2; simp only; omega, by simp only; rw [htk]; exact told_put hto2 ⟨c31, _, hx⟩ ho3⟩ (by simp only; omega) srA (Gj (mem2 memA memA (mem2 memA memA (mem2 memA memA (fun x hx => by repeat (first | exact hx | refine List.mem_cons_of_mem _ ?_))))))
     refine qs 18 ?_
     exact Gi (q + 1, o2, (g6, l6, z6)) ⟨by simp only; omega, by simp only; omega, by simp only; rw [htk]; exact told_pass hto2 (fun h => h.1 c31)⟩ (by simp only; omega) srA subF
    refine qs 11 ?_
    obtain rfl : q = W.length := by omega
    rw [List.take_length] at hto2
    refine Ga (HK HV HV (Ga (Gu HV HV HV (fun c45 => ?_) (fun c45 => ?_))))
    ·refine qs 5 ?_
     refine Ga (Gf HV HV (rNext_c T N hdk.right lev n HY hdk.lv ws hdk.ln hdk.wh seen (by have := hdk.few; omega) (e0 := 0) (show fL T b1 j1 d1 ∈ _ from memA) (show fN N b2' j2 d2 ∈ _ from memA) (show fEn lev f3 j3 d3 ∈ _ from memA) (show fWh ws f4 j4 d4 ∈ _ from memA) (show fI seen f5 j5 d5 ∈ _ from memA) memA (fun T2 lev2 ws2 seen2 g1 l1 m1 gn ln mn g3 l3 m3 g4 l4 m4 g5 l5 m5 e2 hd2 hn2 => ?_)))
     refine qs 9 ?_
     refine Gi (n + 1, e2, (T2, lev2, ws2, seen2), ((g1, l1, m1), (gn, ln, mn), (g3, l3, m3), (g4, l4, m4), (g5, l5, m5)), o2, (g6, l6, z6)) ⟨by simp only; omega, by simp only; omega, ⟨A ++ W, hto2, by simp only; rw [hal, ← resD_of hd2, List.append_assoc, show 7 - (n + 1) = 6 - n by omega]⟩, fun e0 _ => ⟨docNext_is hdk (by rcases hd2 with ⟨h1, _⟩ | ⟨_, h2⟩; exact absurd e0 h1; exact h2), by obtain ⟨e1, e2, e3⟩ := hn2 e0; simp only; rw [e1, e2, e3]⟩⟩ (by simp only; omega) srA (Gj (mem2 memA memA (mem2 memA memA (mem1 memA (fun x hx => by repeat (first | exact hx | refine List.mem_cons_of_mem _ ?_))))))
    refine qs 11 ?_
    obtain rfl : n = 6 := by omega
    exact Gi (7, 0, (T, lev, ws, seen), ((b1, j1, d1), (b2', j2, d2), (f3, j3, d3), (f4, j4, d4), (f5, j5, d5)), o2, (g6, l6, z6)) ⟨by simp only; omega, by simp only; omega, ⟨A ++ W, hto2, by simp only; rw [hal]; simp [docW]⟩, fun _ h => absurd h (by simp only; omega)⟩ (by simp only; omega) srA (Gj (mem2 memA memA (mem2 memA memA (mem1 memA (fun x hx => by repeat (first | exact hx | refine List.mem_cons_of_mem _ ?_))))))
   refine qs 16 ?_
   have hnm : namesP N T0 i o := by
    rw [docW_end (.inr c19), List.append_nil] at hal
    exact ⟨hto.1, by rw [hal]; exact hto.2⟩
   exact Gb (L' := L) (F' := fS o f6 j6 d6 :: F) Tryz.results40 rfl (by repeat (first | exact Gj (mem1 memA (fun x hx => by repeat (first | exact hx | refine List.mem_cons_of_mem _ ?_))) | refine GM GA ?_)) (h o _ _ _ hnm HY)
  refine qs 20 ?_
  have hnm : namesP N T0 i o := by
   rw [docW_end (.inl HY), List.append_nil] at hal
   exact ⟨hto.1, by rw [hal]; exact hto.2⟩
  exact Gb (L' := L) (F' := fS o f6 j6 d6 :: F) Tryz.results40 rfl (by repeat (first | exact Gj (mem1 memA (fun x hx => by repeat (first | exact hx | refine List.mem_cons_of_mem _ ?_))) | refine GM GA ?_)) (h o _ _ _ hnm HY)
end
end Go.Sy
namespace Go.Sy
open Go Go.Proofs Go.RowKit
def stA : Ty := ⟨6, [], 0, [[65]], [2]⟩
def nmT0 : Ty := ⟨8, [112, 46, 84], 0, [], []⟩
def stT : Ty := ⟨6, [], 0, [[43, 84]], [23]⟩
def aliveS : List Ty := startL ++ [stA, nmT0, stT]
def nmS : Nmd := ⟨[112, 46, 84], [], 22, []⟩
theorem aliveS_len : aliveS.length = 25 := by decide
theorem aliveS_right : rightP aliveS := by
  have h : aliveS = ((startL ++ [stA]) ++ [nmT0]) ++ [stT] := by unfold aliveS; simp
  rw [h]
  have f1 : fieldsP stA.words := fun i hi => by
    have : i = 0 := by simp [stA] at hi; exact hi
    subst this
    exact ⟨(by decide : isName [65] = true), fun j hj => absurd hj HY⟩
  have f2 : fieldsP stT.words := fun i hi => by
    have : i = 0 := by simp [stT] at hi; exact hi
    subst this
    exact ⟨(by decide : isName [84] = true), fun j hj => absurd hj HY⟩
  refine right_snoc (right_snoc (right_snoc start_right (by decide) ⟨fun k hk => ?_, by decide, fun _ => rfl, fun h6 _ => absurd rfl h6, .inr (.inr (.inr (.inr (.inr (.inl ⟨rfl, rfl, f1, rfl⟩)))))⟩ (by decide)) (by decide) ⟨fun k hk => ?_, by decide, fun e => absurd rfl e, fun _ _ => rfl, (madeK_8 rfl).2 ⟨rfl, by unfold namedP; decide⟩⟩ (by decide)) (by decide) ⟨fun k hk => ?_, by decide, fun _ => rfl, fun h6 _ => absurd rfl h6, .inr (.inr (.inr (.inr (.inr (.inl ⟨rfl, rfl, f2, rfl⟩)))))⟩ (by decide)
  · have : k = 2 := by simpa [stA] using hk
    rw [this]; decide
  · simp [nmT0] at hk
  have : k = 23 := by simpa [stT] using hk
  rw [this]; decide
theorem nmS_named : namedU aliveS nmS := by
  refine ⟨by unfold namedP; decide, ⟨by decide, fun b hb => absurd hb (by simp [nmS])⟩, ⟨by unfold fewA; decide, by unfold isK; decide, by unfold isK; decide, by decide⟩, by decide, fun j hj => absurd hj (by simp [nmS]), fun e => absurd HV e⟩
theorem aliveS_rightU : rightU aliveS [nmS] := by
  refine ⟨aliveS_right, by decide, fun i hi => ?_, fun t ht h8 => ?_⟩
  · have h0 : i = 0 := by simp at hi; exact hi
    subst h0
    exact ⟨nmS_named, fun h => absurd h (by decide)⟩
  have hn : ∀ t ∈ startL ++ [stA], t.kind ≠ 8 := by decide
  have h : aliveS = (startL ++ [stA]) ++ [nmT0, stT] := by unfold aliveS; simp
  rw [h] at ht
  rcases List.mem_append.1 ht with h | h
  · exact absurd h8 (hn t h)
  simp at h
  rcases h with rfl | rfl
  · exact ⟨0, rfl, rfl⟩
  exact absurd h8 (by decide)
theorem nmS_ok : ∀ n ∈ [nmS], NmOk n := by
  intro n hn
  have : n = nmS := by simpa using hn
  subst this
  exact ⟨by decide, fun m hm => by simp [nmS] at hm⟩
theorem aliveS_sub : subR aliveS 22 [] = .ok (aliveS, 22) := subR_zero aliveS_right (by decide) (by decide)
theorem look24 : lookR aliveS [nmS] 24 = .ok (aliveS, ⟨24, []⟩) := by
  refine look_ok (k := 24) (o := aliveS) ?_ ?_
  · exact und_not (n := 24) (by decide) (by decide)
  rw [if_neg (by decide)]
  exact own_none (n := 24) (by decide) (by decide) (by decide)
theorem look23 : lookR aliveS [nmS] 23 = .ok (aliveS, ⟨22, []⟩) := by
  refine look_ok (k := 22) (o := aliveS) ?_ ?_
  · rw [show (23 : Int) = ((23 : Nat) : Int) from rfl, und_8 (N := [nmS]) (n := 23) (j := 0) (u := 22) (by decide) (by decide) (by decide) rfl rfl]
    exact aliveS_sub
  rw [if_neg (by decide)]
  rw [show (23 : Int) = ((23 : Nat) : Int) from rfl, own_8 (N := [nmS]) (n := 23) (j := 0) (by decide) (by decide) (by decide) rfl]
  rfl
theorem aliveS_find : findR [nmS] aliveS 24 [65] = .ok (aliveS, ⟨false, 2, false, false, [0, 0]⟩) := by
  unfold findR levelsL
  rw [show (24 : Int) = ((24 : Nat) : Int) from rfl, first_not (N := [nmS]) (n := 24) (by decide) (by decide)]
  simp only
  have l1 : looksR [nmS] aliveS [⟨((24 : Nat) : Int), false, false, []⟩] 1 = .ok (aliveS, [⟨24, []⟩]) := looks_ok (q := 0) (by decide) rfl look24
  have f1 : stpF [65] [] aliveS [⟨((24 : Nat) : Int), false, false, []⟩] [⟨24, []⟩] = [] := by decide
  have n1 : nextL aliveS [⟨((24 : Nat) : Int), false, false, []⟩] [⟨24, []⟩] (typs [⟨((24 : Nat) : Int), false, false, []⟩]) = [⟨23, false, false, [0]⟩] := by decide
  rw [runL_go (n := 6) l1 (by decide) (by rw [f1]; rfl), f1, n1]
  have l2 : looksR [nmS] aliveS [⟨23, false, false, [0]⟩] 1 = .ok (aliveS, [⟨22, []⟩]) := looks_ok (q := 0) (by decide) rfl look23
  have f2 : stpF [65] [] aliveS [⟨23, false, false, [0]⟩] [⟨22, []⟩] = [⟨false, 2, false, false, [0, 0]⟩] := by decide
  rw [runL_stop (n := 5) l2 (by decide) (by rw [f2]; rfl), f2]
  rfl
attribute [local irreducible] AC AT AO AK AH ACalls Sub Res.cells Res.obj Res.nix Res.own Res.map Exit.then Exit.inBlock bodyPost Code.wp Code.wpIn WL Next Post Kont
section
variable {W0 : World} {L : List Res} {F : List Fact} {R : Value → List Res → List Fact → Prop}
set_option maxRecDepth 100000
set_option maxHeartbeats 16000000
theorem sfew_c (l : List Ty) (N : List Nmd) {a a2 : Option Addr} {k c k2 c2 : Nat} (m1 : fL l a k c ∈ F) (m2 : fN N a2 k2 c2 ∈ F) (h : ∀ a k c a2 k2 c2, R (.agg #[.slice a k c, .slice a2 k2 c2]) L (fL (fewS l 70) a k c :: fN (fewN N 20) a2 k2 c2 :: F)) : ACalls Tryz.prog W0 18 #[.agg #[.slice a k c, .slice a2 k2 c2]] L F R := by
  refine Gh Tryz.func18 HV Tryz.ntmps18 HV ?_
  refine qs 2 ?_
  refine Ga (GO HV HV (fun b1 => (Ga (Gl HV (fun b2 => ?_)))))
  refine qs 5 ?_
  refine Ga (Gl HV (fun b3 => ?_))
  refine qs 10 ?_
  refine Ga (Gn HV HV (fun hl13 => ?_) (enc := eTy) (lst := l) (hm := memA))
  refine Ga (AO.min HV HV HV ?_)
  refine Ga (AO.sliceH (j' := min l.length 70) HV HV HV HY (enc := eTy) (lst := l) memA HY (fun a15 k15 c15 => ?_))
  refine Ga (Gn HV HV (fun hl16 => ?_) (enc := eTy) (lst := l.take (min l.length 70)) (hm := memA))
  refine qs 4 ?_
  have hfew : fewS l 70 = (l.take (min l.length 70)).map oneS := rfl
  have hwl : (l.take (min l.length 70)).length ≤ 70 := by simp only [List.length_take]; omega
  generalize l.take (min l.length 70) = l' at hwl hfew ⊢
  refine Gz (fun (i : Nat × Option Addr × Nat × Nat) => i.1 ≤ l'.length) (fun i => [(1, .pointer (some ⟨b1, 0, none⟩)), (2, .pointer (some ⟨b2, 0, none⟩)), (3, .pointer (some ⟨b3, 0, none⟩)), (15, .slice a15 k15 c15), (16, .int .i64 l'.length), (17, .int .i64 (i.1 : Int))]) (fun i => Res.own (.slice i.2.1 i.2.2.1 i.2.2.2) 29 5 (((l'.take i.1).map oneS).map eTy) :: Res.cells b3 #[.slice i.2.1 i.2.2.1 i.2.2.2, .slice none 0 0] _ :: _) (fun _ => fL l' a15 k15 c15 :: F) (fun i => l'.length - i.1) (0, none, 0, 0) (by simp) srA GY ?_
  rintro ⟨q, a3, k3, c3⟩ hq
  simp only at hq ⊢
  refine qs 2 ?_
  refine Ga (Gu HV HV HV (fun c18 => ?_) (fun c18 => ?_))
  ·refine qs 10 ?_
   have hql : q < l'.length := by omega
   refine Ga (Gd HV HV HV HV (enc := eTy) (lst := l') memA hql (fun _ _ => ?_))
   refine Ga (GJ HV HV ?_)
   intro a18 k18 z18 d18 e18 f18
   refine Ga (Gl HV (fun b5 => ?_))
   refine qs 4 ?_
   refine GP (fun i => Nat.beq i 22 || Nat.beq i 24 || Nat.beq i 26) [(b5, _, _)] bxA HV (fun hx hX => ?_)
   have hk1 := (Gs (hX (fW l'[q] a18 k18 z18) memA)).1
   have hk2 := (Gs (hX (fK l'[q] d18 e18 f18) memA)).1
   have hc1 := (Gs (hX (fW l'[q] a18 k18 z18) memA)).2
   have hc2 := (Gs (hX (fK l'[q] d18 e18 f18) memA)).2
   subst hk1 hk2
   refine AH.weak (Sub.part (enc := eS) (lst := l'[q].words) 0 (min l'[q].words.length 18) z18 (show fW l'[q] _ _ z18 ∈ _ from memA) HY HY HY HY) ?_
   refine AH.weak (Sub.part (enc := eI) (lst := l'[q].kids) 0 (min l'[q].kids.length 18) f18 (show fK l'[q] _ _ f18 ∈ _ from memA) HY HY HY HY) ?_
   refine qt [0, 1, 2, 3, 4, 5] ?_
   refine GE (i := 6) HV (Y.sliceSH (j' := min l'[q].name.length 50) HV HV HY HY) HW HV HV ?_
   refine qt [7, 8, 9, 10, 11, 12] ?_
   refine GE (i := 13) HV (Y.sliceH (j' := min l'[q].words.length 18) HV HV HY HY) HW HV HV ?_
   refine qt [14, 15, 16, 17, 18, 19] ?_
   refine GE (i := 20) HV (Y.sliceH (j' := min l'[q].kids.length 18) HV HV HY HY) HW HV HV ?_
   refine qt [21] ?_
   refine Gm (i := 22) HW HV HV (fun _ => ?_)
   refine GG HV HV HV ?_
   refine Gw HV ?_
   refine qt [23] ?_
   refine Gm (i := 24) HW HV HV (fun _ => ?_)
   refine GG HV HV HV ?_
   refine Gw HV ?_
   refine qt [25] ?_
   refine Gm (i := 26) HW HV HV (fun _ => ?_)
   refine GG HV HV HV ?_
   refine Gw HV ?_
   refine Gq HW ?_
   refine qs 5 ?_
   refine Ga (Gg HV HV HV HV HV (fun b48 => ?_))
   have htl : ((l'.take q).map oneS).length = q := by rw [List.length_map, List.length_take]; omega
   refine Ga (GB (i := 1) (enc := eTy) (lst := (l'.take q).map oneS) [oneS l'[q]] HV HV HV HV (.val (.val (.val (.slc (.slc .nil memA) memA)))) HV HV (fun _ => rfl) (by rw [htl]; simp only [maxLen]; omega) (by rw [htl]; omega) (fun a49 k49 c49 => ?_))
   rw [fewS_step hql]
   refine qs 9 ?_
   refine Gi (q + 1, a49, k49, c49) (by simp only; omega) (by simp only; omega) srA (Sub.drop.trans subF)
  refine qs 13 ?_
  have hall : l'.take q = l' := List.take_of_length_le HY
  rw [hall]
  refine GD ((Gv (i := 0) HV).trans GA) ?_
  refine Ga (GR HV HV ?_)
  refine qs 2 ?_
  refine Ga (Gn HV HV (fun hl56 => ?_) (enc := eNm) (lst := N) (hm := memA))
  refine Ga (AO.min HV HV HV ?_)
  refine Ga (AO.sliceH (j' := min N.length 20) HV HV HV HY (enc := eNm) (lst := N) memA HY (fun a58 k58 c58 => ?_))
  refine Ga (Gn HV HV (fun hl59 => ?_) (enc := eNm) (lst := N.take (min N.length 20)) (hm := memA))
  refine qs 4 ?_
  have hfewN : fewN N 20 = (N.take (min N.length 20)).map oneN := rfl
  have hwN : (N.take (min N.length 20)).length ≤ 20 := by simp only [List.length_take]; omega
  generalize N.take (min N.length 20) = N' at hwN hfewN ⊢
  refine Gz (fun (i : Nat × Option Addr × Nat × Nat) => i.1 ≤ N'.length) (fun i => [(2, .pointer (some ⟨b2, 0, none⟩)), (3, .pointer (some ⟨b3, 0, none⟩)), (58, .slice a58 k58 c58), (59, .int .i64 N'.length), (60, .int .i64 (i.1 : Int))]) (fun i => Res.own (.slice i.2.1 i.2.2.1 i.2.2.2) 78 4 (((N'.take i.1).map oneN).map eNm) :: Res.cells b3 #[.slice a3 k3 c3, .slice i.2.1 i.2.2.1 i.2.2.2] _ :: _) (fun _ => fN N' a58 k58 c58 :: fL (l'.map oneS) a3 k3 c3 :: F) (fun i => N'.length - i.1) (0, none, 0, 0) (by simp) srA (Sub.ownNil.trans (Gj (mem2 memA memA (fun x hx => by repeat (first | exact hx | refine List.mem_cons_of_mem _ ?_))))) ?_
  rintro ⟨w, a4, k4, c4⟩ hw
  simp only at hw ⊢
  refine qs 2 ?_
  refine Ga (Gu HV HV HV (fun c61 => ?_) (fun c61 => ?_))
  ·refine qs 10 ?_
   have hwl' : w < N'.length := by omega
   refine Ga (Gd HV HV HV HV (enc := eNm) (lst := N') memA hwl' (fun _ _ => ?_))
   refine Ga (GJ HV HV ?_)
   intro a63 k63 z63 d63 e63 f63
   refine Ga (Gl HV (fun b7 => ?_))
   refine qs 4 ?_
   refine GP (fun i => Nat.beq i 22 || Nat.beq i 24 || Nat.beq i 26) [(b7, _, _)] bxA HV (fun hx hX => ?_)
   have hk1 := (Gs (hX (fBd N'[w] a63 k63 z63) memA)).1
   have hk2 := (Gs (hX (fMs N'[w].methods d63 e63 f63) memA)).1
   have hc1 := (Gs (hX (fBd N'[w] a63 k63 z63) memA)).2
   have hc2 := (Gs (hX (fMs N'[w].methods d63 e63 f63) memA)).2
   subst hk1 hk2
   refine AH.weak (Sub.part (enc := eI) (lst := N'[w].bounds) 0 (min N'[w].bounds.length 18) z63 (show fBd N'[w] _ _ z63 ∈ _ from memA) HY HY HY HY) ?_
   refine AH.weak (Sub.part (enc := eMt) (lst := N'[w].methods) 0 (min N'[w].methods.length 18) f63 (show fMs N'[w].methods _ _ f63 ∈ _ from memA) HY HY HY HY) ?_
   refine qt [0, 1, 2, 3, 4, 5] ?_
   refine GE (i := 6) HV (Y.sliceSH (j' := min N'[w].name.length 50) HV HV HY HY) HW HV HV ?_
   refine qt [7, 8, 9, 10, 11, 12] ?_
   refine GE (i := 13) HV (Y.sliceH (j' := min N'[w].bounds.length 18) HV HV HY HY) HW HV HV ?_
   refine qt [14, 15, 16, 17, 18, 19] ?_
   refine GE (i := 20) HV (Y.sliceH (j' := min N'[w].methods.length 18) HV HV HY HY) HW HV HV ?_
   refine qt [21] ?_
   refine Gm (i := 22) HW HV HV (fun _ => ?_)
   refine GG HV HV HV ?_
   refine Gw HV ?_
   refine qt [23] ?_
   refine Gm (i := 24) HW HV HV (fun _ => ?_)
   refine GG HV HV HV ?_
   refine Gw HV ?_
   refine qt [25] ?_
   refine Gm (i := 26) HW HV HV (fun _ => ?_)
   refine GG HV HV HV ?_
   refine Gw HV ?_
   refine Gq HW ?_
   refine qs 5 ?_
   refine Ga (Gg HV HV HV HV HV (fun b91 => ?_))
   have htl : ((N'.take w).map oneN).length = w := by rw [List.length_map, List.length_take]; omega
   refine Ga (GB (i := 1) (enc := eNm) (lst := (N'.take w).map oneN) [oneN N'[w]] HV HV HV HV (.val (.slc (.val (.slc .nil memA)) memA)) HV HV (fun _ => rfl) (by rw [htl]; simp only [maxLen]; omega) (by rw [htl]; omega) (fun a92 k92 c92 => ?_))
   rw [fewN_step hwl']
   refine qs 9 ?_
   refine Gi (w + 1, a92, k92, c92) (by simp only; omega) (by simp only; omega) srA (Sub.drop.trans subF)
  refine qs 11 ?_
  have hallN : N'.take w = N' := List.take_of_length_le HY
  rw [hallN]
  refine GD ((Gv (i := 0) HV).trans GA) ?_
  refine Ga (HG HV HV ?_)
  refine qs 4 ?_
  rw [hfew, hfewN] at h
  exact Gx (rs := [.cell 2 _]) (L' := L) (F' := fL (l'.map oneS) a3 k3 c3 :: fN (N'.map oneN) a4 k4 c4 :: F) Tryz.results18 (.agg (j := 1) rfl rfl rfl .nil) (Sub.drop.trans (Sub.drop.trans (Sub.drop.trans (Gj (mem2 memA memA (fun x hx => by repeat (first | exact hx | refine List.mem_cons_of_mem _ ?_))))))) (h _ _ _ _ _ _)
theorem salive_c (g : Glob W0) (h : R (.bool true) L F) : ACalls Tryz.prog W0 22 #[] L F R := by
  refine Hy ((Hm (sz := 3)).trans ((Hm (sz := 1)).trans (Hm (sz := 5)))) ?_
  refine Gh Tryz.func22 HV Tryz.ntmps22 HV ?_
  refine qs 7 ?_
  refine Ga (Gf HV HV (rstartO_c (fun a5 k5 c5 => ?_)))
  refine Ga (Gg HV HV HV HV HV (fun b6 => ?_))
  refine GD (GM (Hf (i := 0) (enc := eS) (sz := 1) [[65]] HV (.val .nil) (fun _ => rfl) HV (by decide)) GA) ?_
  refine Ga (Gg HV HV HV HV HV (fun b7 => ?_))
  refine GD (GM (Hf (i := 0) (enc := eI) (sz := 1) [2] HV (.val .nil) (fun _ => rfl) HV (by decide)) GA) ?_
  refine Ga (GI HV HV HV (Ga (GI HV HV HV ?_)))
  refine Ga (Gg HV HV HV HV HV (fun b10 => ?_))
  refine GD (GM (Hf (i := 0) (enc := eS) (sz := 1) [[43, 84]] HV (.val .nil) (fun _ => rfl) HV (by decide)) GA) ?_
  refine Ga (Gg HV HV HV HV HV (fun b11 => ?_))
  refine GD (GM (Hf (i := 0) (enc := eI) (sz := 1) [23] HV (.val .nil) (fun _ => rfl) HV (by decide)) GA) ?_
  refine Ga (GI HV HV HV ?_)
  refine Ga (Gg HV HV HV HV HV (fun b13 => ?_))
  refine Ga (GB (i := 0) (enc := eTy) (lst := startL) [stA, nmT0, stT] HV HV HV HV (.val (.val (.val (.slc (.slc (.val (.val (.val (.slc (.slc (.val (.val (.val (.slc (.slc .nil memA) memA)))) memA) memA)))) memA) memA)))) HV HV (fun _ => rfl) (by decide) (by decide) (fun a14 k14 c14 => ?_))
  refine GD ((Gv (i := 0) HV).trans GA) ?_
  refine qs 6 ?_
  refine Ga (GI HV HV HV ?_)
  refine Ga (Gg HV HV HV HV HV (fun b18 => ?_))
  refine GD (GM (Hf (i := 0) (enc := eNm) (sz := 4) [nmS] HV (.val (.slc (.val (.slc .nil memA)) memA)) (fun _ => rfl) HV (by decide)) GA) ?_
  refine Ga (GI HV HV HV ?_)
  refine Ga (Gf HV HV (sFind_c g aliveS [nmS] (Hu aliveS_right) nmS_ok 24 [65] (show fL aliveS _ _ _ ∈ _ from memA) (show fN [nmS] _ _ _ ∈ _ from memA) memA memA (fun e _ hb => ?_) (fun _ _ _ _ _ e _ he => ?_) (fun _ _ _ _ _ o x a20 k20 c20 a21 k21 c21 hx => ?_)))
  · rcases hb with ⟨h, _⟩ | ⟨_, h, _⟩ | ⟨_, _, h, _⟩
    · exact absurd aliveS_rightU h
    · exact absurd (by rw [aliveS_len]; decide) h
    exact absurd h (by decide)
  · rw [aliveS_find] at he; cases he
  rw [aliveS_find] at hx
  injection hx with hx
  injection hx with hx1 hx2
  subst hx1 hx2
  refine qs 4 ?_
  refine Ga (Gl HV (fun b2 => (Ga (Gl HV (fun b3 => ?_)))))
  refine qs 8 ?_
  refine Ga (Gr HV HV HV (fun c25 => ?_) (fun c25 => ?_))
  ·refine qs 2 ?_
   refine Ge HV HV (GR HV HV ?_)
   refine qs 5 ?_
   refine Ge HV HV (Gr HV HV HV (fun c34 => ?_) (fun c34 => ?_))
   ·refine qs 4 ?_
    refine Ge HV HV (Gn HV HV (fun hl39 => ?_) (enc := eI) (lst := [0, 0]) (hm := (show Fact.slc (.slice a21 k21 c21) 1 (([0, 0] : List Int).map eI) ∈ _ from memA)))
    refine Ge HV HV (Gr HV HV HV (fun c40 => ?_) (fun c40 => ?_))
    ·refine qs 5 ?_
     first | exact Gb (L' := L) (F' := F) Tryz.results22 rfl subA h | exact absurd rfl c25 | exact absurd rfl c34 | exact absurd (by decide) c40
    refine qs 5 ?_
    first | exact Gb (L' := L) (F' := F) Tryz.results22 rfl subA h | exact absurd rfl c25 | exact absurd rfl c34 | exact absurd (by decide) c40
   refine qs 11 ?_
   first | exact Gb (L' := L) (F' := F) Tryz.results22 rfl subA h | exact absurd rfl c25 | exact absurd rfl c34 | exact absurd (by decide) c40
  refine qs 20 ?_
  first | exact Gb (L' := L) (F' := F) Tryz.results22 rfl subA h | exact absurd rfl c25 | exact absurd rfl c34 | exact absurd (by decide) c40
end
end Go.Sy
namespace Go.Sy
open Go Go.Proofs Go.RowKit
abbrev noS : SelV := ⟨false, 0, false, false, []⟩
def goodS (T : List Ty) (N : List Nmd) (i : Int) (s : List UInt8) : Prop := rightU T N ∧ (0 ≤ i ∧ i < T.length) ∧ isName s = true ∧ s ≠ [95]
def selP (T : List Ty) (N : List Nmd) (i : Int) (s : List UInt8) (o : List Ty) (M : List Nmd) (x : SelV) (e : Int) : Prop :=
  (e ≠ 0 ∧ (badS T N i s e ∨ (goodS T N i s ∧ findR N T i s = .error e)) ∧ o = [] ∧ M = [] ∧ x = noS) ∨ (e = 0 ∧ goodS T N i s ∧ findR N T i s = .ok (o, x) ∧ M = N)
def docS (T : List Ty) (N : List Nmd) (i : Int) (s : List UInt8) (o : List Ty) (M : List Nmd) (x : SelV) (e : Int) : Prop :=
  (e ≠ 0 ∧ findR N T i s = .error e ∧ o = [] ∧ M = [] ∧ x = noS) ∨ (e = 0 ∧ findR N T i s = .ok (o, x) ∧ M = N)
attribute [local irreducible] AC AT AO AK AH ACalls Sub Res.cells Res.obj Res.nix Res.own Res.map Exit.then Exit.inBlock bodyPost Code.wp Code.wpIn WL Next Post Kont
section
variable {W0 : World} {L : List Res} {F : List Fact} {R : Value → List Res → List Fact → Prop}
set_option maxRecDepth 100000
set_option maxHeartbeats 16000000
theorem sFind2_c (g : Glob W0) (T : List Ty) (N : List Nmd) (hok : ∀ t ∈ T, TyOk t) (hno : ∀ n ∈ N, NmOk n) (i : Int) (s : List UInt8) {a a2 : Option Addr} {k c k2 c2 : Nat} (mL : fL T a k c ∈ F) (mN : fN N a2 k2 c2 ∈ F) (mE : Fact.slc (.slice none 0 0) 5 [] ∈ F) (mM : Fact.slc (.slice none 0 0) 3 [] ∈ F) (m4 : Fact.slc (.slice none 0 0) 4 [] ∈ F) (m1 : Fact.slc (.slice none 0 0) 1 [] ∈ F)
    (h : ∀ o M x e a k c an kn cn a5 k5 c5, selP T N i s o M x e → R (.tuple #[.agg #[.slice a k c, .slice an kn cn], vSl x a5 k5 c5, .int .i64 e]) L (fL o a k c :: fN M an kn cn :: fI x.path a5 k5 c5 :: F)) :
    ACalls Tryz.prog W0 19 #[.agg #[.slice a k c, .slice a2 k2 c2], .int .i64 i, S s] L F R := by
  refine ACalls.out (R' := fun v L' F' => ∃ F'', Sub L' F' L' F'' ∧ R v L' F'') ?_ (fun v L' F' ⟨F'', h1, h2⟩ => ⟨L', F'', h1, h2⟩)
  refine sFind_c g T N hok hno i s mL mN mE mM (fun e he hb => ⟨_, Gj ?_, h [] [] noS e none 0 0 none 0 0 none 0 0 (.inl ⟨he, .inl hb, rfl, rfl, rfl⟩)⟩) (fun c1 c2 c3 c4 c5 e he hx => ⟨_, Gj ?_, h [] [] noS e none 0 0 none 0 0 none 0 0 (.inl ⟨he, .inr ⟨⟨c1, ⟨c2, c3⟩, c4, c5⟩, hx⟩, rfl, rfl, rfl⟩)⟩) (fun c1 c2' c3 c4 c5 o x a k c a5 k5 c5' hx => ⟨_, Gj ?_, h o N x 0 a k c a2 k2 c2 a5 k5 c5' (.inr ⟨rfl, ⟨c1, ⟨c2', c3⟩, c4, c5⟩, hx, rfl⟩)⟩)
  · exact mem2 mE m4 (mem1 m1 (fun x hx => hx))
  · exact mem2 mE m4 (mem1 m1 (fun x hx => hx))
  exact mem2 memA (List.mem_cons_of_mem _ (List.mem_cons_of_mem _ mN)) (mem1 memA (fun x hx => List.mem_cons_of_mem _ (List.mem_cons_of_mem _ hx)))
theorem rFind2_c (T : List Ty) (N : List Nmd) (i : Int) (s : List UInt8) (hg : goodS T N i s) {a a2 : Option Addr} {k c k2 c2 : Nat} (mL : fL T a k c ∈ F) (mN : fN N a2 k2 c2 ∈ F) (mE : Fact.slc (.slice none 0 0) 5 [] ∈ F) (m4 : Fact.slc (.slice none 0 0) 4 [] ∈ F) (m1 : Fact.slc (.slice none 0 0) 1 [] ∈ F)
    (h : ∀ o M x e a k c an kn cn a5 k5 c5, docS T N i s o M x e → R (vF a k c an kn cn x a5 k5 c5 e) L (fL o a k c :: fN M an kn cn :: fI x.path a5 k5 c5 :: F)) :
    ACalls Tryz.prog W0 25 #[.agg #[.slice a k c, .slice a2 k2 c2], .int .i64 i, S s] L F R := by
  refine ACalls.out (R' := fun v L' F' => ∃ F'', Sub L' F' L' F'' ∧ R v L' F'') ?_ (fun v L' F' ⟨F'', h1, h2⟩ => ⟨L', F'', h1, h2⟩)
  refine rFind_c T N hg.1 i hg.2.1.1 hg.2.1.2 s mL mN mE (fun e he hx => ⟨_, Gj ?_, h [] [] noS e none 0 0 none 0 0 none 0 0 (.inl ⟨he, hx, rfl, rfl, rfl⟩)⟩) (fun o x a k c a5 k5 c5' hx => ⟨_, Gj ?_, h o N x 0 a k c a2 k2 c2 a5 k5 c5' (.inr ⟨rfl, hx, rfl⟩)⟩)
  · exact mem2 mE m4 (mem1 m1 (fun x hx => hx))
  exact mem2 memA (List.mem_cons_of_mem _ (List.mem_cons_of_mem _ mN)) (mem1 memA (fun x hx => List.mem_cons_of_mem _ (List.mem_cons_of_mem _ hx)))
end
end Go.Sy
namespace Go.Sy
open Go Go.Proofs Go.RowKit
def badT (T : List Ty) (N : List Nmd) (i : Int) (e : Int) : Prop := (¬ rightU T N ∧ e = 1) ∨ (rightU T N ∧ ¬(0 ≤ i ∧ i < T.length) ∧ e = 8)
theorem badT_once {T : List Ty} {N : List Nmd} {i e b : Int} (h1 : badT T N i e) (h2 : badT T N i b) : e = b := by
  rcases h1 with ⟨h, e1⟩ | ⟨h, h', e1⟩ <;> rcases h2 with ⟨k, e2⟩ | ⟨k, k', e2⟩
  all_goals first | omega | exact absurd k h | exact absurd h k
theorem badT_not {T : List Ty} {N : List Nmd} {i e : Int} (h : badT T N i e) (hu : rightU T N) (hi : 0 ≤ i ∧ i < T.length) : False := by
  rcases h with ⟨h, _⟩ | ⟨_, h, _⟩
  · exact h hu
  exact h hi
noncomputable def hasV (N : List Nmd) (T : List Ty) (i : Int) (s : List UInt8) (g : Int) : Bool :=
  if isName s = true ∧ s ≠ [95] then match findR N T i s with
    | .ok (_, x) => x.method && decide (x.typ = g) && (!x.ptr || x.via)
    | .error _ => false
  else false
section
variable {N : List Nmd} {T : List Ty} {i g : Int} {s : List UInt8}
theorem hasV_no (h : ¬(isName s = true ∧ s ≠ [95])) : hasV N T i s g = false := by unfold hasV; rw [if_neg h]
theorem hasV_err (h1 : isName s = true) (h2 : s ≠ [95]) {e : Int} (h : findR N T i s = .error e) : hasV N T i s g = false := by unfold hasV; rw [if_pos ⟨h1, h2⟩, h]
theorem hasV_ok (h1 : isName s = true) (h2 : s ≠ [95]) {o : List Ty} {x : SelV} (h : findR N T i s = .ok (o, x)) : hasV N T i s g = (x.method && decide (x.typ = g) && (!x.ptr || x.via)) := by unfold hasV; rw [if_pos ⟨h1, h2⟩, h]
end
def namP (T : List Ty) (N : List Nmd) (i : Int) (l : List (List UInt8)) (e : Int) : Prop := (e ≠ 0 ∧ badT T N i e ∧ l = []) ∨ (e = 0 ∧ rightU T N ∧ (0 ≤ i ∧ i < T.length) ∧ namesP N T i l ∧ l.length ≤ 112000)
def hasP (T : List Ty) (N : List Nmd) (i : Int) (s : List UInt8) (g : Int) (is : Bool) (f : Int) : Prop := (f ≠ 0 ∧ badT T N i f ∧ is = false) ∨ (rightU T N ∧ (0 ≤ i ∧ i < T.length) ∧ ((¬(0 ≤ g ∧ g < T.length) ∧ f = 8 ∧ is = false) ∨ ((0 ≤ g ∧ g < T.length) ∧ f = 0 ∧ is = hasV N T i s g)))
theorem nam_bad {T : List Ty} {N : List Nmd} {i : Int} {l : List (List UInt8)} {e b : Int} (h : namP T N i l e) (hb : badT T N i b) : e = b ∧ l = [] := by
  rcases h with ⟨_, h1, h2⟩ | ⟨_, h1, h2, _⟩
  · exact ⟨badT_once h1 hb, h2⟩
  exact (badT_not hb h1 h2).elim
theorem has_bad {T : List Ty} {N : List Nmd} {i : Int} {s : List UInt8} {g : Int} {is : Bool} {f b : Int} (h : hasP T N i s g is f) (hb : badT T N i b) : f = b ∧ is = false := by
  rcases h with ⟨_, h1, h2⟩ | ⟨h1, h2, _⟩
  · exact ⟨badT_once h1 hb, h2⟩
  exact (badT_not hb h1 h2).elim
theorem nam_ok {T : List Ty} {N : List Nmd} {i : Int} {l : List (List UInt8)} {e : Int} (h : namP T N i l e) (hu : rightU T N) (hi : 0 ≤ i ∧ i < T.length) : e = 0 ∧ namesP N T i l ∧ l.length ≤ 112000 := by
  rcases h with ⟨_, h1, _⟩ | ⟨h, _, _, h3⟩
  · exact (badT_not h1 hu hi).elim
  exact ⟨h, h3⟩
theorem has_ok {T : List Ty} {N : List Nmd} {i : Int} {s : List UInt8} {g : Int} {is : Bool} {f : Int} (h : hasP T N i s g is f) (hu : rightU T N) (hi : 0 ≤ i ∧ i < T.length) : (¬(0 ≤ g ∧ g < T.length) ∧ f = 8 ∧ is = false) ∨ ((0 ≤ g ∧ g < T.length) ∧ f = 0 ∧ is = hasV N T i s g) := by
  rcases h with ⟨_, h1, _⟩ | ⟨_, _, h⟩
  · exact (badT_not h1 hu hi).elim
  exact h
attribute [local irreducible] AC AT AO AK AH ACalls Sub Res.cells Res.obj Res.nix Res.own Res.map Exit.then Exit.inBlock bodyPost Code.wp Code.wpIn WL Next Post Kont
section
variable {W0 : World} {L : List Res} {F : List Fact} {R : Value → List Res → List Fact → Prop}
set_option maxRecDepth 100000
set_option maxHeartbeats 16000000
theorem sNames2_c (g : Glob W0) (T : List Ty) (N : List Nmd) (hok : ∀ t ∈ T, TyOk t) (hno : ∀ n ∈ N, NmOk n) (i : Int) {a a2 : Option Addr} {k c k2 c2 : Nat} (mL : fL T a k c ∈ F) (mN : fN N a2 k2 c2 ∈ F) (mE : Fact.slc (.slice none 0 0) 5 [] ∈ F) (mM : Fact.slc (.slice none 0 0) 3 [] ∈ F) (m1 : Fact.slc (.slice none 0 0) 1 [] ∈ F)
    (h : ∀ l e a k c, namP T N i l e → R (.tuple #[.slice a k c, .int .i64 e]) L (fS l a k c :: F)) :
    ACalls Tryz.prog W0 38 #[.agg #[.slice a k c, .slice a2 k2 c2], .int .i64 i] L F R := by
  refine ACalls.out (R' := fun v L' F' => ∃ F'', Sub L' F' L' F'' ∧ R v L' F'') ?_ (fun v L' F' ⟨F'', h1, h2⟩ => ⟨L', F'', h1, h2⟩)
  refine sNames_c g T N hok hno i mL mN mE mM (fun e he hb => ⟨_, Gj ?_, h [] e none 0 0 (.inl ⟨he, hb, rfl⟩)⟩) (fun hu h0 hi l a k c hl hn => ⟨_, Gc _ _, h l 0 a k c (.inr ⟨rfl, hu, ⟨h0, hi⟩, hl, hn⟩)⟩)
  exact mem1 m1 (fun x hx => hx)
theorem sHas_c (gl : Glob W0) (T : List Ty) (N : List Nmd) (hok : ∀ t ∈ T, TyOk t) (hno : ∀ n ∈ N, NmOk n) (i : Int) (s : List UInt8) (g : Int) {a a2 : Option Addr} {k c k2 c2 : Nat} (mL : fL T a k c ∈ F) (mN : fN N a2 k2 c2 ∈ F) (mE : Fact.slc (.slice none 0 0) 5 [] ∈ F) (mM : Fact.slc (.slice none 0 0) 3 [] ∈ F) (m4 : Fact.slc (.slice none 0 0) 4 [] ∈ F) (m1 : Fact.slc (.slice none 0 0) 1 [] ∈ F)
    (h : ∀ is f, hasP T N i s g is f → R (.tuple #[.bool is, .int .i64 f]) L F) :
    ACalls Tryz.prog W0 39 #[.agg #[.slice a k c, .slice a2 k2 c2], .int .i64 i, S s, .int .i64 g] L F R := by
  refine Gh Tryz.func39 HV Tryz.ntmps39 HV ?_
  refine qs 2 ?_
  refine Ga (GO HV HV (fun b4 => ?_))
  refine qs 9 ?_
  refine Ga (Gf HV HV (sthere_c gl T N hok hno i memA memA (fun e he => ?_) (fun hu hi => ?_)))
  ·refine qs 6 ?_
   have he0 : e ≠ 0 := by rcases he with ⟨_, h⟩ | ⟨_, _, h⟩ <;> omega
   refine Ga (GL HV HV HV (fun _ => ?_) (fun c18 => absurd c18 he0))
   refine qs 12 ?_
   exact HM (L' := L) (F' := F) Tryz.results39 rfl rfl subA (h false e (.inl ⟨he0, he, rfl⟩))
  refine qs 6 ?_
  refine Ga (GL HV HV HV (fun c18 => absurd HV c18) (fun _ => ?_))
  refine qs 9 ?_
  refine Ga (Gu HV HV HV (fun c21 => ?_) (fun c21 => ?_))
  ·refine qs 18 ?_
   exact HM (L' := L) (F' := F) Tryz.results39 rfl rfl subA (h false 8 (.inr ⟨hu, hi, .inl ⟨by omega, rfl, rfl⟩⟩))
  refine qs 4 ?_
  refine Ge HV HV (Gn HV HV (fun hl26 => ?_) (enc := eTy) (lst := T) (hm := memA))
  refine Ge HV HV (Hc HV HV HV (fun c27 => ?_) (fun c27 => ?_))
  ·refine qs 12 ?_
   exact HM (L' := L) (F' := F) Tryz.results39 rfl rfl subA (h false 8 (.inr ⟨hu, hi, .inl ⟨by omega, rfl, rfl⟩⟩))
  refine qs 11 ?_
  refine Ga (Gf HV HV (sFind2_c gl T N hok hno i s (show fL T _ _ _ ∈ _ from memA) (show fN N _ _ _ ∈ _ from memA) memA memA memA memA (fun o M x e a33 k33 c33 an kn cn a34 k34 c34 hs => ?_)))
  obtain ⟨mt, ty, pt, vi, pa⟩ := x
  refine qs 4 ?_
  refine Ga (Gl HV (fun b11 => (Ga (Gl HV (fun b12 => ?_)))))
  refine qs 8 ?_
  refine Ga (Gr HV HV HV (fun c38 => ?_) (fun c38 => ?_))
  ·refine qs 2 ?_
   rcases Bool.eq_false_or_eq_true mt with rfl | rfl
   all_goals refine Ge rfl rfl (GR rfl rfl ?_)
   ·refine qs 5 ?_
    refine Ge HV HV (Gr HV HV HV (fun c47 => ?_) (fun c47 => ?_))
    ·refine qs 3 ?_
     rcases Bool.eq_false_or_eq_true pt with rfl | rfl
     all_goals refine Ge rfl rfl (GR rfl rfl ?_)
     ·refine qs 11 ?_
      have hv : hasP T N i s g (hasV N T i s g) 0 := .inr ⟨hu, hi, .inr ⟨by omega, rfl, rfl⟩⟩
      refine HM (L' := L) (F' := F) Tryz.results39 HV HV subA ?_
      have h9 := h _ _ hv
      rcases hs with ⟨h0, h1 | ⟨⟨_, _, g3, g4⟩, h1⟩, _⟩ | ⟨h0, ⟨_, _, g3, g4⟩, h1, _⟩
      · rcases h1 with ⟨h1, _⟩ | ⟨_, h1, _⟩ | ⟨_, _, h1, _⟩
        · exact absurd hu h1
        · exact absurd hi h1
        rw [hasV_no (by rintro ⟨e1, e2⟩; rcases h1 with h1 | h1; rw [e1] at h1; cases h1; exact e2 h1)] at h9
        first | exact absurd c38 h0 | exact h9
      · rw [hasV_err g3 g4 h1] at h9
        first | exact absurd c38 h0 | exact h9
      rw [hasV_ok g3 g4 h1] at h9
      first | exact absurd h0 c38 | (have c48 : ty = g := c47; simp [c48] at h9; exact h9) | (have c48 : ty ≠ g := c47; simp [c48] at h9; exact h9) | (simp at h9; exact h9)
     refine qs 11 ?_
     have hv : hasP T N i s g (hasV N T i s g) 0 := .inr ⟨hu, hi, .inr ⟨by omega, rfl, rfl⟩⟩
     refine HM (L' := L) (F' := F) Tryz.results39 HV HV subA ?_
     have h9 := h _ _ hv
     rcases hs with ⟨h0, h1 | ⟨⟨_, _, g3, g4⟩, h1⟩, _⟩ | ⟨h0, ⟨_, _, g3, g4⟩, h1, _⟩
     · rcases h1 with ⟨h1, _⟩ | ⟨_, h1, _⟩ | ⟨_, _, h1, _⟩
       · exact absurd hu h1
       · exact absurd hi h1
       rw [hasV_no (by rintro ⟨e1, e2⟩; rcases h1 with h1 | h1; rw [e1] at h1; cases h1; exact e2 h1)] at h9
       first | exact absurd c38 h0 | exact h9
     · rw [hasV_err g3 g4 h1] at h9
       first | exact absurd c38 h0 | exact h9
     rw [hasV_ok g3 g4 h1] at h9
     first | exact absurd h0 c38 | (have c48 : ty = g := c47; simp [c48] at h9; exact h9) | (have c48 : ty ≠ g := c47; simp [c48] at h9; exact h9) | (simp at h9; exact h9)
    refine qs 15 ?_
    have hv : hasP T N i s g (hasV N T i s g) 0 := .inr ⟨hu, hi, .inr ⟨by omega, rfl, rfl⟩⟩
    refine HM (L' := L) (F' := F) Tryz.results39 HV HV subA ?_
    have h9 := h _ _ hv
    rcases hs with ⟨h0, h1 | ⟨⟨_, _, g3, g4⟩, h1⟩, _⟩ | ⟨h0, ⟨_, _, g3, g4⟩, h1, _⟩
    · rcases h1 with ⟨h1, _⟩ | ⟨_, h1, _⟩ | ⟨_, _, h1, _⟩
      · exact absurd hu h1
      · exact absurd hi h1
      rw [hasV_no (by rintro ⟨e1, e2⟩; rcases h1 with h1 | h1; rw [e1] at h1; cases h1; exact e2 h1)] at h9
      first | exact absurd c38 h0 | exact h9
    · rw [hasV_err g3 g4 h1] at h9
      first | exact absurd c38 h0 | exact h9
    rw [hasV_ok g3 g4 h1] at h9
    first | exact absurd h0 c38 | (have c48 : ty = g := c47; simp [c48] at h9; exact h9) | (have c48 : ty ≠ g := c47; simp [c48] at h9; exact h9) | (simp at h9; exact h9)
   refine qs 21 ?_
   have hv : hasP T N i s g (hasV N T i s g) 0 := .inr ⟨hu, hi, .inr ⟨by omega, rfl, rfl⟩⟩
   refine HM (L' := L) (F' := F) Tryz.results39 HV HV subA ?_
   have h9 := h _ _ hv
   rcases hs with ⟨h0, h1 | ⟨⟨_, _, g3, g4⟩, h1⟩, _⟩ | ⟨h0, ⟨_, _, g3, g4⟩, h1, _⟩
   · rcases h1 with ⟨h1, _⟩ | ⟨_, h1, _⟩ | ⟨_, _, h1, _⟩
     · exact absurd hu h1
     · exact absurd hi h1
     rw [hasV_no (by rintro ⟨e1, e2⟩; rcases h1 with h1 | h1; rw [e1] at h1; cases h1; exact e2 h1)] at h9
     first | exact absurd c38 h0 | exact h9
   · rw [hasV_err g3 g4 h1] at h9
     first | exact absurd c38 h0 | exact h9
   rw [hasV_ok g3 g4 h1] at h9
   first | exact absurd h0 c38 | (have c48 : ty = g := c47; simp [c48] at h9; exact h9) | (have c48 : ty ≠ g := c47; simp [c48] at h9; exact h9) | (simp at h9; exact h9)
  refine qs 24 ?_
  have hv : hasP T N i s g (hasV N T i s g) 0 := .inr ⟨hu, hi, .inr ⟨by omega, rfl, rfl⟩⟩
  refine HM (L' := L) (F' := F) Tryz.results39 HV HV subA ?_
  have h9 := h _ _ hv
  rcases hs with ⟨h0, h1 | ⟨⟨_, _, g3, g4⟩, h1⟩, _⟩ | ⟨h0, ⟨_, _, g3, g4⟩, h1, _⟩
  · rcases h1 with ⟨h1, _⟩ | ⟨_, h1, _⟩ | ⟨_, _, h1, _⟩
    · exact absurd hu h1
    · exact absurd hi h1
    rw [hasV_no (by rintro ⟨e1, e2⟩; rcases h1 with h1 | h1; rw [e1] at h1; cases h1; exact e2 h1)] at h9
    first | exact absurd c38 h0 | exact h9
  · rw [hasV_err g3 g4 h1] at h9
    first | exact absurd c38 h0 | exact h9
  rw [hasV_ok g3 g4 h1] at h9
  first | exact absurd h0 c38 | (have c48 : ty = g := c47; simp [c48] at h9; exact h9) | (have c48 : ty ≠ g := c47; simp [c48] at h9; exact h9) | (simp at h9; exact h9)
theorem selNames_c (g : Glob W0) (T0 : List Ty) (N0 : List Nmd) (i : Int) (s0 : List UInt8) (sig : Int) (hT : ∀ t ∈ T0, TyUp t) (hN : ∀ n ∈ N0, NmUp n) {a a2 : Option Addr} {k c k2 c2 : Nat}
    (n1 : fL T0 a k c ∈ F) (n2 : fN N0 a2 k2 c2 ∈ F) (h : R (.bool true) L F) :
    ACalls Tryz.prog W0 8 #[.agg #[.slice a k c, .slice a2 k2 c2], .int .i64 i, S s0, .int .i64 sig] L F R := by
  refine Hy ((Hm (sz := 3)).trans ((Hm (sz := 5)).trans ((Hm (sz := 4)).trans (Hm (sz := 1))))) ?_
  have hok := fewS_ok (m := 70) hT
  have hno := fewN_ok (m := 20) hN
  refine Gh Tryz.func8 HV Tryz.ntmps8 HV ?_
  refine qs 2 ?_
  refine Ga (GO HV HV (fun b4 => ?_))
  refine qs 4 ?_
  refine GP (fun i => Nat.beq i 7) [(b4, _, _)] bxA HV (fun hx hX => ?_)
  refine qt [0, 2, 3, 4, 5] ?_
  refine GE (i := 6) HV (Y.sliceSH (j' := min s0.length 30) HV HV HY HY) HW HV HV ?_
  refine Gm (i := 1) HW HV HV (fun _ => ?_)
  refine Gf HV HV (sfew_c T0 N0 (show fL T0 a k c ∈ _ from memA) (show fN N0 a2 k2 c2 ∈ _ from memA) (fun aT kT cT aN kN cN => ?_))
  generalize fewS T0 70 = T at hok ⊢
  generalize fewN N0 20 = N at hno ⊢
  refine Gk bxA memB ?_
  refine Gm (i := 7) HW HV HV (fun _ => ?_)
  refine GF HV HV HV HV ?_
  refine Gw HV ?_
  refine qt [8] ?_
  refine Gq HW ?_
  refine qs 5 ?_
  have hsl : (s0.take (min s0.length 30)).length ≤ 30 := by rw [List.length_take]; omega
  generalize s0.take (min s0.length 30) = s at hsl ⊢
  refine Ga (Gf HV HV (sNames2_c g T N hok hno i (show fL T _ _ _ ∈ _ from memA) (show fN N _ _ _ ∈ _ from memA) memA memA memA (fun l e a27 k27 c27 hnm => ?_)))
  refine qs 13 ?_
  refine Ga (Gf HV HV (sHas_c g T N hok hno i s sig (show fL T _ _ _ ∈ _ from memA) (show fN N _ _ _ ∈ _ from memA) memA memA memA memA (fun is f hhs => ?_)))
  refine qs 16 ?_
  refine Ga (Gf HV HV (ruright_c T N hok hno (show fL T _ _ _ ∈ _ from memA) (show fN N _ _ _ ∈ _ from memA) (fun c39 => ?_) (fun c39 => ?_)))
  ·refine qs 7 ?_
   refine Ga (Gu HV HV HV (fun c42 => ?_) (fun c42 => ?_))
   ·refine qs 18 ?_
    have hbT : badT T N i 8 := .inr ⟨c39, by omega, rfl⟩
    obtain ⟨he, hl0⟩ := nam_bad hnm hbT
    obtain ⟨hf, hi0⟩ := has_bad hhs hbT
    subst he hl0 hf hi0
    refine Ga (GL HV HV HV (fun _ => ?_) (fun c51 => absurd c51 (by decide)))
    refine qs 5 ?_
    refine Ga (Gf HV HV (salive_c g ?_))
    refine qs 3 ?_
    refine Ge HV HV (Gr HV HV HV (fun _ => ?_) (fun c56 => absurd HV c56))
    refine qs 4 ?_
    refine Ge HV HV (Gr HV HV HV (fun _ => ?_) (fun c61 => absurd HV c61))
    refine qs 3 ?_
    refine Ge HV HV (Gn HV HV (fun hl65 => ?_) (enc := eS) (lst := []) (hm := (show fS [] a27 k27 c27 ∈ _ from memA)))
    refine Ge HV HV (Gr HV HV HV (fun _ => ?_) (fun c66 => absurd HV c66))
    refine qs 10 ?_
    exact Gb (L' := L) (F' := F) Tryz.results8 rfl subA h
   refine qs 4 ?_
   refine Ge HV HV (Gn HV HV (fun hl47 => ?_) (enc := eTy) (lst := T) (hm := (show fL T aT kT cT ∈ _ from memA)))
   refine Ge HV HV (Hc HV HV HV (fun c48 => ?_) (fun c48 => ?_))
   ·refine qs 12 ?_
    have hbT : badT T N i 8 := .inr ⟨c39, by omega, rfl⟩
    obtain ⟨he, hl0⟩ := nam_bad hnm hbT
    obtain ⟨hf, hi0⟩ := has_bad hhs hbT
    subst he hl0 hf hi0
    refine Ga (GL HV HV HV (fun _ => ?_) (fun c51 => absurd c51 (by decide)))
    refine qs 5 ?_
    refine Ga (Gf HV HV (salive_c g ?_))
    refine qs 3 ?_
    refine Ge HV HV (Gr HV HV HV (fun _ => ?_) (fun c56 => absurd HV c56))
    refine qs 4 ?_
    refine Ge HV HV (Gr HV HV HV (fun _ => ?_) (fun c61 => absurd HV c61))
    refine qs 3 ?_
    refine Ge HV HV (Gn HV HV (fun hl65 => ?_) (enc := eS) (lst := []) (hm := (show fS [] a27 k27 c27 ∈ _ from memA)))
    refine Ge HV HV (Gr HV HV HV (fun _ => ?_) (fun c66 => absurd HV c66))
    refine qs 10 ?_
    exact Gb (L' := L) (F' := F) Tryz.results8 rfl subA h
   refine qs 10 ?_
   have hi : 0 ≤ i ∧ i < T.length := by omega
   obtain ⟨he, hln, hll⟩ := nam_ok hnm c39 hi
   have hhs2 := has_ok hhs c39 hi
   subst he
   refine Ga (GL HV HV HV (fun c51 => absurd HV c51) (fun _ => ?_))
   refine qs 9 ?_
   refine Ga (Gf HV HV (rNames_c T N c39 i hi.1 hi.2 (show fL T _ _ _ ∈ _ from memA) (show fN N _ _ _ ∈ _ from memA) memA (fun l2 a74 k74 c74 hl2 _ => ?_)))
   obtain rfl := names_once hln hl2
   refine qs 7 ?_
   refine Ga (GL HV HV HV (fun c76 => absurd HV c76) (fun _ => ?_))
   refine qs 2 ?_
   refine Ge HV HV (Gn HV HV (fun hl79 => ?_) (enc := eS) (lst := l) (hm := (show fS l a27 k27 c27 ∈ _ from memA)))
   refine qs 1 ?_
   refine Ge HV HV (Gn HV HV (fun hl81 => ?_) (enc := eS) (lst := l) (hm := (show fS l a74 k74 c74 ∈ _ from memA)))
   refine Ge HV HV (GL HV HV HV (fun c82 => absurd HV c82) (fun _ => ?_))
   refine qs 2 ?_
   refine Ge HV HV (Gf HV HV (salive_c g ?_))
   refine qs 11 ?_
   refine Ga (Gn HV HV (fun hl89 => ?_) (enc := eS) (lst := l) (hm := (show fS l a27 k27 c27 ∈ _ from memA)))
   refine qs 4 ?_
   refine Gz (fun (v : Nat) => v ≤ l.length) (fun v => [(1, .int .i64 i), (2, S s), (3, .int .i64 sig), (4, .pointer (some ⟨b4, 0, none⟩)), (9, .slice a27 k27 c27), (11, .bool is), (12, .int .i64 f), (14, .slice a74 k74 c74), (89, .int .i64 l.length), (90, .int .i64 (v : Int))]) (fun _ => _) (fun _ => _) (fun v => l.length - v) 0 (Nat.zero_le _) srA (Gc _ _) ?_
   intro v hv
   refine qs 2 ?_
   refine Ga (Gu HV HV HV (fun c91 => ?_) (fun c91 => ?_))
   ·refine qs 15 ?_
    refine GP (fun _ => false) [] bxA HV (fun hx hX => ?_)
    have hvl : v < l.length := by omega
    have hk1 := (Gs (hX (fS l a27 k27 c27) memA)).1
    have hk2 := (Gs (hX (fS l a74 k74 c74) memA)).1
    obtain ⟨p1, o1, e1, at1⟩ := Gy (hX (fS l a27 k27 c27) memA) hvl
    subst e1
    obtain ⟨v1, hv1, hc1⟩ := at1 0 _ rfl
    cases hc1
    obtain ⟨p2, o2, e2, at2⟩ := Gy (hX (fS l a74 k74 c74) memA) hvl
    subst e2
    obtain ⟨v2, hv2, hc2⟩ := at2 0 _ rfl
    cases hc2
    refine qt [0, 1] ?_
    refine GE (i := 2) HV (GC (k := v) HV HV HV HY) HW HV HV ?_
    refine GN (i := 3) HV (Hn HV hv1) HW HW HV HV HV ?_
    refine qt [4, 5] ?_
    refine GE (i := 6) HV (GC (k := v) HV HV HV HY) HW HV HV ?_
    refine GN (i := 7) HV (Hn HV hv2) HW HW HV HV HV ?_
    refine Hg (i := 8) HV (Y.neqS HV HV) HW HV HV (fun c101 => absurd c101 (by simp)) (fun _ => ?_)
    refine Gq HW ?_
    refine qs 9 ?_
    exact Gi (v + 1) HY HY srA subF
   refine qs 13 ?_
   refine Ga (Gu HV HV HV (fun c104 => ?_) (fun c104 => ?_))
   ·refine qs 13 ?_
    obtain ⟨hf, hi0⟩ : f = 8 ∧ is = false := by
     rcases hhs2 with ⟨_, h1, h2⟩ | ⟨h1, _⟩
     · exact ⟨h1, h2⟩
     omega
    subst hf hi0
    refine Ga (Gr HV HV HV (fun _ => ?_) (fun c113 => absurd HV c113))
    refine qs 9 ?_
    exact Gb (L' := L) (F' := F) Tryz.results8 rfl subA h
   refine qs 4 ?_
   refine Ge HV HV (Gn HV HV (fun hl109 => ?_) (enc := eTy) (lst := T) (hm := (show fL T aT kT cT ∈ _ from memA)))
   refine Ge HV HV (Hc HV HV HV (fun c110 => ?_) (fun c110 => ?_))
   ·refine qs 7 ?_
    obtain ⟨hf, hi0⟩ : f = 8 ∧ is = false := by
     rcases hhs2 with ⟨_, h1, h2⟩ | ⟨h1, _⟩
     · exact ⟨h1, h2⟩
     omega
    subst hf hi0
    refine Ga (Gr HV HV HV (fun _ => ?_) (fun c113 => absurd HV c113))
    refine qs 9 ?_
    exact Gb (L' := L) (F' := F) Tryz.results8 rfl subA h
   refine qs 9 ?_
   refine Ga (Gl HV (fun b16 => ?_))
   refine qs 7 ?_
   obtain ⟨hf, hi0⟩ : f = 0 ∧ is = hasV N T i s sig := by
    rcases hhs2 with ⟨h1, _⟩ | ⟨_, h1, h2⟩
    · omega
    exact ⟨h1, h2⟩
   subst hf
   refine Ga (Gf HV HV (rname_c s HY (fun c120 => ?_) (fun c120 => ?_)))
   ·refine qs 2 ?_
    refine Ge HV HV (AO.neqS HV HV HV (fun c123 => ?_) (fun c123 => ?_))
    ·refine qs 8 ?_
     refine Ga (Gf HV HV (rFind2_c T N i s ⟨c39, hi, c120, c123⟩ (show fL T aT kT cT ∈ _ from memA) (show fN N aN kN cN ∈ _ from memA) memA memA memA (fun o2 M2 x2 e2 a128 k128 c128 bn jn dn a129 k129 c129 hd => ?_)))
     obtain ⟨mt, ty, pt, vi, pa⟩ := x2
     refine qs 6 ?_
     refine Ga (Gr HV HV HV (fun _ => ?_) (fun c130 => absurd HV c130))
     refine qs 4 ?_
     refine Ge HV HV (Gr HV HV HV (fun c135 => ?_) (fun c135 => ?_))
     ·refine qs 3 ?_
      rcases Bool.eq_false_or_eq_true mt with rfl | rfl
      all_goals refine Ge rfl rfl (GR rfl rfl ?_)
      ·refine qs 6 ?_
       refine Ge HV HV (Gr HV HV HV (fun c146 => ?_) (fun c146 => ?_))
       ·refine qs 4 ?_
        rcases Bool.eq_false_or_eq_true pt with rfl | rfl
        all_goals refine Ge rfl rfl (GR rfl rfl ?_)
        ·refine qs 7 ?_
         refine Ge HV HV (AO.eqlBs HV HV HV (fun _ => ?_) (fun c159 => absurd (hi0.trans (by
          rcases hd with ⟨h0, h1, _⟩ | ⟨h0, h1, _⟩
          · refine (hasV_err c120 c123 h1).trans ?_; first | exact absurd c135 h0 | rfl
          refine (hasV_ok c120 c123 h1).trans ?_; first | exact absurd h0 c135 | (have c147 : ty = sig := c146; simp [c147]; done) | (have c147 : ty ≠ sig := c146; simp [c147]; done) | simp)) c159))
         refine qs 5 ?_
         exact Gb (L' := L) (F' := F) Tryz.results8 rfl subA h
        refine qs 7 ?_
        refine Ge HV HV (AO.eqlBs HV HV HV (fun _ => ?_) (fun c159 => absurd (hi0.trans (by
         rcases hd with ⟨h0, h1, _⟩ | ⟨h0, h1, _⟩
         · refine (hasV_err c120 c123 h1).trans ?_; first | exact absurd c135 h0 | rfl
         refine (hasV_ok c120 c123 h1).trans ?_; first | exact absurd h0 c135 | (have c147 : ty = sig := c146; simp [c147]; done) | (have c147 : ty ≠ sig := c146; simp [c147]; done) | simp)) c159))
        refine qs 5 ?_
        exact Gb (L' := L) (F' := F) Tryz.results8 rfl subA h
       refine qs 12 ?_
       refine Ge HV HV (AO.eqlBs HV HV HV (fun _ => ?_) (fun c159 => absurd (hi0.trans (by
        rcases hd with ⟨h0, h1, _⟩ | ⟨h0, h1, _⟩
        · refine (hasV_err c120 c123 h1).trans ?_; first | exact absurd c135 h0 | rfl
        refine (hasV_ok c120 c123 h1).trans ?_; first | exact absurd h0 c135 | (have c147 : ty = sig := c146; simp [c147]; done) | (have c147 : ty ≠ sig := c146; simp [c147]; done) | simp)) c159))
       refine qs 5 ?_
       exact Gb (L' := L) (F' := F) Tryz.results8 rfl subA h
      refine qs 19 ?_
      refine Ge HV HV (AO.eqlBs HV HV HV (fun _ => ?_) (fun c159 => absurd (hi0.trans (by
       rcases hd with ⟨h0, h1, _⟩ | ⟨h0, h1, _⟩
       · refine (hasV_err c120 c123 h1).trans ?_; first | exact absurd c135 h0 | rfl
       refine (hasV_ok c120 c123 h1).trans ?_; first | exact absurd h0 c135 | (have c147 : ty = sig := c146; simp [c147]; done) | (have c147 : ty ≠ sig := c146; simp [c147]; done) | simp)) c159))
      refine qs 5 ?_
      exact Gb (L' := L) (F' := F) Tryz.results8 rfl subA h
     refine qs 23 ?_
     refine Ge HV HV (AO.eqlBs HV HV HV (fun _ => ?_) (fun c159 => absurd (hi0.trans (by
      rcases hd with ⟨h0, h1, _⟩ | ⟨h0, h1, _⟩
      · refine (hasV_err c120 c123 h1).trans ?_; first | exact absurd c135 h0 | rfl
      refine (hasV_ok c120 c123 h1).trans ?_; first | exact absurd h0 c135 | (have c147 : ty = sig := c146; simp [c147]; done) | (have c147 : ty ≠ sig := c146; simp [c147]; done) | simp)) c159))
     refine qs 5 ?_
     exact Gb (L' := L) (F' := F) Tryz.results8 rfl subA h
    refine qs 9 ?_
    refine Ga (Gr HV HV HV (fun _ => ?_) (fun c130 => absurd HV c130))
    refine qs 4 ?_
    refine Ge HV HV (Gr HV HV HV (fun c135 => absurd c135 (by decide)) (fun _ => ?_))
    refine qs 23 ?_
    have hv := hasV_no (N := N) (T := T) (i := i) (g := sig) (s := s) (fun e1 => e1.2 c123)
    refine Ge HV HV (AO.eqlBs HV HV HV (fun _ => ?_) (fun c159 => absurd (hi0.trans hv) c159))
    refine qs 5 ?_
    exact Gb (L' := L) (F' := F) Tryz.results8 rfl subA h
   refine qs 12 ?_
   refine Ga (Gr HV HV HV (fun _ => ?_) (fun c130 => absurd HV c130))
   refine qs 4 ?_
   refine Ge HV HV (Gr HV HV HV (fun c135 => absurd c135 (by decide)) (fun _ => ?_))
   refine qs 23 ?_
   have hv := hasV_no (N := N) (T := T) (i := i) (g := sig) (s := s) (by rintro ⟨e1, _⟩; rw [c120] at e1; cases e1)
   refine Ge HV HV (AO.eqlBs HV HV HV (fun _ => ?_) (fun c159 => absurd (hi0.trans hv) c159))
   refine qs 5 ?_
   exact Gb (L' := L) (F' := F) Tryz.results8 rfl subA h
  refine qs 12 ?_
  have hbT : badT T N i 1 := .inl ⟨c39, rfl⟩
  obtain ⟨he, hl0⟩ := nam_bad hnm hbT
  obtain ⟨hf, hi0⟩ := has_bad hhs hbT
  subst he hl0 hf hi0
  refine Ga (GL HV HV HV (fun _ => ?_) (fun c51 => absurd c51 (by decide)))
  refine qs 5 ?_
  refine Ga (Gf HV HV (salive_c g ?_))
  refine qs 3 ?_
  refine Ge HV HV (Gr HV HV HV (fun _ => ?_) (fun c56 => absurd HV c56))
  refine qs 4 ?_
  refine Ge HV HV (Gr HV HV HV (fun _ => ?_) (fun c61 => absurd HV c61))
  refine qs 3 ?_
  refine Ge HV HV (Gn HV HV (fun hl65 => ?_) (enc := eS) (lst := []) (hm := (show fS [] a27 k27 c27 ∈ _ from memA)))
  refine Ge HV HV (Gr HV HV HV (fun _ => ?_) (fun c66 => absurd HV c66))
  refine qs 10 ?_
  exact Gb (L' := L) (F' := F) Tryz.results8 rfl subA h
end
end Go.Sy
