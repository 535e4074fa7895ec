/- Joined of my own texts: FwW. -/
import Derived.Test.YtinolpaapcpijaaGreatDoorW11
import Derived.Laws.MakeOwn
namespace Go.Sy
open Go Go.RowKit
section
variable {P : Program} {W0 : World} {n : Nat} {Q : Po} {ρ : Rho} {L : List Res} {F : List Fact} {K : Act → World → Prop}
variable {d : Tmp} {ty t : TypeId} {pos : String} {af : Array Edge} {g : Option (Nat × Bool)}
variable {x y : Operand} {e sz bytes : Nat} {rows : List (List D)} {a : Option Addr} {k c : Nat}
theorem has_lt' {α : Type} {l : List α} {i : Nat} {r : α} (h : l[i]? = some r) : i < l.length := by
  rcases Nat.lt_or_ge i l.length with k | k
  · exact k
  simp [List.getElem?_eq_none k] at h
theorem AO.ofY {op : Op} {v : Value} (hy : Yd P n ρ (fun _ => True) ⟨some d, op, ty, pos, af, g⟩ v) (hd : Nat.blt d n = true) (h : AT W0 n K ((d, v) :: ρ) L F) : AO P W0 n K ⟨some d, op, ty, pos, af, g⟩ Q ρ L F :=
  HK hd (fun a w s => hy.run a w s.slots trivial) h
theorem Y.max {T : World → Prop} {dd : Option Tmp} {i j : Int} {ts : Array TypeId} {kd : IntKind} (hx : ev ρ x = some (.int kd i)) (hy : ev ρ y = some (.int kd j)) : Yd P n ρ T ⟨dd, .call ⟨.builtin .max, #[x, y], ts⟩, ty, pos, af, g⟩ (.int kd (Max.max i j)) := ⟨fun s w st _ => by
  have : (if i < j then j else i) = Max.max i j := by omega
  simp [execOp, resolve, invoke, builtin, GD st hx, GD st hy, Builtin.max_, Builtin.max2, this]⟩
theorem AO.makeSlice1 {k1 k2 : IntKind} {j : Int} {m e : Nat} {z : Value} [ht : SlT P t e 1 bytes] [hz : ZeT P e z] (hx : ev ρ x = some (.int k1 j)) (hy : ev ρ y = some (.int k2 j)) (hd : Nat.blt d n = true) (hj : j = (m : Int)) (hb : bytes * m ≤ 281474976710656) (hm : m ≤ 1000000) (hz1 : z.cells = #[z])
    (h : ∀ b, AT W0 n K ((d, .slice (some ⟨b, 0, none⟩) m m) :: ρ) (Res.cells b (List.replicate m z).toArray e :: L) F) : AO P W0 n K ⟨some d, .makeSlice t x y, ty, pos, af, g⟩ Q ρ L F := by
  intro a w s
  subst hj
  obtain ⟨ti, z', hti, h1, h2, h3, h4⟩ := ht.info
  have hzz : z' = z := by
    have := hz.zero w
    simp [zeroValue, typeInfo, hti, h3] at this; exact this
  subst hzz
  have hb2 : (bytes : Int) * (m : Int) ≤ 281474976710656 := by
    have h : ((bytes * m : Nat) : Int) ≤ 281474976710656 := by omega
    rwa [Int.natCast_mul] at h
  have hr := run_make (P := P) w t e ti z' ht.und hti h3 k1 k2 (m : Int) (m : Int) HW HW (by rw [h2]; exact hb2) HW
  have hc : madeCells z'.cells ((m : Int).toNat * ti.size) = (List.replicate m z').toArray := by
    rw [h1, hz1]
    unfold madeCells
    apply Array.ext'
    apply List.ext_getElem?
    intro q
    rcases Nat.lt_or_ge q m with hq | hq
    · simp [hq, Nat.mod_one]
    rw [List.getElem?_eq_none (by simpa using hq), List.getElem?_eq_none (by simpa using hq)]
  rw [hc] at hr
  have hrun : (execOp a.eval ⟨some d, .makeSlice t x y, ty, pos, af, g⟩).run P w = .ok (.value (.slice (some ⟨w.heap.size, 0, none⟩) m m)) (w.alloc (.cells (List.replicate m z').toArray e)) := by
    simp only [execOp, GD s.slots hx, GD s.slots hy, Sem.run_bind, hr, Result.andThen]
    simp
  refine ⟨Hy hrun (fun _ e => by cases e), ?_⟩
  simp only [hrun, owR]
  exact h _ _ _ ⟨s.slots.put (Nat.le_of_ble_eq_true hd) _, s.sat.alloc _ _⟩
theorem Sat.ownRow {w : World} {i b q : Nat} {r : List D} (s : Sat W0 L F w) (hi : L[i]? = some (Res.own (.slice (some ⟨b, 0, none⟩) k c) e sz rows)) (hr : rows[q]? = some r) :
    ∃ cur : Array Value, w.heap[b]? = some (.cells cur e (0, 0)) ∧ ∀ (j : Nat) (v : Value), r[j]? = some (.val v) → cur[q * sz + j]? = some v := by
  obtain ⟨hb, hh, m, sx⟩ := s
  obtain ⟨h0, hp⟩ : ownP (.slice (some ⟨b, 0, none⟩) k c) e sz rows hh (m i) := sx.res i _ hi
  rcases hp with ⟨hv, _⟩ | ⟨gg, cap, cur, hv, hm, hcap, hmax, hcs, hx⟩
  · simp at hv
  injection hv with h1
  injection h1 with h1
  injection h1 with h1
  subst h1
  have hbl := sx.own i b _ (HD hi) (by rw [hm]; exact Hb _ _)
  refine ⟨cur, hbl.2.1, fun j v hj => ?_⟩
  obtain ⟨u, hu, hcu⟩ := hx q _ j _ hr hj
  cases hcu
  exact hu
theorem AO.loadOA {i b q o kk : Nat} {vs : List Value} [ht : AgT P t kk] (hx : ev ρ x = some (.pointer (some ⟨b, o, none⟩))) (hd : Nat.blt d n = true) (ho : o = 0 + q * sz) (hi : L[i]? = some (Res.own (.slice (some ⟨b, 0, none⟩) k c) e sz rows)) (hr : rows[q]? = some (vs.map D.val)) (hk : vs.length = kk)
    (h : AT W0 n K ((d, .agg vs.toArray) :: ρ) L F) : AO P W0 n K ⟨some d, .load t x, ty, pos, af, g⟩ Q ρ L F := by
  intro a0 w s
  subst ho
  obtain ⟨cur, hb, hc⟩ := s.sat.ownRow hi hr
  have hl : (loadCells ⟨b, 0 + q * sz, none⟩ kk).run P w = .ok vs.toArray w := by
    have := run_loadCells_list (P := P) w ⟨b, 0 + q * sz, none⟩ vs (fun j v hj => by
      have h1 := hc j v (by rw [List.getElem?_map, hj]; rfl)
      obtain ⟨l⟩ := cur
      rw [Addr.add_lit, block_cell hb]
      simpa [Nat.zero_add] using h1)
    rwa [hk] at this
  simp only [Nat.zero_add] at hl
  have hrun : (execOp a0.eval ⟨some d, .load t x, ty, pos, af, g⟩).run P w = .ok (.value (.agg vs.toArray)) w := by
    simp [execOp, GD s.slots hx, Instr.loadAt, Instr.sureAddr, loadVar, ht.agg, ht.size, hl]
  refine ⟨Hy hrun (fun _ e => by cases e), ?_⟩
  simp only [hrun, owR]
  exact h _ _ ⟨s.slots.put (Nat.le_of_ble_eq_true hd) _, s.sat⟩
theorem place_inj {q q' j j' sz : Nat} (h1 : j < sz) (h2 : j' < sz) (h : q * sz + j = q' * sz + j') : q = q' ∧ j = j' := by
  have e1 : (q * sz + j) / sz = q := by rw [Nat.mul_comm, Nat.mul_add_div HW, Nat.div_eq_of_lt h1]; rfl
  have e2 : (q' * sz + j') / sz = q' := by rw [Nat.mul_comm, Nat.mul_add_div HW, Nat.div_eq_of_lt h2]; rfl
  have : q = q' := by rw [← e1, ← e2, h]
  subst this
  exact ⟨rfl, by omega⟩
theorem AO.storeOR {i b q j o : Nat} {v : Value} {r : List D} [ht : ScT P t] (hx : ev ρ x = some (.pointer (some ⟨b, o, none⟩))) (hy : ev ρ y = some v) (h1 : oneC v = true) (ho : o = 0 + q * sz + j) (hi : L[i]? = some (Res.own (.slice (some ⟨b, 0, none⟩) k c) e sz rows)) (hq : rows[q]? = some r) (hj : j < r.length)
    (h : AT W0 n K ρ (L.set i (Res.own (.slice (some ⟨b, 0, none⟩) k c) e sz (rows.set q (r.set j (.val v))))) F) : AO P W0 n K ⟨none, .store t x y, ty, pos, af, g⟩ Q ρ L F := by
  intro a0 w s
  subst ho
  obtain ⟨hb, hh, m, sx⟩ := id s.sat
  have hl := HD hi
  have hql : q < rows.length := has_lt' hq
  obtain ⟨h0, hp⟩ : ownP (.slice (some ⟨b, 0, none⟩) k c) e sz rows hh (m i) := sx.res i _ hi
  rcases hp with ⟨hv, _⟩ | ⟨gg, cap, cur, hv, hm, hcap, hmax, hcs, hxx⟩
  · simp at hv
  injection hv with e1 e2 e3
  injection e1 with e1
  injection e1 with e1
  subst e1 e2 e3
  have hbl := sx.own i b _ hl (by rw [hm]; exact Hb _ _)
  obtain ⟨cs, hcs'⟩ : ∃ cs : List Value, cur = cs.toArray := ⟨cur.toList, by simp⟩
  subst hcs'
  have hlen : cs.length = c * sz := by simpa using hcs
  have hrl := h0 q r hq
  have hin : q * sz + j < cs.length := by
    have := Nat.mul_le_mul_right sz (show q + 1 ≤ c by omega)
    rw [Nat.add_mul, Nat.one_mul] at this; omega
  obtain ⟨w', e0, f1, f2, f3, f4, f5, f6⟩ := run_storeCells (P := P) [v] cs (0 + q * sz + j) 0 w hbl.2.1 (by simp; omega) (by simpa using h1)
  have hr : (execOp a0.eval ⟨none, .store t x y, ty, pos, af, g⟩).run P w = .ok .skip w' := by
    have hc := oneC_cells h1
    simp only [Nat.zero_add] at e0
    simp [execOp, GD s.slots hx, GD s.slots hy, Instr.storeAt, Instr.sureAddr, storeVar, ht.size, hc, e0, Result.andThen]
  refine ⟨Hy hr (fun _ e => by cases e), ?_⟩
  simp only [hr, owR]
  have st : Step w w' (m i) := ⟨f4, f5, f6, by omega, fun k _ hk => f2 k (fun e' => by subst e'; rw [hm, Hb] at hk; simp at hk)⟩
  have f1' : w'.heap[b]? = some (.cells (cs.set (q * sz + j) v).toArray e (0, 0)) := by simpa [putL] using f1
  refine h _ _ ⟨s.slots, Ho hb st (fun b' O hm' => (sx.own i b' O hl hm').1), hh, _, sx.upd hb.size hl st _ (one b (.cells (cs.set (q * sz + j) v).toArray e (0, 0))) ⟨?_, .inr ⟨b, c, (cs.set (q * sz + j) v).toArray, by simp, rfl, by simpa using hcap, hmax, by simpa using hcs, ?_⟩⟩ ?_⟩
  · intro q' r' hj'
    by_cases e' : q = q'
    · subst e'
      rw [List.getElem?_set_self hql] at hj'
      injection hj' with hj'; subst hj'
      simpa using hrl
    rw [List.getElem?_set_ne e'] at hj'; exact h0 q' r' hj'
  · intro q' r' u dd hj' hu
    by_cases e' : q = q'
    · subst e'
      rw [List.getElem?_set_self hql] at hj'
      injection hj' with hj'; subst hj'
      by_cases eu : j = u
      · subst eu
        rw [List.getElem?_set_self hj] at hu
        injection hu with hu; subst hu
        exact ⟨v, by simp only [List.getElem?_toArray]; exact List.getElem?_set_self hin, .val _⟩
      rw [List.getElem?_set_ne eu] at hu
      obtain ⟨z, hz1, hz2⟩ := hxx q r u dd hq hu
      refine ⟨z, ?_, hz2⟩
      simp only [List.getElem?_toArray] at hz1 ⊢
      rw [List.getElem?_set_ne HW]; exact hz1
    rw [List.getElem?_set_ne e'] at hj'
    obtain ⟨z, hz1, hz2⟩ := hxx q' r' u dd hj' hu
    refine ⟨z, ?_, hz2⟩
    have hu2 := has_lt' hu
    have hr2 := h0 q' r' hj'
    simp only [List.getElem?_toArray] at hz1 ⊢
    rw [List.getElem?_set_ne (fun e2 => e' (place_inj HW HW e2).1)]; exact hz1
  intro b' O hm'
  obtain ⟨rfl, rfl⟩ := one_some hm'
  exact ⟨.inl (by rw [hm, Hb]; simp), f1'⟩
end
theorem cells_I {F : List Fact} : ∀ (l : List Int), Cells F (l.map (Value.int .i64)) (l.map fun i => [D.val (.int .i64 i)]).flatten
  | [] => .nil
  | _ :: l => .val (cells_I l)
theorem cells_B {F : List Fact} : ∀ (l : List Bool), Cells F (l.map Value.bool) (l.map fun i => [D.val (.bool i)]).flatten
  | [] => .nil
  | _ :: l => .val (cells_B l)
end Go.Sy
