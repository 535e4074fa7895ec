/- Joined of my own texts: FwW. -/
import Derived.Test.YtodaafgpfjcpgaaGreatDoorX10
import Derived.Laws.MakeOwn
namespace Go.Sy
open Go Go.RowKit
section
variable {P : Program} {W0 : World} {n : Nat} {Q : Po} {ρ : Rho} {L : List Res} {F : List Fact} {K : Act → World → Prop}
variable {d : Tmp} {ty t : TypeId} {pos : String} {af : Array Edge} {g : Option (Nat × Bool)}
variable {x y : Operand} {e sz bytes : Nat} {rows : List (List D)} {a : Option Addr} {k c : Nat}
theorem AO.ofY {op : Op} {v : Value} (hy : Yd P n ρ (fun _ => True) ⟨some d, op, ty, pos, af, g⟩ v) (hd : Nat.blt d n = true) (h : AT W0 n K ((d, v) :: ρ) L F) : AO P W0 n K ⟨some d, op, ty, pos, af, g⟩ Q ρ L F :=
  HG hd (fun a w s => hy.run a w s.slots trivial) h
theorem Y.max {T : World → Prop} {dd : Option Tmp} {i j : Int} {ts : Array TypeId} {kd : IntKind} (hx : ev ρ x = some (.int kd i)) (hy : ev ρ y = some (.int kd j)) : Yd P n ρ T ⟨dd, .call ⟨.builtin .max, #[x, y], ts⟩, ty, pos, af, g⟩ (.int kd (Max.max i j)) := ⟨fun s w st _ => by
  have : (if i < j then j else i) = Max.max i j := by omega
  simp [execOp, resolve, invoke, builtin, GK st hx, GK st hy, Builtin.max_, Builtin.max2, this]⟩
theorem AO.makeSlice1 {k1 k2 : IntKind} {j : Int} {m e : Nat} {z : Value} [ht : SlT P t e 1 bytes] [hz : ZeT P e z] (hx : ev ρ x = some (.int k1 j)) (hy : ev ρ y = some (.int k2 j)) (hd : Nat.blt d n = true) (hj : j = (m : Int)) (hb : bytes * m ≤ 281474976710656) (hm : m ≤ 1000000) (hz1 : z.cells = #[z])
    (h : ∀ b, AT W0 n K ((d, .slice (some ⟨b, 0, none⟩) m m) :: ρ) (Res.cells b (List.replicate m z).toArray e :: L) F) : AO P W0 n K ⟨some d, .makeSlice t x y, ty, pos, af, g⟩ Q ρ L F := by
  intro a w s
  subst hj
  obtain ⟨ti, z', hti, h1, h2, h3, h4⟩ := ht.info
  have hzz : z' = z := by
    have := hz.zero w
    simp [zeroValue, typeInfo, hti, h3] at this; exact this
  subst hzz
  have hb2 : (bytes : Int) * (m : Int) ≤ 281474976710656 := by
    have h : ((bytes * m : Nat) : Int) ≤ 281474976710656 := by omega
    rwa [Int.natCast_mul] at h
  have hr := run_make (P := P) w t e ti z' ht.und hti h3 k1 k2 (m : Int) (m : Int) HS HS (by rw [h2]; exact hb2) HS
  have hc : madeCells z'.cells ((m : Int).toNat * ti.size) = (List.replicate m z').toArray := by
    rw [h1, hz1]
    unfold madeCells
    apply Array.ext'
    apply List.ext_getElem?
    intro q
    rcases Nat.lt_or_ge q m with hq | hq
    · simp [hq, Nat.mod_one]
    rw [List.getElem?_eq_none (by simpa using hq), List.getElem?_eq_none (by simpa using hq)]
  rw [hc] at hr
  have hrun : (execOp a.eval ⟨some d, .makeSlice t x y, ty, pos, af, g⟩).run P w = .ok (.value (.slice (some ⟨w.heap.size, 0, none⟩) m m)) (w.alloc (.cells (List.replicate m z').toArray e)) := by
    simp only [execOp, GK s.slots hx, GK s.slots hy, Sem.run_bind, hr, Result.andThen]
    simp
  refine ⟨HO hrun (fun _ e => by cases e), ?_⟩
  simp only [hrun, owR]
  exact h _ _ _ ⟨s.slots.put (Nat.le_of_ble_eq_true hd) _, s.sat.alloc _ _⟩
theorem Sat.ownRow {w : World} {i b q : Nat} {r : List D} (s : Sat W0 L F w) (hi : L[i]? = some (Res.own (.slice (some ⟨b, 0, none⟩) k c) e sz rows)) (hr : rows[q]? = some r) :
    ∃ cur : Array Value, w.heap[b]? = some (.cells cur e (0, 0)) ∧ ∀ (j : Nat) (v : Value), r[j]? = some (.val v) → cur[q * sz + j]? = some v := by
  obtain ⟨hb, hh, m, sx⟩ := s
  obtain ⟨h0, hp⟩ : ownP (.slice (some ⟨b, 0, none⟩) k c) e sz rows hh (m i) := sx.res i _ hi
  rcases hp with ⟨hv, _⟩ | ⟨gg, cap, cur, hv, hm, hcap, hmax, hcs, hx⟩
  · simp at hv
  injection hv with h1
  injection h1 with h1
  injection h1 with h1
  subst h1
  have hbl := sx.own i b _ (has_lt hi) (by rw [hm]; exact one_self _ _)
  refine ⟨cur, hbl.2.1, fun j v hj => ?_⟩
  obtain ⟨u, hu, hcu⟩ := hx q _ j _ hr hj
  cases hcu
  exact hu
end
theorem cells_B {F : List Fact} : ∀ (l : List Bool), Cells F (l.map Value.bool) (l.map fun i => [D.val (.bool i)]).flatten
  | [] => .nil
  | _ :: l => .val (cells_B l)
end Go.Sy
