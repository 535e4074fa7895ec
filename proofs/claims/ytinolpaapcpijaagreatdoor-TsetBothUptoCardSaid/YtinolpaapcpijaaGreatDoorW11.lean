/- Joined of my own texts: FwU, FwV. -/
import Derived.Test.YtinolpaapcpijaaGreatDoorW10
import Derived.Lib.SliceRun
namespace Go.Sy
open Go Go.RowKit
section
variable {P : Program} {W0 : World} {n : Nat} {Q : Po} {ρ : Rho} {L : List Res} {F : List Fact} {K : Act → World → Prop}
variable {d : Tmp} {ty t : TypeId} {pos : String} {af : Array Edge} {g : Option (Nat × Bool)}
variable {x y : Operand} {e sz bytes : Nat} {rows : List (List D)} {a : Option Addr} {k c : Nat}
theorem Sat.ownLen {w : World} {i : Nat} (s : Sat W0 L F w) (hi : L[i]? = some (Res.own (.slice a k c) e sz rows)) : k = rows.length := by
  obtain ⟨a0, c0, h⟩ := s.ownSl hi
  injection h
theorem AO.lenO {i : Nat} (hx : ev ρ x = some (.slice a k c)) (hd : Nat.blt d n = true) [ht : SlT P t e sz bytes] (hi : L[i]? = some (Res.own (.slice a k c) e sz rows)) (h : k = rows.length → AT W0 n K ((d, .int .i64 rows.length) :: ρ) L F) :
    AO P W0 n K ⟨some d, .call ⟨.builtin .len, #[x], #[t]⟩, ty, pos, af, g⟩ Q ρ L F := by
  intro a0 w s
  have hk := s.sat.ownLen hi
  subst hk
  exact HK (Q := Q) hd (fun s w st => by
    simp [execOp, resolve, invoke, builtin, GD st.slots hx, Builtin.len_, run_underlying ht.und, goInt]) (h rfl) a0 w s
theorem AO.indexAddrO {i q : Nat} {j : Int} {kd : IntKind} (hx : ev ρ x = some (.slice a k c)) (hy : ev ρ y = some (.int kd j)) (hd : Nat.blt d n = true) [ht : SlT P t e sz bytes] (hj : j = (q : Int)) (hi : L[i]? = some (Res.own (.slice a k c) e sz rows)) (hq : q < rows.length)
    (h : ∀ b, a = some ⟨b, 0, none⟩ → AT W0 n K ((d, .pointer (some ⟨b, 0 + q * sz, none⟩)) :: ρ) L F) : AO P W0 n K ⟨some d, .indexAddr t x y, ty, pos, af, g⟩ Q ρ L F := by
  intro a0 w s
  subst hj
  have hk := s.sat.ownLen hi
  obtain ⟨hb, hh, m, sx⟩ := id s.sat
  obtain ⟨_, hp⟩ : ownP (.slice a k c) e sz rows hh (m i) := sx.res i _ hi
  obtain ⟨b, ha⟩ : ∃ b, a = some ⟨b, 0, none⟩ := by
    rcases hp with ⟨_, hr, _⟩ | ⟨gg, cap, cur, hv, _⟩
    · rw [hr] at hq; exact absurd hq (by simp)
    injection hv with h1; exact ⟨gg, h1⟩
  subst ha
  have hlt : (0 : Int) ≤ (q : Int) ∧ (q : Int) < (k : Int) := by omega
  refine HK (Q := Q) hd (fun s w st => ?_) (h b HU) a0 w s
  have := run_indexAt_slice (P := P) w t ⟨b, 0, none⟩ k c kd q (SlT.elem (t := t) (e := e) (bytes := bytes) (sz := sz))
  rw [if_pos hlt, SlT.size (t := t) (e := e) (bytes := bytes) (sz := sz)] at this
  simp only [execOp, GD st.slots hx, GD st.slots hy, Sem.run_bind, this]
  simp [Result.andThen, Addr.add_lit]
theorem Sat.ownCells {w : World} {i b q : Nat} {v : Value} (s : Sat W0 L F w) (hi : L[i]? = some (Res.own (.slice (some ⟨b, 0, none⟩) k c) e 1 rows)) (hr : rows[q]? = some [.val v]) :
    ∃ cur : Array Value, w.heap[b]? = some (.cells cur e (0, 0)) ∧ cur[q]? = some v := by
  obtain ⟨hb, hh, m, sx⟩ := s
  obtain ⟨h0, hp⟩ : ownP (.slice (some ⟨b, 0, none⟩) k c) e 1 rows hh (m i) := sx.res i _ hi
  rcases hp with ⟨hv, _⟩ | ⟨gg, cap, cur, hv, hm, hcap, hmax, hcs, hx⟩
  · simp at hv
  injection hv with h1
  injection h1 with h1
  injection h1 with h1
  subst h1
  have hbl := sx.own i b _ (HD hi) (by rw [hm]; exact Hb _ _)
  obtain ⟨u, hu, hcu⟩ := hx q _ 0 _ hr rfl
  cases hcu
  exact ⟨cur, hbl.2.1, by simpa using hu⟩
theorem AO.loadO {i b q o : Nat} {v : Value} [ht : ScT P t] (hx : ev ρ x = some (.pointer (some ⟨b, o, none⟩))) (hd : Nat.blt d n = true) (ho : o = 0 + q * 1) (hi : L[i]? = some (Res.own (.slice (some ⟨b, 0, none⟩) k c) e 1 rows)) (hr : rows[q]? = some [.val v])
    (h : AT W0 n K ((d, v) :: ρ) L F) : AO P W0 n K ⟨some d, .load t x, ty, pos, af, g⟩ Q ρ L F := by
  intro a0 w s
  subst ho
  obtain ⟨cur, hb, hc⟩ := s.sat.ownCells hi hr
  have hcell : w.cell? ⟨b, 0 + q * 1, none⟩ = some v := by
    obtain ⟨l⟩ := cur
    rw [block_cell hb]; simpa using hc
  have hcell' : w.cell? ⟨b, q, none⟩ = some v := by simpa using hcell
  have hrun : (execOp a0.eval ⟨some d, .load t x, ty, pos, af, g⟩).run P w = .ok (.value v) w := by
    simp [execOp, GD s.slots hx, Instr.loadAt, Instr.sureAddr, loadVar, ht.agg, hcell', Result.andThen]
  refine ⟨Hy hrun (fun _ e => by cases e), ?_⟩
  simp only [hrun, owR]
  exact h _ _ ⟨s.slots.put (Nat.le_of_ble_eq_true hd) _, s.sat⟩
theorem AO.storeO {i b q o : Nat} {v : Value} [ht : ScT P t] (hx : ev ρ x = some (.pointer (some ⟨b, o, none⟩))) (hy : ev ρ y = some v) (h1 : oneC v = true) (ho : o = 0 + q * 1) (hi : L[i]? = some (Res.own (.slice (some ⟨b, 0, none⟩) k c) e 1 rows)) (hq : q < rows.length)
    (h : AT W0 n K ρ (L.set i (Res.own (.slice (some ⟨b, 0, none⟩) k c) e 1 (rows.set q [.val v]))) F) : AO P W0 n K ⟨none, .store t x y, ty, pos, af, g⟩ Q ρ L F := by
  intro a0 w s
  subst ho
  obtain ⟨hb, hh, m, sx⟩ := id s.sat
  have hl := HD hi
  obtain ⟨h0, hp⟩ : ownP (.slice (some ⟨b, 0, none⟩) k c) e 1 rows hh (m i) := sx.res i _ hi
  rcases hp with ⟨hv, _⟩ | ⟨gg, cap, cur, hv, hm, hcap, hmax, hcs, hxx⟩
  · simp at hv
  injection hv with e1 e2 e3
  injection e1 with e1
  injection e1 with e1
  subst e1 e2 e3
  have hbl := sx.own i b _ hl (by rw [hm]; exact Hb _ _)
  obtain ⟨cs, hcs'⟩ : ∃ cs : List Value, cur = cs.toArray := ⟨cur.toList, by simp⟩
  subst hcs'
  have hlen : cs.length = c := by simpa using hcs
  obtain ⟨w', e0, f1, f2, f3, f4, f5, f6⟩ := run_storeCells (P := P) [v] cs (0 + q * 1) 0 w hbl.2.1 (by simp; omega) (by simpa using h1)
  have hr : (execOp a0.eval ⟨none, .store t x y, ty, pos, af, g⟩).run P w = .ok .skip w' := by
    have hc := oneC_cells h1
    simp only [Nat.zero_add, Nat.mul_one] at e0
    simp [execOp, GD s.slots hx, GD s.slots hy, Instr.storeAt, Instr.sureAddr, storeVar, ht.size, hc, e0, Result.andThen]
  refine ⟨Hy hr (fun _ e => by cases e), ?_⟩
  simp only [hr, owR]
  have st : Step w w' (m i) := ⟨f4, f5, f6, by omega, fun k _ hk => f2 k (fun e' => by subst e'; rw [hm, Hb] at hk; simp at hk)⟩
  have f1' : w'.heap[b]? = some (.cells (cs.set q v).toArray e (0, 0)) := by simpa [putL] using f1
  refine h _ _ ⟨s.slots, Ho hb st (fun b' O hm' => (sx.own i b' O hl hm').1), hh, _, sx.upd hb.size hl st _ (one b (.cells (cs.set q v).toArray e (0, 0))) ⟨?_, .inr ⟨b, c, (cs.set q v).toArray, by simp, rfl, by simpa using hcap, hmax, by simpa using hcs, ?_⟩⟩ ?_⟩
  · intro j r hj
    by_cases e' : q = j
    · subst e'
      rw [List.getElem?_set_self hq] at hj
      injection hj with hj; subst hj; rfl
    rw [List.getElem?_set_ne e'] at hj; exact h0 j r hj
  · intro j r u dd hj hu
    by_cases e' : q = j
    · subst e'
      rw [List.getElem?_set_self hq] at hj
      injection hj with hj; subst hj
      have hu0 : u = 0 := by have := (List.getElem?_eq_some_iff.1 hu).1; simpa using this
      subst hu0
      simp at hu; subst hu
      exact ⟨v, by simp only [Nat.mul_one, Nat.add_zero, List.getElem?_toArray]; exact List.getElem?_set_self HW, .val _⟩
    rw [List.getElem?_set_ne e'] at hj
    obtain ⟨z, hz1, hz2⟩ := hxx j r u dd hj hu
    have hu0 : u = 0 := by have := (List.getElem?_eq_some_iff.1 hu).1; have := h0 j r hj; omega
    subst hu0
    refine ⟨z, ?_, hz2⟩
    simp only [Nat.mul_one, Nat.add_zero, List.getElem?_toArray] at hz1 ⊢
    rw [List.getElem?_set_ne e']; exact hz1
  intro b' O hm'
  obtain ⟨rfl, rfl⟩ := one_some hm'
  exact ⟨.inl (by rw [hm, Hb]; simp), f1'⟩
theorem AO.and1 {yt : TypeId} {a1 : Int} (hx : ev ρ x = some (.int .i64 a1)) (hy : ev ρ y = some (.int .i64 1)) (h0 : 0 ≤ a1) (h3 : a1 ≤ 3) (hd : Nat.blt d n = true) (h : AT W0 n K ((d, .int .i64 (a1 % 2)) :: ρ) L F) : AO P W0 n K ⟨some d, .binOp .and t x y yt, ty, pos, af, g⟩ Q ρ L F := by
  refine HK (Q := Q) hd (fun s w st => ?_) h
  have e : (binOp .and t (.int .i64 a1) (.int .i64 1)).run P w = .ok (.int .i64 (a1 % 2)) w := by
    have : a1 = 0 ∨ a1 = 1 ∨ a1 = 2 ∨ a1 = 3 := by omega
    rcases this with rfl | rfl | rfl | rfl <;> (rw [binOp_and]; rfl)
  simp [execOp, GD st.slots hx, GD st.slots hy, eqGuard_and, e]
theorem AO.eqlSN {yt e0 : TypeId} (hu : P.underlying t = some (.slice e0)) (hx : ev ρ x = some (.slice a k c)) (hy : ev ρ y = some (.slice none 0 0)) (hd : Nat.blt d n = true) (h1 : a = none → AT W0 n K ((d, .bool true) :: ρ) L F) (h2 : ∀ b, a = some b → AT W0 n K ((d, .bool false) :: ρ) L F) :
    AO P W0 n K ⟨some d, .binOp .eql t x y yt, ty, pos, af, g⟩ Q ρ L F := by
  cases a with
  | none => exact HK (Q := Q) hd (fun s w st => by simp [execOp, GD st.slots hx, GD st.slots hy, eqGuard_at_slice, Go.Lib.run_eql_slice_nil (P := P) w t e0 none k c 0 0 hu]) (h1 rfl)
  | some b => exact HK (Q := Q) hd (fun s w st => by simp [execOp, GD st.slots hx, GD st.slots hy, eqGuard_at_slice, Go.Lib.run_eql_slice_nil (P := P) w t e0 (some b) k c 0 0 hu]) (h2 b rfl)
end
end Go.Sy
namespace Go.Sy
abbrev Hc := @AO.indexAddrO
end Go.Sy
namespace Go.Sy
open Go Go.RowKit
end Go.Sy
