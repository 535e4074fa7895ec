/- Joined of my own texts: FwC. -/
import Derived.Test.YtodaafgpfjcpgaaGreatDoorX0
import Derived.Lib.Strings
namespace Go.Sy
open Go Go.RowKit
theorem S_size (s : List UInt8) : (⟨s.toArray⟩ : ByteArray).size = s.length := by simp [ByteArray.size]
theorem S_toList (s : List UInt8) : (⟨s.toArray⟩ : ByteArray).toList = s := by simp [ByteArray.toList_eq]
theorem S_inj {s t : List UInt8} (h : (⟨s.toArray⟩ : ByteArray) = ⟨t.toArray⟩) : s = t := by
  have := congrArg (fun b : ByteArray => b.data.toList) h; simpa using this
theorem S_extract (s : List UInt8) (i j : Nat) : (⟨s.toArray⟩ : ByteArray).extract i j = ⟨((s.drop i).take (j - i)).toArray⟩ := by
  have h := Lib.extract_data ⟨s.toArray⟩ i j
  have e : ∀ a b : ByteArray, a.data.toList = b.data.toList → a = b := fun a b h => by
    cases a; cases b; simp at h; simp [h]
  exact e _ _ h
theorem S_append (s t : List UInt8) : (⟨s.toArray⟩ : ByteArray) ++ ⟨t.toArray⟩ = ⟨(s ++ t).toArray⟩ := by
  have e : ∀ a b : ByteArray, a.data.toList = b.data.toList → a = b := fun a b h => by
    cases a; cases b; simp at h; simp [h]
  exact e _ _ (by simp [ByteArray.data_append])
def cellsL : Value → List Value
  | .agg a => a.toList
  | v => [v]
theorem cellsL_toArray (v : Value) : (cellsL v).toArray = v.cells := by cases v <;> simp [cellsL, Value.cells]
def oneC : Value → Bool
  | .agg _ | .tuple _ => false
  | _ => true
theorem oneC_cells {v : Value} (h : oneC v = true) : v.cells = #[v] := by cases v <;> simp_all [oneC, Value.cells]
def evL (ρ : Rho) : List Operand → Option (List Value)
  | [] => some []
  | x :: xs => match ev ρ x with
    | none => none
    | some v => match evL ρ xs with
      | none => none
      | some vs => some (v :: vs)
theorem evL_eval {n : Nat} {ρ : Rho} {a : Act} (h : Slots n ρ a) : ∀ {xs : List Operand} {vs : List Value}, evL ρ xs = some vs → xs.toArray.map a.eval = vs.toArray
  | [], vs, e => by simp [evL] at e; subst e; simp
  | x :: xs, vs, e => by
    simp only [evL] at e
    split at e
    · simp at e
    · rename_i v hv
      split at e
      · simp at e
      · rename_i ws hw
        simp at e; subst e
        have := evL_eval h hw
        simp at this
        simp [ev_eval h hv, this]
theorem setCell_block {w : World} {b o : Nat} {v : Value} {cs : List Value} {ty : TypeId} (hb : w.heap[b]? = some (.cells cs.toArray ty (0, 0))) :
    (w.setCell ⟨b, o, none⟩ v).heap[b]? = some (.cells (cs.set o v).toArray ty (0, 0)) := by
  simp [World.setCell, Array.getElem?_modify, hb]
theorem setCell_other {w : World} {b o k : Nat} {v : Value} (h : k ≠ b) : (w.setCell ⟨b, o, none⟩ v).heap[k]? = w.heap[k]? := by
  simp only [World.setCell, Array.getElem?_modify]
  rw [if_neg (by simpa using fun e => h e.symm)]
theorem setCell_size {w : World} {a : Addr} {v : Value} : (w.setCell a v).heap.size = w.heap.size := by simp [World.setCell]
theorem block_cell {w : World} {b o : Nat} {cs : List Value} {ty : TypeId} (hb : w.heap[b]? = some (.cells cs.toArray ty (0, 0))) : w.cell? ⟨b, o, none⟩ = cs[o]? := by
  simp [World.cell?, hb]
theorem block_frozen {w : World} {b o : Nat} {cs : Array Value} {ty : TypeId} (hb : w.heap[b]? = some (.cells cs ty (0, 0))) : w.frozen? ⟨b, o, none⟩ = false := by
  simp [World.frozen?, hb]
def putL (cs : List Value) (o : Nat) : List Value → List Value
  | [] => cs
  | v :: vs => putL (cs.set o v) (o + 1) vs
theorem putL_length (vs : List Value) : ∀ (cs : List Value) (o : Nat), (putL cs o vs).length = cs.length := by
  induction vs with
  | nil => intro cs o; rfl
  | cons v vs ih => intro cs o; simp [putL, ih]
theorem run_storeCells {P : Program} {b ty : Nat} : ∀ (vs cs : List Value) (o i : Nat) (w : World), w.heap[b]? = some (.cells cs.toArray ty (0, 0)) → o + i + vs.length ≤ cs.length → (∀ v ∈ vs, oneC v = true) →
    ∃ w', (storeCells ⟨b, o, none⟩ vs i).run P w = .ok () w' ∧ w'.heap[b]? = some (.cells (putL cs (o + i) vs).toArray ty (0, 0)) ∧ (∀ k, k ≠ b → w'.heap[k]? = w.heap[k]?) ∧ w'.heap.size = w.heap.size ∧ w'.os = w.os ∧ w'.tape = w.tape ∧ w'.output = w.output
  | [], cs, o, i, w, hb, _, _ => ⟨w, by simp [storeCells], hb, fun _ _ => rfl, rfl, rfl, rfl, rfl⟩
  | v :: vs, cs, o, i, w, hb, hl, h1 => by
    simp only [List.length_cons] at hl
    have hv : oneC v = true := h1 v (by simp)
    have hc : w.cell? ⟨b, o + i, none⟩ = some (cs[o + i]'(by omega)) := by rw [block_cell hb]; exact List.getElem?_eq_getElem _
    obtain ⟨w', e, e1, e2, e3, e4, e5, e6⟩ := run_storeCells (P := P) vs (cs.set (o + i) v) o (i + 1) (w.setCell ⟨b, o + i, none⟩ v) (setCell_block hb) (by simp; omega) (fun u hu => h1 u (by simp [hu]))
    refine ⟨w', ?_, ?_, ?_, ?_, e4, e5, e6⟩
    · have hst : (store (Addr.add ⟨b, o, none⟩ i) v).run P w = .ok () (w.setCell ⟨b, o + i, none⟩ v) := by
        rw [Addr.add_lit]
        have hfr := block_frozen (o := o + i) hb
        clear e e1 e2 e3 e4 e5 e6
        cases v <;> first | (simp [oneC] at hv; done) | simp [store, Sem.run, hfr, hc]
      simp only [storeCells, Sem.run_bind, hst, Result.andThen, e]
    · simpa [putL, Nat.add_assoc] using e1
    · intro k hk; rw [e2 k hk, setCell_other hk]
    · rw [e3, setCell_size]
section
variable {P : Program} {W0 : World} {n : Nat} {Q : Po} {ρ : Rho} {L : List Res} {F : List Fact} {ops : Array Oper} {l : List Oper} {K : Act → World → Prop}
variable {d : Tmp} {ty t : TypeId} {pos : String} {af : Array Edge} {g : Option (Nat × Bool)}
theorem Sat.hB {w : World} (s : Sat W0 L F w) : W0.heap.size ≤ w.heap.size := s.below.size
theorem Step.alloc (w : World) (O : Obj) (m : Hl) : Step w (w.alloc O) m := ⟨rfl, rfl, rfl, by simp, fun k hk _ => Below.heap_alloc _ _ _ hk⟩
theorem Sat.alloc {w : World} (s : Sat W0 L F w) (cs : List Value) (ty : TypeId) : Sat W0 (Res.cells w.heap.size cs.toArray ty :: L) F (w.alloc (.cells cs.toArray ty)) := by
  obtain ⟨hb, h, m, sx⟩ := s
  refine ⟨Sat.below_of hb (Step.alloc w _ (fun _ => none)) (fun _ _ e => by simp at e), h, _, sx.add hb.size (Step.alloc w _ _) (Res.cells w.heap.size cs.toArray ty) (one w.heap.size (.cells cs.toArray ty (0, 0))) rfl ?_⟩
  intro b O hm
  obtain ⟨rfl, rfl⟩ := one_some hm
  exact ⟨Nat.le_refl _, by show (w.heap.push _)[w.heap.size]? = _; simp⟩
theorem AO.box {x : Operand} {v : Value} (hx : ev ρ x = some v) (hd : Nat.blt d n = true)
    (h : ∀ b, AT W0 n K ((d, .pointer (some ⟨b, 0, none⟩)) :: ρ) (Res.cells b (cellsL v).toArray t :: L) F) : AO P W0 n K ⟨some d, .box t x, ty, pos, af, g⟩ Q ρ L F := by
  intro a w s
  have hr : (execOp a.eval ⟨some d, .box t x, ty, pos, af, g⟩).run P w = .ok (.value (.pointer (some ⟨w.heap.size, 0, none⟩))) (w.alloc (.cells (cellsL v).toArray t)) := by
    rw [cellsL_toArray]
    simp [execOp, ev_eval s.slots hx, Instr.box, newVar, newRow]
  refine ⟨not_defer hr (fun _ e => by cases e), ?_⟩
  simp only [hr, owR]
  exact h _ _ _ ⟨s.slots.put (Nat.le_of_ble_eq_true hd) _, s.sat.alloc _ _⟩
theorem AO.alloc {z : Value} [hz : ZeT P t z] (hd : Nat.blt d n = true)
    (h : ∀ b, AT W0 n K ((d, .pointer (some ⟨b, 0, none⟩)) :: ρ) (Res.cells b (cellsL z).toArray t :: L) F) : AO P W0 n K ⟨some d, .alloc t, ty, pos, af, g⟩ Q ρ L F := by
  intro a w s
  have hr : (execOp a.eval ⟨some d, .alloc t, ty, pos, af, g⟩).run P w = .ok (.value (.pointer (some ⟨w.heap.size, 0, none⟩))) (w.alloc (.cells (cellsL z).toArray t)) := by
    rw [cellsL_toArray]
    simp [execOp, Instr.alloc, hz.zero, newVar, newRow]
  refine ⟨not_defer hr (fun _ e => by cases e), ?_⟩
  simp only [hr, owR]
  exact h _ _ _ ⟨s.slots.put (Nat.le_of_ble_eq_true hd) _, s.sat.alloc _ _⟩
theorem Sat.block {w : World} (s : Sat W0 L F w) {i b : Nat} {cs : Array Value} {e : TypeId} (hi : L[i]? = some (Res.cells b cs e)) : w.heap[b]? = some (.cells cs e (0, 0)) := by
  obtain ⟨hb, h, m, sx⟩ := s
  have hl : i < L.length := by
    rcases Nat.lt_or_ge i L.length with k | k
    · exact k
    · simp [List.getElem?_eq_none k] at hi
  have hp : m i = one b (.cells cs e (0, 0)) := sx.res i _ hi
  exact (sx.own i b _ hl (by rw [hp]; exact one_self _ _)).2.1
theorem Sat.write {w w' : World} (s : Sat W0 L F w) {i b : Nat} {cs cs' : Array Value} {e : TypeId} (hi : L[i]? = some (Res.cells b cs e)) (hb' : w'.heap[b]? = some (.cells cs' e (0, 0)))
    (ho : ∀ k, k ≠ b → w'.heap[k]? = w.heap[k]?) (hs : w'.heap.size = w.heap.size) (h1 : w'.os = w.os) (h2 : w'.tape = w.tape) (h3 : w'.output = w.output) : Sat W0 (L.set i (Res.cells b cs' e)) F w' := by
  obtain ⟨hb, h, m, sx⟩ := s
  have hl : i < L.length := by
    rcases Nat.lt_or_ge i L.length with k | k
    · exact k
    · simp [List.getElem?_eq_none k] at hi
  have hp : m i = one b (.cells cs e (0, 0)) := sx.res i _ hi
  have st : Step w w' (m i) := ⟨h1, h2, h3, by omega, fun k _ hk => ho k (fun e' => by subst e'; rw [hp, one_self] at hk; simp at hk)⟩
  refine ⟨Sat.below_of hb st (fun b' O hm => (sx.own i b' O hl hm).1), h, _, sx.upd hb.size hl st (Res.cells b cs' e) (one b (.cells cs' e (0, 0))) rfl ?_⟩
  intro b' O hm
  obtain ⟨rfl, rfl⟩ := one_some hm
  exact ⟨.inl (by rw [hp, one_self]; simp), hb'⟩
section
variable {x y : Operand} {b o : Nat} {cs : List Value} {e : TypeId}
theorem AO.loadB [ht : ScT P t] {i : Nat} {v : Value} (hx : ev ρ x = some (.pointer (some ⟨b, o, none⟩))) (hd : Nat.blt d n = true)
    (h : AT W0 n K ((d, v) :: ρ) L F) (hi : L[i]? = some (Res.cells b cs.toArray e) := by repeat (first | exact has0 | apply hasS)) (hv : cs[o]? = some v := by rfl) : AO P W0 n K ⟨some d, .load t x, ty, pos, af, g⟩ Q ρ L F :=
  AO.val hd (fun a w s => by
    have hc : w.cell? ⟨b, o, none⟩ = some v := by rw [block_cell (s.sat.block hi), hv]
    simp [execOp, ev_eval s.slots hx, Instr.loadAt, Instr.sureAddr, loadVar, ht.agg, hc]) h
theorem AO.loadBA {k : Nat} [ht : AgT P t k] {i : Nat} (hx : ev ρ x = some (.pointer (some ⟨b, o, none⟩))) (hd : Nat.blt d n = true)
    (h : AT W0 n K ((d, .agg ((cs.drop o).take k).toArray) :: ρ) L F) (hi : L[i]? = some (Res.cells b cs.toArray e) := by repeat (first | exact has0 | apply hasS)) (hk : Nat.ble (o + k) cs.length = true := by rfl) : AO P W0 n K ⟨some d, .load t x, ty, pos, af, g⟩ Q ρ L F :=
  AO.val hd (fun a w s => by
    have hk' := Nat.le_of_ble_eq_true hk
    have hb := s.sat.block hi
    have hlen : ((cs.drop o).take k).length = k := by simp; omega
    have hl : (loadCells ⟨b, o, none⟩ k).run P w = .ok ((cs.drop o).take k).toArray w := by
      have := run_loadCells_list (P := P) w ⟨b, o, none⟩ ((cs.drop o).take k) (fun j v hj => by
        rw [Addr.add_lit, block_cell hb]
        have hjk : j < k := by
          rcases Nat.lt_or_ge j k with q | q
          · exact q
          · rw [List.getElem?_eq_none (by omega)] at hj; simp at hj
        rw [List.getElem?_take_of_lt hjk, List.getElem?_drop] at hj
        exact hj)
      rwa [hlen] at this
    simp [execOp, ev_eval s.slots hx, Instr.loadAt, Instr.sureAddr, loadVar, ht.agg, ht.size, hl]) h
theorem AO.storeB [ht : ScT P t] {i : Nat} {v : Value} (hx : ev ρ x = some (.pointer (some ⟨b, o, none⟩))) (hy : ev ρ y = some v) (h1 : oneC v = true)
    (h : AT W0 n K ρ (L.set i (Res.cells b (cs.set o v).toArray e)) F) (hi : L[i]? = some (Res.cells b cs.toArray e) := by repeat (first | exact has0 | apply hasS)) (ho : Nat.blt o cs.length = true := by rfl) : AO P W0 n K ⟨none, .store t x y, ty, pos, af, g⟩ Q ρ L F := by
  intro a w s
  have ho' := Nat.le_of_ble_eq_true ho
  have hb := s.sat.block hi
  obtain ⟨w', e0, e1, e2, e3, e4, e5, e6⟩ := run_storeCells (P := P) [v] cs o 0 w hb (by simpa using ho') (by simpa using h1)
  have hr : (execOp a.eval ⟨none, .store t x y, ty, pos, af, g⟩).run P w = .ok .skip w' := by
    have hc := oneC_cells h1
    simp [execOp, ev_eval s.slots hx, ev_eval s.slots hy, Instr.storeAt, Instr.sureAddr, storeVar, ht.size, hc, e0]
  refine ⟨not_defer hr (fun _ e => by cases e), ?_⟩
  simp only [hr, owR]
  refine h _ _ ⟨s.slots, s.sat.write hi ?_ e2 e3 e4 e5 e6⟩
  simpa [putL] using e1
theorem AO.storeBA {k : Nat} [ht : AgT P t k] {i : Nat} {vs : List Value} (hx : ev ρ x = some (.pointer (some ⟨b, o, none⟩))) (hy : ev ρ y = some (.agg vs.toArray)) (h1 : vs.all oneC = true) (hlen : vs.length = k)
    (h : AT W0 n K ρ (L.set i (Res.cells b (putL cs o vs).toArray e)) F) (hi : L[i]? = some (Res.cells b cs.toArray e) := by repeat (first | exact has0 | apply hasS)) (ho : Nat.ble (o + vs.length) cs.length = true := by rfl) : AO P W0 n K ⟨none, .store t x y, ty, pos, af, g⟩ Q ρ L F := by
  intro a w s
  have ho' := Nat.le_of_ble_eq_true ho
  have hb := s.sat.block hi
  obtain ⟨w', e0, e1, e2, e3, e4, e5, e6⟩ := run_storeCells (P := P) vs cs o 0 w hb (by simpa using ho') (by simpa using h1)
  have hr : (execOp a.eval ⟨none, .store t x y, ty, pos, af, g⟩).run P w = .ok .skip w' := by
    simp [execOp, ev_eval s.slots hx, ev_eval s.slots hy, Instr.storeAt, Instr.sureAddr, storeVar, ht.size, Value.cells, hlen, e0]
  refine ⟨not_defer hr (fun _ e => by cases e), ?_⟩
  simp only [hr, owR]
  exact h _ _ ⟨s.slots, s.sat.write hi (by simpa using e1) e2 e3 e4 e5 e6⟩
theorem AO.field {i off : Nat} [hf : FdT P t i off] (hx : ev ρ x = some (.pointer (some ⟨b, o, none⟩))) (hd : Nat.blt d n = true)
    (h : AT W0 n K ((d, .pointer (some ⟨b, o + off, none⟩)) :: ρ) L F) : AO P W0 n K ⟨some d, .fieldAddr t x i, ty, pos, af, g⟩ Q ρ L F :=
  AO.val hd (fun a w s => by simp [execOp, ev_eval s.slots hx, hf.run, Addr.add_lit]) h
end
theorem Sat.fact {w : World} (s : Sat W0 L F w) {f : Fact} (hf : f ∈ F) : ∃ h : H, f.holds h ∧ (∀ b o v, h b o = some v → w.cell? ⟨b, o, none⟩ = some v) := by
  obtain ⟨_, h, m, sx⟩ := s
  exact ⟨h, sx.fact f hf, sx.cell⟩
theorem Sat.more {w : World} (s : Sat W0 L F w) {f : Fact} (hf : f ∈ F) {α : Type} {q : α → List Fact} (hq : ∀ h : H, f.holds h → (∀ b o v, h b o = some v → w.cell? ⟨b, o, none⟩ = some v) → ∃ x, ∀ f' ∈ q x, f'.holds h) :
    ∃ x, Sat W0 L (q x ++ F) w := by
  obtain ⟨hb, h, m, sx⟩ := s
  obtain ⟨x, hx⟩ := hq h (sx.fact f hf) sx.cell
  exact ⟨x, hb, h, m, sx.facts fun f' hf' => by
    rcases List.mem_append.1 hf' with k | k
    · exact hx f' k
    · exact sx.fact f' k⟩
section
variable {x y : Operand} {b o : Nat}
def absorb : List D → (List Value → List Fact → Prop) → Prop
  | [], K => K [] []
  | .val v :: ds, K => absorb ds fun vs fs => K (v :: vs) fs
  | .slc sz rows :: ds, K => ∀ a k c, absorb ds fun vs fs => K (.slice a k c :: vs) (.slc (.slice a k c) sz rows :: fs)
theorem absorb_of {h : H} {b : Nat} : ∀ (ds : List D) (o : Nat), AtR h b o ds → ∀ K, absorb ds K → ∃ vs fs, vs.length = ds.length ∧ (∀ j v, vs[j]? = some v → h b (o + j) = some v) ∧ (∀ f ∈ fs, f.holds h) ∧ K vs fs
  | [], o, _, K, k => ⟨[], [], rfl, by simp, by simp, k⟩
  | dd :: ds, o, hat, K, k => by
    obtain ⟨v, hv, hc⟩ := hat 0 dd rfl
    have hat' : AtR h b (o + 1) ds := fun j d hj => by
      obtain ⟨u, hu, hcu⟩ := hat (j + 1) d (by simpa using hj)
      exact ⟨u, by rw [show o + 1 + j = o + (j + 1) by omega]; exact hu, hcu⟩
    have put : ∀ (vs : List Value), (∀ (j : Nat) (u : Value), vs[j]? = some u → h b (o + 1 + j) = some u) → ∀ (j : Nat) (u : Value), (v :: vs)[j]? = some u → h b (o + j) = some u := by
      intro vs hvs j u hj
      cases j with
      | zero => simp at hj; subst hj; exact hv
      | succ j => rw [show o + (j + 1) = o + 1 + j by omega]; exact hvs j u (by simpa using hj)
    cases dd with
    | val c =>
      cases hc
      simp only [absorb] at k
      obtain ⟨vs, fs, hl, h1, h2, h3⟩ := absorb_of ds (o + 1) hat' _ k
      exact ⟨v :: vs, fs, by simp [hl], put vs h1, h2, h3⟩
    | slc sz rows =>
      simp only [absorb] at k
      obtain ⟨a0, k0, c0, rfl⟩ : ∃ a k c, v = .slice a k c := by cases hc <;> exact ⟨_, _, _, rfl⟩
      obtain ⟨vs, fs, hl, h1, h2, h3⟩ := absorb_of ds (o + 1) hat' _ (k a0 k0 c0)
      refine ⟨_ :: vs, .slc _ sz rows :: fs, by simp [hl], put vs h1, ?_, h3⟩
      intro f hf
      rcases List.mem_cons.1 hf with rfl | hf
      · exact hc
      · exact h2 f hf
theorem AtR.take {h : H} {b o k : Nat} {ds : List D} (hat : AtR h b o ds) : AtR h b o (ds.take k) := fun j d hj => hat j d (by
  rcases Nat.lt_or_ge j k with q | q
  · rwa [List.getElem?_take_of_lt q] at hj
  · simp [List.getElem?_take, Nat.not_lt.2 q] at hj)
theorem AtR.drop {h : H} {b o k : Nat} {ds : List D} (hat : AtR h b o ds) : AtR h b (o + k) (ds.drop k) := fun j d hj => by
  rw [List.getElem?_drop] at hj
  obtain ⟨v, hv, hc⟩ := hat (k + j) d hj
  exact ⟨v, by rw [Nat.add_assoc]; exact hv, hc⟩
theorem AO.fieldAt {i off : Nat} {ds : List D} [hf : FdT P t i off] (hx : ev ρ x = some (.pointer (some ⟨b, o, none⟩))) (hd : Nat.blt d n = true)
    (h : ∀ o', AT W0 n K ((d, .pointer (some ⟨b, o', none⟩)) :: ρ) L (.at_ b o' (ds.drop off) :: F)) (hm : Fact.at_ b o ds ∈ F := by repeat (first | exact mem0 | refine memS ?_)) : AO P W0 n K ⟨some d, .fieldAddr t x i, ty, pos, af, g⟩ Q ρ L F := by
  intro a w s
  have hr : (execOp a.eval ⟨some d, .fieldAddr t x i, ty, pos, af, g⟩).run P w = .ok (.value (.pointer (some ⟨b, o + off, none⟩))) w := by simp [execOp, ev_eval s.slots hx, hf.run, Addr.add_lit]
  refine ⟨not_defer hr (fun _ e => by cases e), ?_⟩
  simp only [hr, owR]
  obtain ⟨_, s'⟩ := s.sat.more (α := Unit) (q := fun _ => [.at_ b (o + off) (ds.drop off)]) hm (fun h hh _ => ⟨(), fun f' hf' => by
    simp at hf'; subst hf'; exact AtR.drop hh⟩)
  exact h _ _ _ ⟨s.slots.put (Nat.le_of_ble_eq_true hd) _, s'⟩
theorem AO.loadF [ht : ScT P t] {ds ds' : List D} {dd : D} (hx : ev ρ x = some (.pointer (some ⟨b, o, none⟩))) (hd : Nat.blt d n = true)
    (h : absorb [dd] fun vs fs => AT W0 n K ((d, vs.headD undef) :: ρ) L (fs ++ F)) (hm : Fact.at_ b o ds ∈ F := by repeat (first | exact mem0 | refine memS ?_)) (hds : ds = dd :: ds' := by rfl) : AO P W0 n K ⟨some d, .load t x, ty, pos, af, g⟩ Q ρ L F := by
  intro a w s
  subst hds
  obtain ⟨hb, hh, m, sx⟩ := s.sat
  have hat : AtR hh b o [dd] := by have := AtR.take (k := 1) (sx.fact _ hm : AtR hh b o (dd :: ds')); simpa using this
  obtain ⟨vs, fs, hl, h1, h2, h3⟩ := absorb_of [dd] o hat _ h
  obtain ⟨v, rfl⟩ : ∃ v, vs = [v] := by
    match vs, hl with
    | [v], _ => exact ⟨v, rfl⟩
  have hc : w.cell? ⟨b, o, none⟩ = some v := sx.cell _ _ _ (h1 0 v rfl)
  have hr : (execOp a.eval ⟨some d, .load t x, ty, pos, af, g⟩).run P w = .ok (.value v) w := by
    simp [execOp, ev_eval s.slots hx, Instr.loadAt, Instr.sureAddr, loadVar, ht.agg, hc]
  refine ⟨not_defer hr (fun _ e => by cases e), ?_⟩
  simp only [hr, owR]
  exact h3 _ _ ⟨s.slots.put (Nat.le_of_ble_eq_true hd) _, hb, hh, m, sx.facts fun f hf => by
    rcases List.mem_append.1 hf with k | k
    · exact h2 f k
    · exact sx.fact f k⟩
theorem AO.loadFA {k : Nat} [ht : AgT P t k] {ds : List D} (hx : ev ρ x = some (.pointer (some ⟨b, o, none⟩))) (hd : Nat.blt d n = true)
    (h : absorb (ds.take k) fun vs fs => AT W0 n K ((d, .agg vs.toArray) :: ρ) L (fs ++ F)) (hm : Fact.at_ b o ds ∈ F := by repeat (first | exact mem0 | refine memS ?_)) (hk : Nat.ble k ds.length = true := by rfl) : AO P W0 n K ⟨some d, .load t x, ty, pos, af, g⟩ Q ρ L F := by
  intro a w s
  have hk' := Nat.le_of_ble_eq_true hk
  obtain ⟨hb, hh, m, sx⟩ := s.sat
  obtain ⟨vs, fs, hl, h1, h2, h3⟩ := absorb_of (ds.take k) o (AtR.take (sx.fact _ hm : AtR hh b o ds)) _ h
  have hlen : vs.length = k := by rw [hl]; simp; omega
  have hld : (loadCells ⟨b, o, none⟩ k).run P w = .ok vs.toArray w := by
    have := run_loadCells_list (P := P) w ⟨b, o, none⟩ vs (fun j v hj => by rw [Addr.add_lit]; exact sx.cell _ _ _ (h1 j v hj))
    rwa [hlen] at this
  have hr : (execOp a.eval ⟨some d, .load t x, ty, pos, af, g⟩).run P w = .ok (.value (.agg vs.toArray)) w := by
    simp [execOp, ev_eval s.slots hx, Instr.loadAt, Instr.sureAddr, loadVar, ht.agg, ht.size, hld]
  refine ⟨not_defer hr (fun _ e => by cases e), ?_⟩
  simp only [hr, owR]
  exact h3 _ _ ⟨s.slots.put (Nat.le_of_ble_eq_true hd) _, hb, hh, m, sx.facts fun f hf => by
    rcases List.mem_append.1 hf with k | k
    · exact h2 f k
    · exact sx.fact f k⟩
end
end
end Go.Sy
namespace Go.Sy
abbrev GH := @AO.box
abbrev GL := @AO.loadB
abbrev Hh := @AO.alloc
abbrev HD := @AO.storeBA
abbrev HF := @AO.storeB
abbrev HN := @AO.loadF
end Go.Sy
