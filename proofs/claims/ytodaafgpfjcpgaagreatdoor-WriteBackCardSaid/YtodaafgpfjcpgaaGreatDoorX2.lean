/- Joined of my own texts: FwD. -/
import Derived.Test.YtodaafgpfjcpgaaGreatDoorX1
import Derived.WalkLawsBesides
namespace Go.Sy
open Go Go.RowKit
class BoT (P : Program) (t : TypeId) : Prop where
  und : P.underlying t = some .bool
section
variable {P : Program} {W0 : World} {n : Nat} {Q : Po} {ρ : Rho} {L : List Res} {F : List Fact} {ops : Array Oper} {l : List Oper} {K : Act → World → Prop}
variable {d : Tmp} {ty t : TypeId} {pos : String} {af : Array Edge} {g : Option (Nat × Bool)}
section
variable {x y : Operand} {yt : TypeId} {a b : List UInt8}
theorem AO.eqlS (hx : ev ρ x = some (S a)) (hy : ev ρ y = some (S b)) (hd : Nat.blt d n = true) (ht : a = b → AT W0 n K ((d, .bool true) :: ρ) L F) (hf : a ≠ b → AT W0 n K ((d, .bool false) :: ρ) L F) :
    AO P W0 n K ⟨some d, .binOp .eql t x y yt, ty, pos, af, g⟩ Q ρ L F :=
  AO.cmp (c := a == b) hd (fun s w st => by simp only [execOp, ev_eval st.slots hx, ev_eval st.slots hy, eqGuard_at_string, binOp_string_eql, S_toList]; simp) (fun e => ht (by simpa using e)) (fun e => hf (by simpa using e))
theorem AO.neqS (hx : ev ρ x = some (S a)) (hy : ev ρ y = some (S b)) (hd : Nat.blt d n = true) (ht : a ≠ b → AT W0 n K ((d, .bool true) :: ρ) L F) (hf : a = b → AT W0 n K ((d, .bool false) :: ρ) L F) :
    AO P W0 n K ⟨some d, .binOp .neq t x y yt, ty, pos, af, g⟩ Q ρ L F :=
  AO.cmp (c := !(a == b)) hd (fun s w st => by simp only [execOp, ev_eval st.slots hx, ev_eval st.slots hy, eqGuard_at_string, binOp_string_neq, S_toList]; simp) (fun e => ht (by simpa using e)) (fun e => hf (by simpa using e))
theorem AO.eqlB [ht : BoT P t] {p q : Bool} (hx : ev ρ x = some (.bool p)) (hy : ev ρ y = some (.bool q)) (hd : Nat.blt d n = true) (h : AT W0 n K ((d, .bool (p == q)) :: ρ) L F) :
    AO P W0 n K ⟨some d, .binOp .eql t x y yt, ty, pos, af, g⟩ Q ρ L F :=
  AO.val hd (fun s w st => by simp [execOp, ev_eval st.slots hx, ev_eval st.slots hy, eqGuard_at_bool, run_eql_bool (P := P) w t p q ht.und]) h
theorem AO.addS (hx : ev ρ x = some (S a)) (hy : ev ρ y = some (S b)) (hd : Nat.blt d n = true) (hm : a.length + b.length ≤ maxLen) (h : AT W0 n K ((d, S (a ++ b)) :: ρ) L F) :
    AO P W0 n K ⟨some d, .binOp .add t x y yt, ty, pos, af, g⟩ Q ρ L F :=
  AO.val hd (fun s w st => by
    have h1 : ¬ (((⟨a.toArray⟩ : ByteArray).size + (⟨b.toArray⟩ : ByteArray).size : Nat) : Int) > IntKind.i64.max := by
      rw [S_size, S_size, IntKind.max_i64]; unfold maxLen at hm; omega
    simp only [execOp, ev_eval st.slots hx, ev_eval st.slots hy, eqGuard_at_string, binOp_string_add, Op.stringOp, if_neg h1, S_append]; simp) h
theorem AO.lenS [ht : StT P t] (hx : ev ρ x = some (S a)) (hd : Nat.blt d n = true) (h : AT W0 n K ((d, .int .i64 a.length) :: ρ) L F) :
    AO P W0 n K ⟨some d, .call ⟨.builtin .len, #[x], #[t]⟩, ty, pos, af, g⟩ Q ρ L F :=
  AO.val hd (fun s w st => by simp [execOp, resolve, invoke, builtin, ev_eval st.slots hx, Builtin.len_, run_underlying ht.und, S_size, goInt]) h
theorem AO.indexS [ht : StT P t] {i : Int} {j : Nat} {k : IntKind} (hx : ev ρ x = some (S a)) (hy : ev ρ y = some (.int k i)) (hd : Nat.blt d n = true) (hi : i = (j : Int)) (hj : j < a.length) (h : AT W0 n K ((d, .int .u8 (a[j]).toNat) :: ρ) L F) :
    AO P W0 n K ⟨some d, .index t x y, ty, pos, af, g⟩ Q ρ L F :=
  AO.val hd (fun s w st => by
    subst hi
    have h0 : (0 : Int) ≤ (j : Int) ∧ (j : Int) < ((⟨a.toArray⟩ : ByteArray).size : Int) := by rw [S_size]; omega
    simp only [execOp, ev_eval st.slots hx, ev_eval st.slots hy, Sem.run_bind, run_index_string (P := P) w t _ k _ ht.und, dif_pos h0]
    simp [Result.andThen]
    rfl) h
theorem AO.sliceSLH [ht : StT P t] {i j : Int} {i' j' : Nat} {k k' : IntKind} {z : Operand} (hx : ev ρ x = some (S a)) (hy : ev ρ y = some (.int k i)) (hz : ev ρ z = some (.int k' j)) (hd : Nat.blt d n = true) (hi : i = (i' : Int)) (hj : j = (j' : Int))
    (h1 : i' ≤ j') (h2 : j' ≤ a.length) (h : AT W0 n K ((d, S ((a.drop i').take (j' - i'))) :: ρ) L F) : AO P W0 n K ⟨some d, .slice t x (some y) (some z) none, ty, pos, af, g⟩ Q ρ L F :=
  AO.val hd (fun s w st => by
    subst hi; subst hj
    have := run_slice_string (P := P) w t ⟨a.toArray⟩ k k' i' j' ht.und (by omega) (by omega) (by rw [S_size]; omega)
    simp [execOp, ev_eval st.slots hx, ev_eval st.slots hy, ev_eval st.slots hz, run_sliceAt_string (P := P) w t _ _ _ _ ht.und, this, S_extract]) h
theorem AO.sliceSH [ht : StT P t] {j : Int} {j' : Nat} {k' : IntKind} {z : Operand} (hx : ev ρ x = some (S a)) (hz : ev ρ z = some (.int k' j)) (hd : Nat.blt d n = true) (hj : j = (j' : Int))
    (h2 : j' ≤ a.length) (h : AT W0 n K ((d, S (a.take j')) :: ρ) L F) : AO P W0 n K ⟨some d, .slice t x none (some z) none, ty, pos, af, g⟩ Q ρ L F :=
  AO.val hd (fun s w st => by
    subst hj
    have h3 : (0 : Int) ≤ (j' : Int) ∧ (j' : Int) ≤ ((⟨a.toArray⟩ : ByteArray).size : Int) := by rw [S_size]; omega
    have := run_slice_string_to_if (P := P) w t ⟨a.toArray⟩ k' j' ht.und
    simp [execOp, ev_eval st.slots hx, ev_eval st.slots hz, run_sliceAt_string (P := P) w t _ _ _ _ ht.und, this, S_extract, S_size, h2]) h
theorem AO.sliceSL [ht : StT P t] {i : Int} {i' : Nat} {k : IntKind} (hx : ev ρ x = some (S a)) (hy : ev ρ y = some (.int k i)) (hd : Nat.blt d n = true) (hi : i = (i' : Int))
    (h2 : i' ≤ a.length) (h : AT W0 n K ((d, S (a.drop i')) :: ρ) L F) : AO P W0 n K ⟨some d, .slice t x (some y) none none, ty, pos, af, g⟩ Q ρ L F :=
  AO.val hd (fun s w st => by
    subst hi
    have := run_slice_string_from_if (P := P) w t ⟨a.toArray⟩ k i' ht.und
    have e : (a.drop i').take (a.length - i') = a.drop i' := List.take_of_length_le (by simp)
    simp [execOp, ev_eval st.slots hx, ev_eval st.slots hy, run_sliceAt_string (P := P) w t _ _ _ _ ht.und, this, S_extract, S_size, h2, e]) h
end
section
variable {x y : Operand} {v : Value} {e sz bytes : Nat} {α : Type} {enc : α → List D} {lst : List α}
theorem CR.max {h : H} {rows : List (List D)} (c : CR h v (.slc sz rows)) : rows.length ≤ 9223372036854775807 := by
  cases c with
  | nil => simp
  | slc _ _ b o cap cell hcap hmax => unfold maxLen at hmax; omega
theorem AO.len (hx : ev ρ x = some v) (hd : Nat.blt d n = true) [ht : SlT P t e sz bytes] (h : lst.length ≤ 9223372036854775807 → AT W0 n K ((d, .int .i64 lst.length) :: ρ) L F) (hm : Fact.slc v sz (lst.map enc) ∈ F := by repeat (first | exact mem0 | refine memS ?_)) :
    AO P W0 n K ⟨some d, .call ⟨.builtin .len, #[x], #[t]⟩, ty, pos, af, g⟩ Q ρ L F := by
  intro a w s
  obtain ⟨hh, hf, _⟩ := s.sat.fact hm
  have hf' : CR hh v (.slc sz (lst.map enc)) := hf
  have hmax : lst.length ≤ 9223372036854775807 := by have := CR.max hf'; simpa using this
  refine AO.val (Q := Q) hd (fun s w st => ?_) (h hmax) a w s
  obtain ⟨hh, hf, _⟩ := st.sat.fact hm
  have hl : ∃ a cap, v = .slice a lst.length cap := by
    have hf' : CR hh v (.slc sz (lst.map enc)) := hf
    generalize hr : lst.map enc = rows at hf'
    have hlen : rows.length = lst.length := by rw [← hr]; simp
    cases hf' with
    | nil => exact ⟨_, _, by rw [← hlen]; rfl⟩
    | slc => exact ⟨_, _, by rw [← hlen]⟩
  obtain ⟨a, cap, rfl⟩ := hl
  simp [execOp, resolve, invoke, builtin, ev_eval st.slots hx, Builtin.len_, run_underlying ht.und, goInt]
theorem CR.at {h : H} {v : Value} {rows : List (List D)} (c : CR h v (.slc sz rows)) (k : Nat) (r : List D) (hr : rows[k]? = some r) :
    ∃ b o cap, v = .slice (some ⟨b, o, none⟩) rows.length cap ∧ AtR h b (o + k * sz) r := by
  cases c with
  | nil => simp at hr
  | slc _ _ b o cap cell hcap hmax hsz hh hc => exact ⟨b, o, cap, rfl, fun j dd hj => ⟨cell k j, hh k r j dd hr hj, hc k r j dd hr hj⟩⟩
theorem AO.indexAddr {i : Int} {k : Nat} {kd : IntKind} (hx : ev ρ x = some v) (hy : ev ρ y = some (.int kd i)) (hd : Nat.blt d n = true) [ht : SlT P t e sz bytes] (hi : i = (k : Int)) (hm : Fact.slc v sz (lst.map enc) ∈ F) (hk : k < lst.length)
    (h : ∀ b o, AT W0 n K ((d, .pointer (some ⟨b, o, none⟩)) :: ρ) L (.at_ b o (enc lst[k]) :: F)) :
    AO P W0 n K ⟨some d, .indexAddr t x y, ty, pos, af, g⟩ Q ρ L F := by
  intro a w s
  subst hi
  obtain ⟨hb, hh, m, sx⟩ := s.sat
  obtain ⟨b, o, cap, rfl, hat⟩ := CR.at (sx.fact _ hm : CR hh v (.slc sz (lst.map enc))) k (enc lst[k]) (by simp [hk])
  obtain ⟨ti, z, hti, hsz, _, _, _⟩ := ht.info
  have hsize : (sizeOf (P.elem t)).run P w = .ok sz w := by
    simp [sizeOf, typeInfo, Program.elem, ht.und, hti, hsz]
  have hr : (execOp a.eval ⟨some d, .indexAddr t x y, ty, pos, af, g⟩).run P w = .ok (.value (.pointer (some ⟨b, o + k * sz, none⟩))) w := by
    have hlt : (0 : Int) ≤ (k : Int) ∧ (k : Int) < ((lst.map enc).length : Int) := by simp; omega
    have := run_indexAt_slice (P := P) w t ⟨b, o, none⟩ (lst.map enc).length cap kd k (by rw [ht.und]; simp [Program.elem, ht.und])
    rw [if_pos hlt, hsize] at this
    simp only [execOp, ev_eval s.slots hx, ev_eval s.slots hy, Sem.run_bind, this]
    simp [Result.andThen, Addr.add_lit]
  refine ⟨not_defer hr (fun _ e => by cases e), ?_⟩
  simp only [hr, owR]
  exact h _ _ _ _ ⟨s.slots.put (Nat.le_of_ble_eq_true hd) _, hb, hh, m, sx.facts fun f hf => by
    rcases List.mem_cons.1 hf with rfl | k
    · exact hat
    · exact sx.fact f k⟩
theorem CR.part {h : H} {b o cap : Nat} {rows : List (List D)} {a : Option Addr} {len : Nat} (c : CR h (.slice a len cap) (.slc sz rows)) (i j m : Nat) (h1 : i ≤ j) (h2 : j ≤ rows.length) (h3 : j ≤ m) (h4 : m ≤ cap) (_ : b = b) (_ : o = o) :
    CR h (sliced a i j m sz) (.slc sz ((rows.drop i).take (j - i))) := by
  by_cases hij : i = j
  · subst hij
    simp only [Nat.sub_self, List.take_zero, sliced]
    refine .nil sz _ _ (fun e => ?_)
    split at e
    · omega
    · have ha : a = none := by cases a <;> simp_all
      subst ha
      generalize hd : D.slc sz rows = dd at c
      cases c with
      | val => simp at hd
      | nil _ _ _ hn => have := hn rfl; omega
  · have hlen : ((rows.drop i).take (j - i)).length = j - i := by simp; omega
    have hget : ∀ q, q < j - i → ((rows.drop i).take (j - i))[q]? = rows[i + q]? := fun q hq => by rw [List.getElem?_take_of_lt hq, List.getElem?_drop]
    have hq : ∀ q (r : List D), ((rows.drop i).take (j - i))[q]? = some r → rows[i + q]? = some r := fun q r hr => by
      rcases Nat.lt_or_ge q (j - i) with k | k
      · rw [← hget q k]; exact hr
      · rw [List.getElem?_eq_none (by omega)] at hr; simp at hr
    generalize hd : D.slc sz rows = dd at c
    cases c with
    | val => simp at hd
    | nil => simp at hd; obtain ⟨_, rfl⟩ := hd; simp at h2; omega
    | slc _ rows' b' o' _ cell hcap hmax hsz hh hc =>
      simp at hd
      obtain ⟨rfl, rfl⟩ := hd
      have hv : sliced (some ⟨b', o', none⟩) i j m sz = .slice (some ⟨b', o' + i * sz, none⟩) ((rows.drop i).take (j - i)).length (m - i) := by
        simp only [sliced, hlen]
        rw [if_neg (by omega)]
        simp [Addr.add_lit]
      rw [hv]
      refine .slc sz _ b' (o' + i * sz) (m - i) (fun q c => cell (i + q) c) (by omega) (by omega) ?_ ?_ ?_
      · intro q r hr; exact hsz _ r (hq q r hr)
      · intro q r c dd hr hc'
        have := hh (i + q) r c dd (hq q r hr) hc'
        rwa [Nat.add_mul, ← Nat.add_assoc] at this
      · intro q r c dd hr hc'; exact hc (i + q) r c dd (hq q r hr) hc'
theorem CR.sv {h : H} {rows : List (List D)} (c : CR h v (.slc sz rows)) : ∃ a cap, v = .slice a rows.length cap ∧ rows.length ≤ cap := by
  cases c with
  | nil => exact ⟨_, _, rfl, Nat.zero_le _⟩
  | slc _ _ b o cap cell hcap => exact ⟨_, _, rfl, hcap⟩
theorem SlT.elem [ht : SlT P t e sz bytes] : P.underlying t = some (.slice (P.elem t)) := by rw [ht.und]; simp [Program.elem, ht.und]
theorem SlT.size [ht : SlT P t e sz bytes] (w : World) : (sizeOf (P.elem t)).run P w = .ok sz w := by
  obtain ⟨ti, z, hti, hsz, _⟩ := ht.info
  simp [sizeOf, typeInfo, Program.elem, ht.und, hti, hsz]
theorem map_part (i j : Nat) : ((lst.drop i).take (j - i)).map enc = ((lst.map enc).drop i).take (j - i) := by simp [List.map_take, List.map_drop]
theorem AO.sliceH {j : Int} {j' : Nat} {k' : IntKind} {z : Operand} (hx : ev ρ x = some v) (hz : ev ρ z = some (.int k' j)) (hd : Nat.blt d n = true) [ht : SlT P t e sz bytes] (hj : j = (j' : Int)) (hm : Fact.slc v sz (lst.map enc) ∈ F) (h2 : j' ≤ lst.length)
    (h : ∀ a k c, AT W0 n K ((d, .slice a k c) :: ρ) L (.slc (.slice a k c) sz ((lst.take j').map enc) :: F)) : AO P W0 n K ⟨some d, .slice t x none (some z) none, ty, pos, af, g⟩ Q ρ L F := by
  intro a w s
  subst hj
  obtain ⟨hb, hh, m, sx⟩ := s.sat
  have c : CR hh v (.slc sz (lst.map enc)) := sx.fact _ hm
  obtain ⟨ba, cap, rfl, hcap⟩ := c.sv
  have hl : (lst.map enc).length = lst.length := by simp
  have hr : (execOp a.eval ⟨some d, .slice t x none (some z) none, ty, pos, af, g⟩).run P w = .ok (.value (sliced ba 0 j' cap sz)) w := by
    have := run_slice_h (P := P) w t ba (lst.map enc).length cap SlT.elem k' j' (by omega) (by omega)
    simp only [execOp, ev_eval s.slots hx, Option.map_none, Option.map_some, ev_eval s.slots hz, Sem.run_bind, run_sliceAt_slice (P := P) w t _ _ _ _ SlT.elem, this, SlT.size]
    simp [Result.andThen]
  refine ⟨not_defer hr (fun _ e => by cases e), ?_⟩
  simp only [hr, owR]
  refine h _ _ _ _ _ ⟨s.slots.put (Nat.le_of_ble_eq_true hd) _, hb, hh, m, sx.facts fun f hf => ?_⟩
  rcases List.mem_cons.1 hf with rfl | k
  · have := CR.part (b := 0) (o := 0) c 0 j' cap (by omega) (by omega) (by omega) (by omega) rfl rfl
    have e2 : (lst.take j').map enc = ((lst.map enc).drop 0).take (j' - 0) := by simp [List.map_take]
    rw [← e2] at this; exact this
  · exact sx.fact f k
end
theorem AO.min {x y : Operand} {a b : Int} {ts : Array TypeId} {k : IntKind} (hx : ev ρ x = some (.int k a)) (hy : ev ρ y = some (.int k b)) (hd : Nat.blt d n = true) (h : AT W0 n K ((d, .int k (Min.min a b)) :: ρ) L F) :
    AO P W0 n K ⟨some d, .call ⟨.builtin .min, #[x, y], ts⟩, ty, pos, af, g⟩ Q ρ L F :=
  AO.val hd (fun s w st => by
    have : (if b < a then b else a) = Min.min a b := by omega
    simp [execOp, resolve, invoke, builtin, ev_eval st.slots hx, ev_eval st.slots hy, Builtin.min_, Builtin.min2, this]) h
def ACalls (P : Program) (W0 : World) (f : FuncId) (args : Array Value) (L : List Res) (F : List Fact) (R : Value → List Res → List Fact → Prop) : Prop :=
  ∀ w, Sat W0 L F w → Calls P f args w fun e w' => ∃ v L' F', e = .returned v ∧ R v L' F' ∧ Sat W0 L' F' w'
theorem ACalls.mono {f : FuncId} {args : Array Value} {R R' : Value → List Res → List Fact → Prop} (h : ACalls P W0 f args L F R) (hr : ∀ v L F, R v L F → R' v L F) : ACalls P W0 f args L F R' :=
  fun w s => (h w s).mono fun _ _ ⟨v, L', F', e, r, s'⟩ => ⟨v, L', F', e, hr _ _ _ r, s'⟩
theorem ACalls.weak {f : FuncId} {args : Array Value} {R : Value → List Res → List Fact → Prop} {L' : List Res} {F' : List Fact} (hs : Sub L F L' F') (h : ACalls P W0 f args L' F' R) : ACalls P W0 f args L F R :=
  fun w s => h w (hs _ _ s)
theorem AO.callGo {Z : Po} {a : Act} {w : World} {o : Oper} {f : FuncId} {args : Array Value} (ho : o.dst = some d) (hd : Nat.blt d n = true) (s : St W0 n ρ L F a w) (hr : (execOp a.eval o).run P w = .ok (.enter f args) w)
    (h : ACalls P W0 f args L F fun v L' F' => AT W0 n K ((d, v) :: ρ) L' F') : ow P o a w K Z := by
  refine ⟨not_defer hr (fun _ e => by cases e), ?_⟩
  simp only [hr, owR]
  refine (h w s.sat).mono fun e w' ⟨v, L', F', he, hk, hs⟩ => .inl ⟨v, he, ?_⟩
  rw [ho]
  exact hk _ _ ⟨s.slots.put (Nat.le_of_ble_eq_true hd) _, hs⟩
theorem AO.call {f : FuncId} {as : List Operand} {vs : List Value} {ts : Array TypeId} [hf : FnT P f] (ha : evL ρ as = some vs) (hd : Nat.blt d n = true)
    (h : ACalls P W0 f vs.toArray L F fun v L' F' => AT W0 n K ((d, v) :: ρ) L' F') : AO P W0 n K ⟨some d, .call ⟨.value (.func f), as.toArray, ts⟩, ty, pos, af, g⟩ Q ρ L F := by
  intro a w s
  refine AO.callGo rfl hd s ?_ h
  have := evL_eval s.slots ha
  simp only [execOp, resolve, this]
  simp [Act.eval, Deferred.ofValue, invoke, hf.call]
theorem AO.callC {f : FuncId} {x : Operand} {as : List Operand} {vs cs : List Value} {ts : Array TypeId} (hx : ev ρ x = some (.func (.func f) #[] cs.toArray)) (ha : evL ρ as = some vs) (hd : Nat.blt d n = true)
    (h : ACalls P W0 f (vs ++ cs).toArray L F fun v L' F' => AT W0 n K ((d, v) :: ρ) L' F') [hf : FnT P f] : AO P W0 n K ⟨some d, .call ⟨.value x, as.toArray, ts⟩, ty, pos, af, g⟩ Q ρ L F := by
  intro a w s
  refine AO.callGo rfl hd s ?_ h
  have := evL_eval s.slots ha
  simp only [execOp, resolve, this, ev_eval s.slots hx]
  simp [Deferred.ofValue, invoke, hf.call]
def start : Nat → List Value → Rho
  | _, [] => []
  | i, v :: vs => (i, v) :: start (i + 1) vs
theorem look_start : ∀ (vs : List Value) (i j : Nat) (v : Value), look (start i vs) j = some v → i ≤ j ∧ vs[j - i]? = some v
  | [], i, j, v, h => by simp [start, look] at h
  | u :: us, i, j, v, h => by
    simp only [start, look] at h
    cases hb : Nat.beq i j with
    | true =>
      have : i = j := Nat.eq_of_beq_eq_true hb
      subst this
      rw [hb] at h; simp at h; subst h; simp
    | false =>
      rw [hb] at h
      have := look_start us (i + 1) j v (by simpa using h)
      refine ⟨by omega, ?_⟩
      rw [show j - i = (j - (i + 1)) + 1 by omega]
      simpa using this.2
def Post (R : Value → List Res → List Fact → Prop) (W0 : World) : Ending → World → Prop := fun e w' => ∃ v L' F', e = .returned v ∧ R v L' F' ∧ Sat W0 L' F' w'
theorem ACalls.body {f : FuncId} {fn : Func} {c : Code} {vs : List Value} {R : Value → List Res → List Fact → Prop} (hf : P.funcs[f]? = some fn) (hb : fn.body = some c) (hnt : fn.ntmps = n) (hn : Nat.ble vs.length n = true)
    (h : AC none [] P W0 n c (bodyPost P fn (Post R W0)) (start 0 vs) L F) : ACalls P W0 f vs.toArray L F R := by
  intro w s
  subst hnt
  refine calls_of_wp hf hb ((wpIn_wide (n := 0)).1 (h { tmps := vs.toArray ++ Array.replicate (fn.ntmps - vs.toArray.size) undef, defers := [] } w ⟨⟨?_, rfl, ?_⟩, s⟩))
  · have := Nat.le_of_ble_eq_true hn
    simp; omega
  · intro i v hi
    obtain ⟨_, hv⟩ := look_start vs 0 i v hi
    have hlt : i < vs.length := by
      rcases Nat.lt_or_ge i vs.length with k | k
      · exact k
      · simp [List.getElem?_eq_none k] at hv
    simp only [Nat.sub_zero] at hv
    simp only [Array.getElem?_append, List.size_toArray, hlt, if_true, List.getElem?_toArray, hv]
section
variable {fn : Func} {R : Value → List Res → List Fact → Prop} {v : Value} {L' : List Res} {F' : List Fact}
theorem Slots.getD {a : Act} (h : Slots n ρ a) {i : Nat} (hv : look ρ i = some v) : a.tmps.getD i undef = v := by
  simp [Array.getD_eq_getD_getElem?, h.2.2 i v hv]
theorem AK.ret {i : Nat} (hr : fn.results = #[.tmp i]) (hv : look ρ i = some v) (hs : Sub L F L' F') (hR : R v L' F') : AK [] W0 n (bodyPost P fn (Post R W0)) .ret ρ L F := by
  intro a w s
  exact bodyPost_ret (results_tmp hr _ _ _) rfl ⟨v, L', F', by simp only [wd, s.slots.getD hv], hR, hs _ _ s.sat⟩
theorem AK.ret2 {i j : Nat} {u : Value} (hr : fn.results = #[.tmp i, .tmp j]) (hv : look ρ i = some v) (hu : look ρ j = some u) (hs : Sub L F L' F') (hR : R (.tuple #[v, u]) L' F') : AK [] W0 n (bodyPost P fn (Post R W0)) .ret ρ L F := by
  intro a w s
  exact bodyPost_ret (results_tmp2 hr _ _ _) rfl ⟨_, L', F', by simp only [wd, s.slots.getD hv, s.slots.getD hu], hR, hs _ _ s.sat⟩
theorem AK.ret3 {i j k : Nat} {u x : Value} (hr : fn.results = #[.tmp i, .tmp j, .tmp k]) (hv : look ρ i = some v) (hu : look ρ j = some u) (hx : look ρ k = some x) (hs : Sub L F L' F') (hR : R (.tuple #[v, u, x]) L' F') : AK [] W0 n (bodyPost P fn (Post R W0)) .ret ρ L F := by
  intro a w s
  have : (results fn (wd [] a).tmps).run P w = .ok (.tuple #[a.tmps.getD i undef, a.tmps.getD j undef, a.tmps.getD k undef]) w := by simp [results, hr, wd]
  exact bodyPost_ret this rfl ⟨_, L', F', by simp only [s.slots.getD hv, s.slots.getD hu, s.slots.getD hx], hR, hs _ _ s.sat⟩
theorem AK.end0 (hr : fn.results = #[]) (hs : Sub L F L' F') (hR : R (.tuple #[]) L' F') : AK [] W0 n (bodyPost P fn (Post R W0)) .normal ρ L F := by
  intro a w s
  exact bodyPost_end (results_none hr _ _ _) rfl ⟨_, L', F', rfl, hR, hs _ _ s.sat⟩
end
end
end Go.Sy
namespace Go.Sy
abbrev Gg := @AK.ret
abbrev Gi := @AO.call
abbrev Gn := @ACalls.body
abbrev GQ := @AK.ret3
abbrev GW := @AK.ret2
abbrev Hg := @AO.indexAddr
abbrev Hm := @AO.indexS
abbrev Hr := @AO.len
abbrev Hy := @AO.addS
end Go.Sy
