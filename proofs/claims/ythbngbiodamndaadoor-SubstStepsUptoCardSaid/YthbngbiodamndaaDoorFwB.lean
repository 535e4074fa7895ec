/- The rules of single operations over symbolic states: slots, numbers, strings, blocks of the call's own, facts that stay. No program in sight. -/
import Derived.Test.YthbngbiodamndaaDoorFwA
namespace Go.Sy
open Go Go.RowKit

/-- A string, as a list of bytes. -/
abbrev S (l : List UInt8) : Value := .string ⟨l.toArray⟩

/-! ### What is asked of the program's tables -/
class AgT (P : Program) (t : TypeId) (k : outParam Nat) : Prop where
  agg : ∀ w, (isAgg t).run P w = .ok true w
  size : ∀ w, (sizeOf t).run P w = .ok k w
class ScT (P : Program) (t : TypeId) : Prop where
  agg : ∀ w, (isAgg t).run P w = .ok false w
  size : ∀ w, (sizeOf t).run P w = .ok 1 w
class ZeT (P : Program) (t : TypeId) (z : outParam Value) : Prop where
  zero : ∀ w, (zeroValue t).run P w = .ok z w
class SlT (P : Program) (t : TypeId) (e : outParam TypeId) (sz bytes : outParam Nat) : Prop where
  und : P.underlying t = some (.slice e)
  info : ∃ (i : TypeInfo) (z : Value), P.info? e = some i ∧ i.size = sz ∧ i.bytes = bytes ∧ i.zero = some z ∧ z.cells.size = sz
  pos : 0 < sz
class StT (P : Program) (t : TypeId) : Prop where
  und : P.underlying t = some .string
class FdT (P : Program) (t : TypeId) (i : Nat) (off : outParam Nat) : Prop where
  run : ∀ (a : Addr) w, (Instr.fieldAt t (.pointer (some a)) i).run P w = .ok (.pointer (some (a.add off))) w
class FnT (P : Program) (f : FuncId) : Prop where
  call : ∀ args w, (callFunc f args).run P w = .ok (.enter f args) w

theorem AgT.of {P : Program} {t : TypeId} {k : Nat} {fs : Array Field} (h : P.underlying t = some (.struct fs)) (hs : (P.info? t).map (·.size) = some k) : AgT P t k := by
  refine ⟨fun w => by simp [isAgg, run_underlying h], fun w => ?_⟩
  cases hi : P.info? t with
  | none => simp [hi] at hs
  | some i => simp [hi] at hs; simp [sizeOf, typeInfo, hi, hs]
theorem ScT.of {P : Program} {t : TypeId} {d : TypeDesc} (h : P.underlying t = some d) (hd : (match d with | .struct _ | .array _ _ => true | _ => false) = false) (hs : (P.info? t).map (·.size) = some 1) : ScT P t := by
  refine ⟨fun w => ?_, fun w => ?_⟩
  · cases d <;> simp_all [isAgg, run_underlying h]
  · cases hi : P.info? t with
    | none => simp [hi] at hs
    | some i => simp [hi] at hs; simp [sizeOf, typeInfo, hi, hs]
theorem ZeT.of {P : Program} {t : TypeId} {z : Value} (h : (P.info? t).bind (·.zero) = some z) : ZeT P t z := by
  refine ⟨fun w => ?_⟩
  cases hi : P.info? t with
  | none => simp [hi] at h
  | some i => simp [hi] at h; simp [zeroValue, typeInfo, hi, h]
theorem SlT.of {P : Program} {t e : TypeId} {sz bytes : Nat} (h : P.underlying t = some (.slice e)) (hs : (P.info? e).map (fun i => (i.size, i.bytes, i.zero.map (·.cells.size))) = some (sz, bytes, some sz)) (hp : Nat.blt 0 sz = true) : SlT P t e sz bytes := by
  refine ⟨h, ?_, Nat.le_of_ble_eq_true hp⟩
  cases hi : P.info? e with
  | none => simp [hi] at hs
  | some i =>
    simp [hi] at hs
    obtain ⟨h1, h2, z, h3, h4⟩ := hs
    exact ⟨i, z, rfl, h1, h2, h3, h4⟩
theorem FdT.of {P : Program} {t : TypeId} {i off : Nat} {fs : Array Field} {f : Field} {k : Nat} (h : P.underlying t = some (.struct fs)) (hf : fs[i]? = some f) (ho : f.offset = off) (hs : (P.info? f.type).map (·.size) = some k) (hk : Nat.beq k 0 = false) : FdT P t i off := by
  subst ho
  refine ⟨fun a w => ?_⟩
  have hk' : k ≠ 0 := fun e => by subst e; simp [Nat.beq] at hk
  cases hi : P.info? f.type with
  | none => simp [hi] at hs
  | some j => simp [hi] at hs; simp [Instr.fieldAt, run_underlying h, hf, Instr.sureAddr, fieldPlace, sizeOf, typeInfo, hi, hs, hk']
theorem FnT.of {P : Program} {f : FuncId} {fn : Func} (h : P.funcs[f]? = some fn) (hn : (fn.name == "runtime.NumGoroutine") = false) (hb : fn.body.isNone = false) : FnT P f := by
  refine ⟨fun args w => ?_⟩
  have hn' : fn.name ≠ "runtime.NumGoroutine" := by simpa using hn
  have hb' : fn.body ≠ none := fun e => by simp [e] at hb
  simp [callFunc, h, hn', hb']

/-! ### Where a thing of one's own lies in the list -/
theorem has0 {r : Res} {L : List Res} : (r :: L)[0]? = some r := rfl
theorem hasS {r r' : Res} {L : List Res} {i : Nat} (h : L[i]? = some r) : (r' :: L)[i + 1]? = some r := by simpa using h
theorem mem0 {f : Fact} {F : List Fact} : f ∈ f :: F := List.Mem.head _
theorem memS {f f' : Fact} {F : List Fact} (h : f ∈ F) : f ∈ f' :: F := List.Mem.tail _ h

section
variable {P : Program} {W0 : World} {n : Nat} {Q : Po} {ρ : Rho} {L : List Res} {F : List Fact} {ops : Array Oper} {l : List Oper} {K : Act → World → Prop}
variable {d : Tmp} {ty t : TypeId} {pos : String} {af : Array Edge} {g : Option (Nat × Bool)}

/-! ### Guards -/
theorem AL.go {dd : Option Tmp} {op : Op} (h : AO P W0 n (wpList P ops Q l) ⟨dd, op, ty, pos, af, none⟩ Q ρ L F) : AL P W0 n ops (⟨dd, op, ty, pos, af, none⟩ :: l) Q ρ L F := by
  intro a w s
  refine wpList_plain rfl fun K hK => ?_
  have := h a w s
  have e : (wpList P ops Q l) = fun a w => wpList P ops Q l a w := rfl
  revert this
  generalize hR : (execOp a.eval ⟨dd, op, ty, pos, af, none⟩).run P w = R
  simp only [Oper.wp, hR]
  intro this
  cases R with
  | ok x w' =>
    cases x <;> simp only [Oper.upon] at this ⊢ <;> first | exact hK _ _ this | exact this | skip
    · exact this.mono fun e w' q => by cases e <;> first | exact hK _ _ q | exact q
    · exact this.mono fun e w' q => hK _ _ q
  | halt x w' => cases x <;> simp only [Oper.upon] at this ⊢ <;> exact this

theorem yielded_of {ρ : Rho} {a : Act} (h : Slots n ρ a) {j dj : Nat} {b : Bool} (hj : (ops[j]?).bind (·.dst) = some dj) (hv : look ρ dj = some (.bool b)) : yielded ops a.tmps j = some b := by
  simp [yielded, hj, h.2.2 _ _ hv]

theorem AL.yes {dd : Option Tmp} {op : Op} {j : Nat} {b : Bool} {dj : Nat} (hj : (ops[j]?).bind (·.dst) = some dj) (hv : look ρ dj = some (.bool b))
    (h : AO P W0 n (wpList P ops Q l) ⟨dd, op, ty, pos, af, some (j, b)⟩ Q ρ L F) : AL P W0 n ops (⟨dd, op, ty, pos, af, some (j, b)⟩ :: l) Q ρ L F := by
  intro a w s
  have hw : Region.wanted (⟨dd, op, ty, pos, af, some (j, b)⟩ : Oper) (yielded ops a.tmps) = true := by simp [Region.wanted, yielded_of s.slots hj hv]
  unfold wpList
  rw [if_pos hw]
  exact .inl (h a w s)

def nobool : Value → Bool → Bool
  | .bool c, b => c != b
  | _, _ => true

theorem AL.no {op : Op} {j : Nat} {b : Bool} {dj : Nat} {v : Value} (hj : (ops[j]?).bind (·.dst) = some dj) (hv : look ρ dj = some v) (hne : nobool v b = true) (hd : Nat.blt d n = true)
    (h : AL P W0 n ops l Q ((d, undef) :: ρ) L F) : AL P W0 n ops (⟨some d, op, ty, pos, af, some (j, b)⟩ :: l) Q ρ L F := by
  intro a w s
  have hw : Region.wanted (⟨some d, op, ty, pos, af, some (j, b)⟩ : Oper) (yielded ops a.tmps) = false := by
    have := s.slots.2.2 _ _ hv
    cases v <;> simp_all [Region.wanted, yielded, nobool]
  refine wpList_skip hw ?_
  exact h _ _ ⟨s.slots.put (Nat.le_of_ble_eq_true hd) _, s.sat⟩

/-! ### Operations that only give a value -/
theorem AO.val {op : Op} {v : Value} (hd : Nat.blt d n = true) (hr : ∀ a w, St W0 n ρ L F a w → (execOp a.eval ⟨some d, op, ty, pos, af, g⟩).run P w = .ok (.value v) w)
    (h : AT W0 n K ((d, v) :: ρ) L F) : AO P W0 n K ⟨some d, op, ty, pos, af, g⟩ Q ρ L F := by
  intro a w s
  simp only [Oper.wp, hr a w s, Oper.upon]
  exact h _ _ ⟨s.slots.put (Nat.le_of_ble_eq_true hd) _, s.sat⟩

theorem AO.move {x : Operand} {v : Value} (hx : ev ρ x = some v) (hd : Nat.blt d n = true) (h : AT W0 n K ((d, v) :: ρ) L F) : AO P W0 n K ⟨some d, .move x, ty, pos, af, g⟩ Q ρ L F :=
  AO.val hd (fun a w s => by simp [execOp, ev_eval s.slots hx]) h
theorem AO.assign {x : Operand} {v : Value} (hx : ev ρ x = some v) (hd : Nat.blt d n = true) (h : AT W0 n K ((d, v) :: ρ) L F) : AO P W0 n K ⟨some d, .assign x, ty, pos, af, g⟩ Q ρ L F :=
  AO.val hd (fun a w s => by simp [execOp, ev_eval s.slots hx]) h
theorem AO.pickT {c x y : Operand} {v : Value} (hc : ev ρ c = some (.bool true)) (hx : ev ρ x = some v) (hd : Nat.blt d n = true) (h : AT W0 n K ((d, v) :: ρ) L F) : AO P W0 n K ⟨some d, .pick c x y, ty, pos, af, g⟩ Q ρ L F :=
  AO.val hd (fun a w s => by simp [execOp, ev_eval s.slots hc, ev_eval s.slots hx, asBool]) h
theorem AO.pickF {c x y : Operand} {v : Value} (hc : ev ρ c = some (.bool false)) (hy : ev ρ y = some v) (hd : Nat.blt d n = true) (h : AT W0 n K ((d, v) :: ρ) L F) : AO P W0 n K ⟨some d, .pick c x y, ty, pos, af, g⟩ Q ρ L F :=
  AO.val hd (fun a w s => by simp [execOp, ev_eval s.slots hc, ev_eval s.slots hy, asBool]) h
theorem AO.not {x : Operand} {b : Bool} (hx : ev ρ x = some (.bool b)) (hd : Nat.blt d n = true) (h : AT W0 n K ((d, .bool (!b)) :: ρ) L F) : AO P W0 n K ⟨some d, .unOp .not t x, ty, pos, af, g⟩ Q ρ L F :=
  AO.val hd (fun a w s => by simp [execOp, ev_eval s.slots hx, Op.unary]) h
theorem AO.extract {x : Operand} {i : Nat} {vs : Array Value} {v : Value} (hx : ev ρ x = some (.tuple vs)) (hv : vs[i]? = some v) (hd : Nat.blt d n = true) (h : AT W0 n K ((d, v) :: ρ) L F) : AO P W0 n K ⟨some d, .extract x i, ty, pos, af, g⟩ Q ρ L F :=
  AO.val hd (fun a w s => by simp [execOp, ev_eval s.slots hx, Instr.extract, hv]) h
theorem AO.nilCheckP {x : Operand} {p : Addr} (hx : ev ρ x = some (.pointer (some p))) (hd : Nat.blt d n = true) (h : AT W0 n K ((d, .pointer (some p)) :: ρ) L F) : AO P W0 n K ⟨some d, .nilCheck x, ty, pos, af, g⟩ Q ρ L F :=
  AO.val hd (fun a w s => by simp [execOp, ev_eval s.slots hx]) h
theorem AO.nilCheckF {x : Operand} {f : FuncId} {fi ca : Array Value} (hx : ev ρ x = some (.func (.func f) fi ca)) (hd : Nat.blt d n = true) (h : AT W0 n K ((d, .func (.func f) fi ca) :: ρ) L F) : AO P W0 n K ⟨some d, .nilCheck x, ty, pos, af, g⟩ Q ρ L F :=
  AO.val hd (fun a w s => by simp [execOp, ev_eval s.slots hx]) h

/-! numbers -/
section
variable {x y : Operand} {yt : TypeId} {a b : Int} {k : IntKind}
theorem wrap_i64 {c : Int} (h1 : -9223372036854775808 ≤ c) (h2 : c ≤ 9223372036854775807) : IntKind.i64.wrap c = c := IntWalk.i64_in _ ⟨h1, h2⟩

theorem AO.add (hx : ev ρ x = some (.int .i64 a)) (hy : ev ρ y = some (.int .i64 b)) (hd : Nat.blt d n = true) (h1 : -9223372036854775808 ≤ a + b) (h2 : a + b ≤ 9223372036854775807)
    (h : AT W0 n K ((d, .int .i64 (a + b)) :: ρ) L F) : AO P W0 n K ⟨some d, .binOp .add t x y yt, ty, pos, af, g⟩ Q ρ L F :=
  AO.val hd (fun s w st => by simp [execOp, ev_eval st.slots hx, ev_eval st.slots hy, eqGuard_add, binOp_add, Op.intArith, wrap_i64 h1 h2]) h
theorem AO.sub (hx : ev ρ x = some (.int .i64 a)) (hy : ev ρ y = some (.int .i64 b)) (hd : Nat.blt d n = true) (h1 : -9223372036854775808 ≤ a - b) (h2 : a - b ≤ 9223372036854775807)
    (h : AT W0 n K ((d, .int .i64 (a - b)) :: ρ) L F) : AO P W0 n K ⟨some d, .binOp .sub t x y yt, ty, pos, af, g⟩ Q ρ L F :=
  AO.val hd (fun s w st => by simp [execOp, ev_eval st.slots hx, ev_eval st.slots hy, eqGuard_sub, binOp_sub, Op.intArith, wrap_i64 h1 h2]) h
theorem AO.mul (hx : ev ρ x = some (.int .i64 a)) (hy : ev ρ y = some (.int .i64 b)) (hd : Nat.blt d n = true) (h1 : -9223372036854775808 ≤ a * b) (h2 : a * b ≤ 9223372036854775807)
    (h : AT W0 n K ((d, .int .i64 (a * b)) :: ρ) L F) : AO P W0 n K ⟨some d, .binOp .mul t x y yt, ty, pos, af, g⟩ Q ρ L F :=
  AO.val hd (fun s w st => by simp [execOp, ev_eval st.slots hx, ev_eval st.slots hy, eqGuard_mul, binOp_mul, Op.intArith, wrap_i64 h1 h2]) h

theorem AO.cmp {op : BinOp} {c : Bool} (hd : Nat.blt d n = true) (hr : ∀ s w, St W0 n ρ L F s w → (execOp s.eval ⟨some d, .binOp op t x y yt, ty, pos, af, g⟩).run P w = .ok (.value (.bool c)) w)
    (ht : c = true → AT W0 n K ((d, .bool true) :: ρ) L F) (hf : c = false → AT W0 n K ((d, .bool false) :: ρ) L F) : AO P W0 n K ⟨some d, .binOp op t x y yt, ty, pos, af, g⟩ Q ρ L F := by
  cases c
  · exact AO.val hd hr (hf rfl)
  · exact AO.val hd hr (ht rfl)

theorem AO.eql (hx : ev ρ x = some (.int k a)) (hy : ev ρ y = some (.int k b)) (hd : Nat.blt d n = true) (ht : a = b → AT W0 n K ((d, .bool true) :: ρ) L F) (hf : a ≠ b → AT W0 n K ((d, .bool false) :: ρ) L F) :
    AO P W0 n K ⟨some d, .binOp .eql t x y yt, ty, pos, af, g⟩ Q ρ L F :=
  AO.cmp (c := a == b) hd (fun s w st => by simp [execOp, ev_eval st.slots hx, ev_eval st.slots hy, eqGuard_at_int, binOp_eql]) (fun e => ht (by simpa using e)) (fun e => hf (by simpa using e))
theorem AO.neq (hx : ev ρ x = some (.int k a)) (hy : ev ρ y = some (.int k b)) (hd : Nat.blt d n = true) (ht : a ≠ b → AT W0 n K ((d, .bool true) :: ρ) L F) (hf : a = b → AT W0 n K ((d, .bool false) :: ρ) L F) :
    AO P W0 n K ⟨some d, .binOp .neq t x y yt, ty, pos, af, g⟩ Q ρ L F :=
  AO.cmp (c := a != b) hd (fun s w st => by simp [execOp, ev_eval st.slots hx, ev_eval st.slots hy, eqGuard_at_int, binOp_neq]) (fun e => ht (by simpa using e)) (fun e => hf (by simpa using e))
theorem AO.lss (hx : ev ρ x = some (.int k a)) (hy : ev ρ y = some (.int k b)) (hd : Nat.blt d n = true) (ht : a < b → AT W0 n K ((d, .bool true) :: ρ) L F) (hf : b ≤ a → AT W0 n K ((d, .bool false) :: ρ) L F) :
    AO P W0 n K ⟨some d, .binOp .lss t x y yt, ty, pos, af, g⟩ Q ρ L F :=
  AO.cmp (c := decide (a < b)) hd (fun s w st => by simp [execOp, ev_eval st.slots hx, ev_eval st.slots hy, eqGuard_at_int, binOp_lss]) (fun e => ht (by simpa using e)) (fun e => hf (by simpa using e))
theorem AO.leq (hx : ev ρ x = some (.int k a)) (hy : ev ρ y = some (.int k b)) (hd : Nat.blt d n = true) (ht : a ≤ b → AT W0 n K ((d, .bool true) :: ρ) L F) (hf : b < a → AT W0 n K ((d, .bool false) :: ρ) L F) :
    AO P W0 n K ⟨some d, .binOp .leq t x y yt, ty, pos, af, g⟩ Q ρ L F :=
  AO.cmp (c := decide (a ≤ b)) hd (fun s w st => by simp [execOp, ev_eval st.slots hx, ev_eval st.slots hy, eqGuard_at_int, binOp_leq]) (fun e => ht (by simpa using e)) (fun e => hf (by simpa using e))
theorem AO.gtr (hx : ev ρ x = some (.int k a)) (hy : ev ρ y = some (.int k b)) (hd : Nat.blt d n = true) (ht : b < a → AT W0 n K ((d, .bool true) :: ρ) L F) (hf : a ≤ b → AT W0 n K ((d, .bool false) :: ρ) L F) :
    AO P W0 n K ⟨some d, .binOp .gtr t x y yt, ty, pos, af, g⟩ Q ρ L F :=
  AO.cmp (c := decide (b < a)) hd (fun s w st => by simp [execOp, ev_eval st.slots hx, ev_eval st.slots hy, eqGuard_at_int, binOp_gtr]) (fun e => ht (by simpa using e)) (fun e => hf (by simpa using e))
theorem AO.geq (hx : ev ρ x = some (.int k a)) (hy : ev ρ y = some (.int k b)) (hd : Nat.blt d n = true) (ht : b ≤ a → AT W0 n K ((d, .bool true) :: ρ) L F) (hf : a < b → AT W0 n K ((d, .bool false) :: ρ) L F) :
    AO P W0 n K ⟨some d, .binOp .geq t x y yt, ty, pos, af, g⟩ Q ρ L F :=
  AO.cmp (c := decide (b ≤ a)) hd (fun s w st => by simp [execOp, ev_eval st.slots hx, ev_eval st.slots hy, eqGuard_at_int, binOp_geq]) (fun e => ht (by simpa using e)) (fun e => hf (by simpa using e))
end
end
end Go.Sy
