/- Joined of my own texts: FwAC. -/
import Derived.Test.YtodaafgpfjcpgaaGreatDoorX12
import Derived.Laws.RangeAny
import Derived.Lib.DecodeN
import Derived.Recover
namespace Go.Sy
open Go Go.RowKit
section
variable {P : Program} {W0 : World} {n : Nat} {Q Z : Po} {ρ : Rho} {L L' : List Res} {F F' : List Fact} {K : Act → World → Prop} {ro : Option Nat} {ds : List Deferred}
variable {d : Tmp} {ty : TypeId} {pos : String} {af : Array Edge} {g : Option (Nat × Bool)} {x : Operand}
def PostX (R : Value → List Res → List Fact → Prop) (X : List PanicEntry → List Res → List Fact → Prop) (W0 : World) : Ending → World → Prop := fun e w' =>
  (∃ v L' F', e = .returned v ∧ R v L' F' ∧ Sat W0 L' F' w') ∨ (∃ ch L' F', e = .panicked ch ∧ X ch L' F' ∧ Sat W0 L' F' w')
def ACallsX (P : Program) (W0 : World) (f : FuncId) (args : Array Value) (L : List Res) (F : List Fact) (R : Value → List Res → List Fact → Prop) (X : List PanicEntry → List Res → List Fact → Prop) : Prop :=
  ∀ w, Sat W0 L F w → Calls P f args w (PostX R X W0)
section
variable {f : FuncId} {args : Array Value} {R R' : Value → List Res → List Fact → Prop} {X X' : List PanicEntry → List Res → List Fact → Prop}
theorem ACallsX.of (h : ACalls P W0 f args L F R) : ACallsX P W0 f args L F R X := fun w s => (h w s).mono fun _ _ h => .inl h
theorem ACallsX.mono (h : ACallsX P W0 f args L F R X) (hr : ∀ v L F, R v L F → R' v L F) (hx : ∀ ch L F, X ch L F → X' ch L F) : ACallsX P W0 f args L F R' X' := fun w s => (h w s).mono fun _ _ h => h.imp (fun ⟨v, L, F, e, r, s⟩ => ⟨v, L, F, e, hr _ _ _ r, s⟩) (fun ⟨v, L, F, e, r, s⟩ => ⟨v, L, F, e, hx _ _ _ r, s⟩)
theorem ACallsX.weak (hs : Sub L F L' F') (h : ACallsX P W0 f args L' F' R X) : ACallsX P W0 f args L F R X := fun w s => h w (hs _ _ s)
end
theorem AO.callGoX {a : Act} {w : World} {o : Oper} {f : FuncId} {args : Array Value} (ho : o.dst = some d) (hd : Nat.blt d n = true) (s : St W0 n ρ L F a w) (hr : (execOp a.eval o).run P w = .ok (.enter f args) w)
    (h : ACallsX P W0 f args L F (fun v L' F' => AT W0 n K ((d, v) :: ρ) L' F') (fun ch L' F' => AT W0 n (Z (.panic ch)) ρ L' F')) : ow P o a w K Z := by
  refine ⟨HO hr (fun _ e => by cases e), ?_⟩
  simp only [hr, owR]
  refine (h w s.sat).mono fun e w' h => ?_
  rcases h with ⟨v, L', F', he, hk, hs⟩ | ⟨ch, L', F', he, hk, hs⟩
  · refine .inl ⟨v, he, ?_⟩
    rw [ho]
    exact hk _ _ ⟨s.slots.put (Nat.le_of_ble_eq_true hd) _, hs⟩
  exact .inr ⟨ch, he, hk _ _ ⟨s.slots, hs⟩⟩
theorem AO.callX {f : FuncId} {oas : List Operand} {vs : List Value} {ts : Array TypeId} [hf : FnT P f] (ha : evL ρ oas = some vs) (hd : Nat.blt d n = true)
    (h : ACallsX P W0 f vs.toArray L F (fun v L' F' => AT W0 n K ((d, v) :: ρ) L' F') (fun ch L' F' => AT W0 n (Z (.panic ch)) ρ L' F')) : AO P W0 n K ⟨some d, .call ⟨.value (.func f), oas.toArray, ts⟩, ty, pos, af, g⟩ Z ρ L F := by
  intro a w s
  refine AO.callGoX HQ hd s ?_ h
  have := evL_eval s.slots ha
  simp only [execOp, resolve, this]
  simp [Act.eval, Deferred.ofValue, invoke, hf.call]
theorem AO.callCX {f : FuncId} {oas : List Operand} {vs cs : List Value} {ts : Array TypeId} (hx : ev ρ x = some (.func (.func f) #[] cs.toArray)) (ha : evL ρ oas = some vs) (hd : Nat.blt d n = true)
    (h : ACallsX P W0 f (vs ++ cs).toArray L F (fun v L' F' => AT W0 n K ((d, v) :: ρ) L' F') (fun ch L' F' => AT W0 n (Z (.panic ch)) ρ L' F')) [hf : FnT P f] : AO P W0 n K ⟨some d, .call ⟨.value x, oas.toArray, ts⟩, ty, pos, af, g⟩ Z ρ L F := by
  intro a w s
  refine AO.callGoX HQ hd s ?_ h
  have := evL_eval s.slots ha
  simp only [execOp, resolve, this, GK s.slots hx]
  simp [Deferred.ofValue, invoke, hf.call]
theorem AK.seqP {K : Act → World → Prop} {ch : List PanicEntry} (h : AK ds W0 n Q (.panic ch) ρ L F) : AK ds W0 n (Exit.then K Q) (.panic ch) ρ L F := h
theorem AK.blkP {id : Nat} {ch : List PanicEntry} (h : AK ds W0 n Q (.panic ch) ρ L F) : AK ds W0 n (Exit.inBlock id Q) (.panic ch) ρ L F := h
theorem AK.liftX {fn : Func} {R : Value → List Res → List Fact → Prop} {X : List PanicEntry → List Res → List Fact → Prop} {e : Exit} (h : AK [] W0 n (bodyPost P fn (Post R W0)) e ρ L F) : AK [] W0 n (bodyPost P fn (PostX R X W0)) e ρ L F := by
  intro a w s
  have := h a w s
  cases e with
  | normal => obtain ⟨h1, v, h2, h3⟩ := this; exact ⟨h1, v, h2, .inl h3⟩
  | ret => obtain ⟨h1, v, h2, h3⟩ := this; exact ⟨h1, v, h2, .inl h3⟩
  | panic ch => obtain ⟨h1, h3⟩ := this; exact ⟨h1, .inl h3⟩
  | outgrown => exact .inl this
  | exit id => exact this
  | goto l => exact this
theorem AK.panicX {fn : Func} {R : Value → List Res → List Fact → Prop} {X : List PanicEntry → List Res → List Fact → Prop} {ch : List PanicEntry} (hs : Sub L F L' F') (h : X ch L' F') : AK [] W0 n (bodyPost P fn (PostX R X W0)) (.panic ch) ρ L F := fun _ _ s => ⟨rfl, .inr ⟨ch, L', F', rfl, h, hs _ _ s.sat⟩⟩
theorem ACallsX.body {f : FuncId} {fn : Func} {c : Code} {vs : List Value} {R : Value → List Res → List Fact → Prop} {X : List PanicEntry → List Res → List Fact → Prop} (hf : P.funcs[f]? = some fn) (hb : fn.body = some c) (hnt : fn.ntmps = n) (hn : Nat.ble vs.length n = true)
    (h : AC none [] P W0 n c (bodyPost P fn (PostX R X W0)) (start 0 vs) L F) : ACallsX P W0 f vs.toArray L F R X := by
  intro w s
  subst hnt
  refine calls_of_wp hf hb ((wpIn_wide (n := 0)).1 (h { tmps := vs.toArray ++ Array.replicate (fn.ntmps - vs.toArray.size) undef, defers := [] } w ⟨⟨?_, rfl, ?_⟩, s⟩))
  · have := Nat.le_of_ble_eq_true hn
    simp; omega
  intro i v hi
  obtain ⟨_, hv⟩ := look_start vs 0 i v hi
  have hlt : i < vs.length := by
    rcases Nat.lt_or_ge i vs.length with k | k
    · exact k
    simp [List.getElem?_eq_none k] at hv
  simp only [Nat.sub_zero] at hv
  simp only [Array.getElem?_append, List.size_toArray, hlt, if_true, List.getElem?_toArray, hv]
theorem AK.toZ {ch : List PanicEntry} (h : AK ds W0 n Q (.panic ch) ρ L F) : AT W0 n (fun a w => Q (.panic ch) (wd ds a) w) ρ L F := h
theorem AT.toZ {ch : List PanicEntry} (h : ∀ a w, Sat W0 L F w → Q (.panic ch) (wd ds a) w) : AT W0 n (Pz (Nq ds Q) (.panic ch)) ρ L F := fun _ w s b => h b w s.sat
theorem AK.allP {K : Act → World → Prop} {ch : List PanicEntry} (h : ∀ a w, Sat W0 L F w → Q (.panic ch) (wd ds a) w) : ∀ a w, Sat W0 L F w → (Exit.then K Q) (.panic ch) (wd ds a) w := h
theorem AK.allB {id : Nat} {ch : List PanicEntry} (h : ∀ a w, Sat W0 L F w → Q (.panic ch) (wd ds a) w) : ∀ a w, Sat W0 L F w → (Exit.inBlock id Q) (.panic ch) (wd ds a) w := h
theorem AK.allX {fn : Func} {R : Value → List Res → List Fact → Prop} {X : List PanicEntry → List Res → List Fact → Prop} {ch : List PanicEntry} (hs : Sub L F L' F') (h : X ch L' F') : ∀ a w, Sat W0 L F w → bodyPost P fn (PostX R X W0) (.panic ch) (wd [] a) w := fun _ _ s => ⟨rfl, .inr ⟨ch, L', F', rfl, h, hs _ _ s⟩⟩
theorem AO.callBX {f : FuncId} {oas : List Operand} {vs fi cs : List Value} {ts : Array TypeId} (hx : ev ρ x = some (.func (.func f) fi.toArray cs.toArray)) (ha : evL ρ oas = some vs) (hd : Nat.blt d n = true)
    (h : ACallsX P W0 f (fi ++ vs ++ cs).toArray L F (fun v L' F' => AT W0 n K ((d, v) :: ρ) L' F') (fun ch L' F' => AT W0 n (Z (.panic ch)) ρ L' F')) [hf : FnT P f] : AO P W0 n K ⟨some d, .call ⟨.value x, oas.toArray, ts⟩, ty, pos, af, g⟩ Z ρ L F := by
  intro a w s
  refine AO.callGoX HQ hd s ?_ h
  have := evL_eval s.slots ha
  simp only [execOp, resolve, this, GK s.slots hx]
  simp [Deferred.ofValue, invoke, hf.call]
theorem AO.panic {dd : Option Tmp} {t : TypeId} {v : Value} (hx : ev ρ x = some (.iface t v)) (h : AT W0 n (Z (.panic [{ v := .iface t v, recovered := false }])) ρ L F) : AO P W0 n K ⟨dd, .panic x, ty, pos, af, g⟩ Z ρ L F := by
  intro a w s
  refine ⟨fun c e => (by cases e), ?_⟩
  have hr : (execOp a.eval ⟨dd, .panic x, ty, pos, af, g⟩).run P w = .halt (.panic (.iface t v)) w := by
    simp only [execOp, GK s.slots hx, Sem.run_bind, run_panic_iface]; rfl
  simp only [hr, owR]
  exact h _ _ s
class CoT (P : Program) (t : TypeId) : Prop where
  conc : P.concrete t = true
theorem AO.iface {t : TypeId} [ht : CoT P t] {v : Value} (hx : ev ρ x = some v) (hd : Nat.blt d n = true) (h : AT W0 n K ((d, .iface t v) :: ρ) L F) : AO P W0 n K ⟨some d, .makeInterface t x, ty, pos, af, g⟩ Q ρ L F :=
  HG hd (fun a w s => by simp [execOp, GK s.slots hx, run_makeInterface w t v ht.conc]) h
def iterO (s : List UInt8) (p : Nat) : Obj := .stringIter ⟨s.toArray⟩ p
theorem AO.rangeS {t : TypeId} [ht : StT P t] {s : List UInt8} (hx : ev ρ x = some (S s)) (hd : Nat.blt d n = true) (h : ∀ b, AT W0 n K ((d, .pointer (some ⟨b, 0, none⟩)) :: ρ) (Res.obj b (iterO s 0) :: L) F) : AO P W0 n K ⟨some d, .range t x, ty, pos, af, g⟩ Q ρ L F := by
  intro a w st
  have hr : (execOp a.eval ⟨some d, .range t x, ty, pos, af, g⟩).run P w = .ok (.value (.pointer (some ⟨w.heap.size, 0, none⟩))) (w.alloc (iterO s 0)) := by
    simp [execOp, GK st.slots hx, run_range_string w t _ ht.und, World.iter, iterO]
  refine ⟨HO hr (fun _ e => by cases e), ?_⟩
  simp only [hr, owR]
  exact h _ _ _ ⟨st.slots.put (Nat.le_of_ble_eq_true hd) _, st.sat.allocO _⟩
theorem AO.nextS {s : List UInt8} {p b i : Nat} (hx : ev ρ x = some (.pointer (some ⟨b, 0, none⟩))) (hd : Nat.blt d n = true) (hi : L[i]? = some (Res.obj b (iterO s p)))
    (hT : p < s.length → AT W0 n K ((d, .tuple #[.bool true, .int .i64 p, .int .i32 (Utf8.decode ⟨s.toArray⟩ p).1]) :: ρ) (L.set i (Res.obj b (iterO s (p + (Utf8.decode ⟨s.toArray⟩ p).2)))) F)
    (hF : s.length ≤ p → AT W0 n K ((d, .tuple #[.bool false]) :: ρ) L F) : AO P W0 n K ⟨some d, .next x true, ty, pos, af, g⟩ Q ρ L F := by
  intro a w st
  by_cases hp : p < s.length
  · obtain ⟨hb, hs⟩ := st.sat.put (O' := iterO s (p + (Utf8.decode ⟨s.toArray⟩ p).2)) hi
    have hr : (execOp a.eval ⟨some d, .next x true, ty, pos, af, g⟩).run P w = .ok (.value (.tuple #[.bool true, .int .i64 p, .int .i32 (Utf8.decode ⟨s.toArray⟩ p).1])) (w.putObj b (iterO s (p + (Utf8.decode ⟨s.toArray⟩ p).2))) := by
      have hp' : p < (⟨s.toArray⟩ : ByteArray).size := by rw [S_size]; exact hp
      simp only [iterO] at hb
      simp only [execOp, GK st.slots hx, Instr.next, getObj, setObj, Sem.run_bind, Sem.run, hb, Result.andThen, hp', if_true, goInt, iterO]
      simp [World.putObj]
    refine ⟨HO hr (fun _ e => by cases e), ?_⟩
    simp only [hr, owR]
    exact hT hp _ _ ⟨st.slots.put (Nat.le_of_ble_eq_true hd) _, hs⟩
  obtain ⟨hb, _⟩ := st.sat.put (O' := iterO s p) hi
  have hr : (execOp a.eval ⟨some d, .next x true, ty, pos, af, g⟩).run P w = .ok (.value (.tuple #[.bool false])) w := by
    have hp' : ¬ p < (⟨s.toArray⟩ : ByteArray).size := by rw [S_size]; exact hp
    simp only [iterO] at hb
    simp only [execOp, GK st.slots hx, Instr.next, getObj, setObj, Sem.run_bind, Sem.run, hb, Result.andThen, hp', if_false]
    simp
  refine ⟨HO hr (fun _ e => by cases e), ?_⟩
  simp only [hr, owR]
  exact hF HS _ _ ⟨st.slots.put (Nat.le_of_ble_eq_true hd) _, st.sat⟩
class FvT (P : Program) (t : TypeId) (i : Nat) (off : outParam Nat) : Prop where
  run : ∀ (cs : List Value) (v : Value) w, cs[off]? = some v → (Instr.field t (.agg cs.toArray) i).run P w = .ok v w
theorem FvT.of {t t1 : TypeId} {i off : Nat} {fs : Array Field} {f : Field} (hu : P.underlying t = some (.struct fs)) (hf : fs[i]? = some f) (he : f.type = t1) (ho : f.offset = off) [ht : ScT P t1] : FvT P t i off := by
  subst he ho
  exact ⟨fun cs v w hv => by simp [Instr.field, run_underlying hu, hf, part, asAgg, ht.agg, hv, Result.andThen]⟩
theorem AO.fieldW {t : TypeId} {i off : Nat} [hf : FvT P t i off] {cs : List Value} {v : Value} (hx : ev ρ x = some (.agg cs.toArray)) (hv : cs[off]? = some v) (hd : Nat.blt d n = true) (h : AT W0 n K ((d, v) :: ρ) L F) : AO P W0 n K ⟨some d, .field t x i, ty, pos, af, g⟩ Q ρ L F :=
  HG hd (fun a w s => by simp [execOp, GK s.slots hx, hf.run cs v w hv]) h
abbrev eV (v : Value) : List D := [.val v]
theorem cells_eV (F : List Fact) : ∀ cs : List Value, Cells F cs (cs.map eV).flatten
  | [] => .nil
  | _ :: cs => .val (cells_eV F cs)
theorem AO.buildV {t : TypeId} {ps : List (Nat × Operand)} {vs : List (Nat × Value)} {cs : List Value} {z : Value} {e bytes k : Nat} [ht : SlT P t e 1 bytes] [hz : ZeT P e z] (hp : evP ρ ps = some vs) (hd : Nat.blt d n = true) (hk0 : Nat.blt 0 k = true) (hk : Nat.ble (k * 1) 16777216 = true)
    (hf : fillL (fun i => some (i * 1, 1)) ((List.replicate k (cellsL z)).flatten) vs = some cs) (hl : cs.length = k)
    (h : ∀ b, AT W0 n K ((d, .slice (some ⟨b, 0, none⟩) k k) :: ρ) L (.slc (.slice (some ⟨b, 0, none⟩) k k) 1 (cs.map eV) :: F)) : AO P W0 n K ⟨some d, .buildSlice t k ps.toArray, ty, pos, af, g⟩ Q ρ L F :=
  GN hp hd hk0 hk hf (fun b => GT ((Sub.lit (i := 0) (enc := eV) cs rfl (cells_eV F cs) (fun _ => rfl) hl (by have := Nat.le_of_ble_eq_true hk; simp only [maxLen]; omega)).trans Gf) (h b))
theorem Sub.sink {r r1 r2 : Res} : Sub (r :: r1 :: r2 :: L) F (r1 :: r2 :: r :: L) F := by
  refine Sub.pick (fun i => match i with | 0 => 1 | 1 => 2 | 2 => 0 | i + 3 => i + 3) ?_ ?_
  · intro i j _ _ e
    match i, j, e with
    | 0, 0, _ | 1, 1, _ | 2, 2, _ => rfl
    | 0, 1, e | 0, 2, e | 1, 0, e | 1, 2, e | 2, 0, e | 2, 1, e => simp at e
    | i + 3, j + 3, e => simpa using e
    | 0, j + 3, e | 1, j + 3, e | 2, j + 3, e => simp at e; try omega
    | i + 3, 0, e | i + 3, 1, e | i + 3, 2, e => simp at e; try omega
  intro i x hi
  match i, hi with
  | 0, hi | 1, hi | 2, hi => simpa using hi
  | i + 3, hi => simpa using hi
theorem Sub.drop2 {r r1 r2 : Res} : Sub (r1 :: r2 :: r :: L) F (r1 :: r2 :: L) F := by
  refine Sub.pick (fun i => match i with | 0 => 0 | 1 => 1 | i + 2 => i + 3) ?_ ?_
  · intro i j _ _ e
    match i, j, e with
    | 0, 0, _ | 1, 1, _ => rfl
    | 0, 1, e | 1, 0, e => simp at e
    | i + 2, j + 2, e => simpa using e
    | 0, j + 2, e | 1, j + 2, e => simp at e; try omega
    | i + 2, 0, e | i + 2, 1, e => simp at e; try omega
  intro i x hi
  match i, hi with
  | 0, hi | 1, hi => simpa using hi
  | i + 2, hi => simpa using hi
end
end Go.Sy
namespace Go.Sy
abbrev Gh := @AK.seqP
abbrev Gj := @AK.panicX
abbrev Gk := @AO.callX
abbrev Gm := @AK.toZ
abbrev Gs := @Sub.drop2
abbrev Gw := @AK.liftX
abbrev Gx := @AK.blkP
abbrev Gz := @AO.buildV
abbrev Ha := @AO.fieldW
abbrev Hc := @AK.allP
abbrev Hi := @Sub.sink
abbrev Hv := @AK.allX
abbrev HB := @AT.toZ
end Go.Sy
