/- Joined of my own texts: FwAD. -/
import Derived.Test.YtodaafgpfjcpgaaGreatDoorX13
import Derived.Scope
import Derived.WideLaws
namespace Go.Sy
open Go Go.RowKit
section
variable {P : Program} {W0 : World} {n : Nat} {Q Z : Po} {ρ : Rho} {L L' : List Res} {F F' : List Fact} {K : Act → World → Prop} {ro : Option Nat} {ds : List Deferred}
variable {d : Tmp} {ty : TypeId} {pos : String} {af : Array Edge} {g : Option (Nat × Bool)} {x : Operand}
theorem AC.scope {c : Code} (h : AC none ds P W0 n c (Exit.noGoto Q) ρ L F) : AC none ds P W0 n (.scope c) Q ρ L F := fun a w s => (wpIn_wide (n := 0)).2 (wp_scope_straight ((wpIn_wide (n := 0)).1 (h a w s)))
theorem AK.scpR (h : AK ds W0 n Q .ret ρ L F) : AK ds W0 n (Exit.noGoto Q) .ret ρ L F := h
def dfn (f : FuncId) (cap : List Value) : Deferred := { target := .fn (.func f) cap.toArray, args := #[] }
theorem AL.deferC {ops : Array Oper} {l : List Oper} {f : FuncId} {cs : List Value} {ts : Array TypeId} (hx : ev ρ x = some (.func (.func f) #[] cs.toArray)) (h : AL none (dfn f cs :: ds) P W0 n ops l Q ρ L F) :
    AL none ds P W0 n ops (⟨none, .defer ⟨.value x, #[], ts⟩, ty, pos, af, none⟩ :: l) Q ρ L F := by
  intro a w s
  have hw : Region.wanted (⟨none, .defer ⟨.value x, #[], ts⟩, ty, pos, af, none⟩ : Oper) (yielded ops (wd ds a).tmps) = true := rfl
  unfold WL wpListIn
  rw [if_pos hw]
  refine ⟨fun _ _ => trivial, ?_⟩
  have hr : (execOp (wd ds a).eval ⟨none, .defer ⟨.value x, #[], ts⟩, ty, pos, af, none⟩).run P w = .ok (.defer (dfn f cs)) w := by
    have e : (wd ds a).eval = a.eval := rfl
    simp [e, execOp, resolve, GK s.slots hx, Deferred.ofValue, dfn]
  show Oper.uponIn (Wd none) 0 P _ (wd ds a) (wpListIn (Wd none) 0 P ops Q l) Q ((Oper.semAt none (wd ds a).eval _).run P w)
  rw [Oper.semAt_none, hr, Oper.uponIn_defer]
  exact h a w s
def ACallsD (P : Program) (W0 : World) (f : FuncId) (args : Array Value) (u u' : FrameMode) (L : List Res) (F : List Fact) (R : List Res → List Fact → Prop) : Prop :=
  ∀ w, Sat W0 L F w → CallsD P f args u w fun e uu w' => ∃ v L' F', e = .returned v ∧ settle uu = u' ∧ R L' F' ∧ Sat W0 L' F' w'
theorem leaves_one {fn : Func} {R : Value → List Res → List Fact → Prop} {f : FuncId} {cap : List Value} [hf : FnT P f] {u : FrameMode} (hu : u ≠ .run) {a : Act} {w : World} (s : St W0 n ρ L F a w)
    (h : ACallsD P W0 f cap.toArray u .returning L F (fun L' F' => AK [] W0 n (bodyPost P fn (Post R W0)) .ret ρ L' F')) : Leaves P fn a.tmps (Post R W0) [dfn f cap] u w := by
  have key : Leaves P fn a.tmps (Post R W0) [dfn f cap] u w ↔ (u ≠ .run ∧ ∃ fv cp f' args, (dfn f cap).target = .fn fv cp ∧ (invoke (dfn f cap).target (dfn f cap).args).run P w = .ok (.enter f' args) w ∧
      CallsD P f' args u w fun
        | .returned _, u', w' => Leaves P fn a.tmps (Post R W0) [] (settle u') w'
        | .panicked chain, u', w' => Leaves P fn a.tmps (Post R W0) [] (raised u' chain) w'
        | .outgrown, _, w' => Post R W0 .outgrown w') := by
    cases u <;> exact Iff.rfl
  refine key.2 ⟨hu, _, _, f, cap.toArray, rfl, by simp [dfn, invoke, hf.call], fun c cs hc => ?_⟩
  obtain ⟨e, u', w', fr, ⟨v, L', F', rfl, hst, hk, hs⟩, h2, h3, h4⟩ := h w s.sat c cs hc
  refine ⟨.returned v, u', w', fr, ?_, h2, h3, h4⟩
  show Leaves P fn a.tmps (Post R W0) [] (settle u') w'
  rw [hst]
  obtain ⟨_, v, hv, hR⟩ := hk a w' ⟨s.slots, hs⟩
  exact ⟨v, hv, hR⟩
theorem AK.retD {fn : Func} {R : Value → List Res → List Fact → Prop} {f : FuncId} {cap : List Value} [hf : FnT P f] (h : ACallsD P W0 f cap.toArray .returning .returning L F (fun L' F' => AK [] W0 n (bodyPost P fn (Post R W0)) .ret ρ L' F')) :
    AK [dfn f cap] W0 n (bodyPostD P fn (Post R W0)) .ret ρ L F := fun a _ s => leaves_one (a := a) (by simp) s h
theorem AK.panicD {fn : Func} {R : Value → List Res → List Fact → Prop} {f : FuncId} {cap : List Value} {ch : List PanicEntry} [hf : FnT P f] (h : ACallsD P W0 f cap.toArray (.panicking ch) .returning L F (fun L' F' => AK [] W0 n (bodyPost P fn (Post R W0)) .ret ρ L' F')) :
    AK [dfn f cap] W0 n (bodyPostD P fn (Post R W0)) (.panic ch) ρ L F := fun a _ s => leaves_one (a := a) (by simp) s h
theorem AK.ret0D {fn : Func} {R : Value → List Res → List Fact → Prop} (h : AK [] W0 n (bodyPost P fn (Post R W0)) .ret ρ L F) : AK [] W0 n (bodyPostD P fn (Post R W0)) .ret ρ L F := fun a w s => by
  obtain ⟨_, v, hv, hR⟩ := h a w s
  exact ⟨v, hv, hR⟩
theorem ACalls.bodyD {f : FuncId} {fn : Func} {c : Code} {vs : List Value} {R : Value → List Res → List Fact → Prop} (hf : P.funcs[f]? = some fn) (hb : fn.body = some c) (hnt : fn.ntmps = n) (hn : Nat.ble vs.length n = true)
    (h : AC none [] P W0 n c (bodyPostD P fn (Post R W0)) (start 0 vs) L F) : ACalls P W0 f vs.toArray L F R := by
  intro w s
  subst hnt
  refine calls_of_wp_defers hf hb ((wpIn_wide (n := 0)).1 (h { tmps := vs.toArray ++ Array.replicate (fn.ntmps - vs.toArray.size) undef, defers := [] } w ⟨⟨?_, rfl, ?_⟩, s⟩))
  · have := Nat.le_of_ble_eq_true hn
    simp; omega
  intro i v hi
  obtain ⟨_, hv⟩ := look_start vs 0 i v hi
  have hlt : i < vs.length := by
    rcases Nat.lt_or_ge i vs.length with k | k
    · exact k
    simp [List.getElem?_eq_none k] at hv
  simp only [Nat.sub_zero] at hv
  simp only [Array.getElem?_append, List.size_toArray, hlt, if_true, List.getElem?_toArray, hv]
def recM : FrameMode → Value × FrameMode
  | .panicking ({ v, recovered := false, goexit := false } :: older) => (v, .panicking ({ v, recovered := true } :: older))
  | m => (.nilIface, m)
theorem recD (c : Frame) (cs : List Frame) : (∃ v m, recoverD (c :: cs) = some (v, { c with mode := m } :: cs) ∧ recM c.mode = (v, m)) ∨ (recoverD (c :: cs) = none ∧ recM c.mode = (.nilIface, c.mode)) := by
  unfold recoverD
  split
  · rename_i c' rest he
    injection he with h1 h2
    subst h1 h2
    split
    · rename_i v older hm
      exact .inl ⟨_, _, rfl, by rw [hm]; rfl⟩
    rename_i hno
    refine .inr ⟨rfl, ?_⟩
    unfold recM
    split
    · rename_i v older hm; exact absurd hm (hno v older)
    rfl
  rename_i he; cases he
theorem ACallsD.recBody {f : FuncId} {fn : Func} {c : Code} {vs : List Value} {u : FrameMode} {R : List Res → List Fact → Prop} {id : Nat} {ts : Array TypeId} {rv : Value} {um : FrameMode} (hrm : recM u = (rv, um)) (hf : P.funcs[f]? = some fn) (hb : fn.body = some (.seq (.region id #[⟨some d, .call ⟨.builtin .recover, #[], ts⟩, ty, pos, af, none⟩] false) c)) (hnt : fn.ntmps = n) (hn : Nat.ble vs.length n = true) (hd : Nat.blt d n = true)
    (h : AC none [] P W0 n c (bodyPost P fn (Post (fun _ L F => R L F) W0)) ((d, rv) :: start 0 vs) L F) : ACallsD P W0 f vs.toArray u (settle um) L F R := by
  intro w s
  obtain ⟨e1, e2⟩ : rv = (recM u).1 ∧ um = (recM u).2 := by rw [hrm]; exact ⟨rfl, rfl⟩
  subst e1 e2
  clear hrm
  subst hnt
  refine callsD_of_wpS hf hb fun c₀ cs hc => ?_
  have hslots : Slots fn.ntmps (start 0 vs) ({ tmps := vs.toArray ++ Array.replicate (fn.ntmps - vs.toArray.size) undef, defers := [] } : Act) := by
    refine ⟨?_, rfl, ?_⟩
    · have := Nat.le_of_ble_eq_true hn
      simp; omega
    intro i v hi
    obtain ⟨_, hv⟩ := look_start vs 0 i v hi
    have hlt : i < vs.length := by
      rcases Nat.lt_or_ge i vs.length with k | k
      · exact k
      simp [List.getElem?_eq_none k] at hv
    simp only [Nat.sub_zero] at hv
    simp only [Array.getElem?_append, List.size_toArray, hlt, if_true, List.getElem?_toArray, hv]
  generalize ({ tmps := vs.toArray ++ Array.replicate (fn.ntmps - vs.toArray.size) undef, defers := [] } : Act) = a at hslots ⊢
  refine wpS_seq (wpS_region ?_)
  have hrun : (execOp a.eval ⟨some d, .call ⟨.builtin .recover, #[], ts⟩, ty, pos, af, none⟩).run P w = .ok .recover w := by
    simp [execOp, resolve, invoke, builtin]
  have hgo : ∀ (um : FrameMode) (a' : Act), a' = a.put (some d) (recM u).1 → um = (recM u).2 → c.wpS P (bodyPostS P fn c₀ cs fun e uu w' => ∃ v L' F', e = .returned v ∧ settle uu = settle (recM u).2 ∧ R L' F' ∧ Sat W0 L' F' w') a' ({ c₀ with mode := um } :: cs) w := by
    intro um a' ha hm
    subst ha hm
    refine wpS_of_wp ?_
    have h1 := (wpIn_wide (n := 0)).1 (h (a.put (some d) (recM u).1) w ⟨hslots.put (Nat.le_of_ble_eq_true hd) _, s⟩)
    have hw : wd [] (a.put (some d) (recM u).1) = a.put (some d) (recM u).1 := by
      have : a.defers = [] := hslots.2.1
      simp [wd, Act.put, this]
    rw [hw] at h1
    refine Code.wp_mono ?_ h1
    intro e a2 w2 hq
    cases e with
    | normal =>
      obtain ⟨q1, v, q2, v', L', F', q3, q4, q5⟩ := hq
      exact ⟨q1, _, rfl, v, q2, _, L', F', rfl, rfl, q4, q5⟩
    | ret =>
      obtain ⟨q1, v, q2, v', L', F', q3, q4, q5⟩ := hq
      exact ⟨q1, _, rfl, v, q2, _, L', F', rfl, rfl, q4, q5⟩
    | panic ch => obtain ⟨_, v, L', F', q, _⟩ := hq; cases q
    | outgrown => obtain ⟨v, L', F', q, _⟩ := hq; cases q
    | exit id => exact hq
    | goto l => exact hq
  have hwant : Region.wanted (⟨some d, .call ⟨.builtin .recover, #[], ts⟩, ty, pos, af, none⟩ : Oper) (yielded #[⟨some d, .call ⟨.builtin .recover, #[], ts⟩, ty, pos, af, none⟩] a.tmps) = true := rfl
  have hrange : List.range (#[(⟨some d, .call ⟨.builtin .recover, #[], ts⟩, ty, pos, af, none⟩ : Oper)]).size = [0] := rfl
  rw [hrange]
  simp only [wpOpsS, List.getElem?_toArray, List.getElem?_cons_zero, hwant, if_true, hrun]
  rcases recD c₀ cs with ⟨v, m, h1, h2⟩ | ⟨h1, h2⟩
  · rw [h1]
    rw [hc] at h2
    exact hgo m _ (by rw [h2]) (by rw [h2])
  rw [h1]
  rw [hc] at h2
  have := hgo c₀.mode (a.put (some d) .nilIface) (by rw [h2]) (by rw [h2, hc])
  exact this
class ArT (P : Program) (t : TypeId) (m : outParam Nat) (e : outParam TypeId) : Prop where
  und : P.underlying t = some (.array m e)
  esize : ∀ w, (sizeOf e).run P w = .ok 1 w
  eagg : ∀ w, (isAgg e).run P w = .ok false w
  size : ∀ w, (sizeOf t).run P w = .ok m w
theorem ArT.of {t e : TypeId} {m : Nat} (h : P.underlying t = some (.array m e)) (hs : (P.info? t).map (·.size) = some m) [he : ScT P e] : ArT P t m e :=
  ⟨h, he.size, he.agg, fun w => by
    cases hi : P.info? t with
    | none => simp [hi] at hs
    | some i => simp [hi] at hs; simp [sizeOf, typeInfo, hi, hs]⟩
instance AgT.arr {t e : TypeId} {m : Nat} [h : ArT P t m e] : AgT P t m := ⟨fun w => by simp [isAgg, run_underlying h.und], h.size⟩
theorem AO.sliceG {t e : TypeId} {m b : Nat} [ht : ArT P t m e] (hx : ev ρ x = some (.pointer (some ⟨b, 0, none⟩))) (hd : Nat.blt d n = true) (h : AT W0 n K ((d, .slice (some ⟨b, 0, none⟩) m m) :: ρ) L F) : AO P W0 n K ⟨some d, .slice t x none none none, ty, pos, af, g⟩ Q ρ L F :=
  HG hd (fun a w s => by
    have he : P.elem t = e := by simp [Program.elem, ht.und]
    have hl : P.arrayLen t = m := by simp [Program.arrayLen, ht.und]
    have := run_sliceAt_array_all (P := P) w t ⟨b, 0, none⟩ (by rw [he, hl]; exact ht.und)
    simp only [execOp, GK s.slots hx, Option.map_none, Sem.run_bind, this, he, ht.esize, hl]
    simp [Result.andThen, slicedAt]
    intro _; rw [Addr.add_lit]) h
theorem AO.indexA {t e : TypeId} {m : Nat} {y : Operand} {i : Int} {j : Nat} {k : IntKind} {cs : List Value} {v : Value} [ht : ArT P t m e] (hx : ev ρ x = some (.agg cs.toArray)) (hy : ev ρ y = some (.int k i)) (hd : Nat.blt d n = true) (hi : i = (j : Int)) (hj : j < m) (hv : cs[j]? = some v) (h : AT W0 n K ((d, v) :: ρ) L F) :
    AO P W0 n K ⟨some d, .index t x y, ty, pos, af, g⟩ Q ρ L F :=
  HG hd (fun a w s => by
    subst hi
    have hlt : (0 : Int) ≤ (j : Int) ∧ (j : Int) < (m : Int) := by omega
    simp [execOp, GK s.slots hx, GK s.slots hy, Instr.index, asIntOf, run_underlying ht.und, hlt, ht.esize, part, ht.eagg, hv, Result.andThen, hj]) h
theorem Y.indexS {T : World → Prop} {dd : Option Tmp} {t : TypeId} [ht : StT P t] {y : Operand} {i : Int} {j : Nat} {k : IntKind} {a : List UInt8} (hx : ev ρ x = some (S a)) (hy : ev ρ y = some (.int k i)) (hi : i = (j : Int)) (hj : j < a.length) : Yd P n ρ T ⟨dd, .index t x y, ty, pos, af, g⟩ (.int .u8 (a[j]).toNat) := ⟨fun s w st _ => by
  subst hi
  have h0 : (0 : Int) ≤ (j : Int) ∧ (j : Int) < ((⟨a.toArray⟩ : ByteArray).size : Int) := by rw [S_size]; omega
  simp only [execOp, GK st hx, GK st hy, Sem.run_bind, run_index_string (P := P) w t _ k _ ht.und, dif_pos h0]
  simp [Result.andThen]
  rfl⟩
theorem AO.loadORA {i b q o e k c sz : Nat} {t : TypeId} {rows : List (List D)} {vs : List Value} [ht : AgT P t sz] (hx : ev ρ x = some (.pointer (some ⟨b, o, none⟩))) (hd : Nat.blt d n = true) (ho : o = 0 + q * sz) (hi : L[i]? = some (Res.own (.slice (some ⟨b, 0, none⟩) k c) e sz rows)) (hr : rows[q]? = some (vs.map D.val)) (hl : vs.length = sz)
    (h : AT W0 n K ((d, .agg vs.toArray) :: ρ) L F) : AO P W0 n K ⟨some d, .load t x, ty, pos, af, g⟩ Q ρ L F := by
  intro a0 w s
  subst ho
  obtain ⟨cur, hb, hc⟩ := s.sat.ownRow hi hr
  have hld : (loadCells ⟨b, 0 + q * sz, none⟩ sz).run P w = .ok vs.toArray w := by
    have := run_loadCells_list (P := P) w ⟨b, 0 + q * sz, none⟩ vs (fun j v hj => by
      have h1 := hc j v (by rw [List.getElem?_map, hj]; rfl)
      obtain ⟨l⟩ := cur
      rw [Addr.add_lit, block_cell hb]
      simpa [Nat.zero_add] using h1)
    rwa [hl] at this
  have hrun : (execOp a0.eval ⟨some d, .load t x, ty, pos, af, g⟩).run P w = .ok (.value (.agg vs.toArray)) w := by
    simp only [Nat.zero_add] at hld hx
    simp [execOp, GK s.slots hx, Instr.loadAt, Instr.sureAddr, loadVar, ht.agg, ht.size, hld]
  refine ⟨HO hrun (fun _ e => by cases e), ?_⟩
  simp only [hrun, owR]
  exact h _ _ ⟨s.slots.put (Nat.le_of_ble_eq_true hd) _, s.sat⟩
end
end Go.Sy
