/- Joined of my own texts: FwH. -/
import Derived.Test.YtodaafgpfjcpgaaGreatDoorX3
import Derived.OrdersHeld
namespace Go.Sy
open Go Go.RowKit
class MxT (P : Program) : Prop where
  mixed : P.follows .mixedOrders = true
def opS (P : Program) (ops : Array Oper) (Q : Po) (i : Nat) (K : Act → World → Prop) (a : Act) (w : World) : Prop :=
  match ops[i]? with
  | none => K a w
  | some o => if Region.wanted o (yielded ops a.tmps) = true then ow P o a w K (Pz Q) else K (a.put o.dst undef) w
theorem opS_mono {P : Program} {ops : Array Oper} {Q : Po} {i : Nat} {K K' : Act → World → Prop} {a : Act} {w : World} (h : ∀ a w, K a w → K' a w) (hh : opS P ops Q i K a w) : opS P ops Q i K' a w := by
  unfold opS at *
  split
  · exact h _ _ (by simpa [*] using hh)
  · rename_i o ho
    simp only [ho] at hh
    split
    · rename_i hw; simp only [hw, if_true] at hh; exact ⟨hh.1, owR_mono h hh.2⟩
    · rename_i hw; simp only [hw] at hh; exact h _ _ hh
theorem opS_yields {P : Program} {ops : Array Oper} {Q : Po} {T : World → Prop} {i : Nat} {o : Oper} {v : Value} {a : Act} (hi : ops[i]? = some o) (hy : YieldsIf P ops T o v a)
    {K : Act → World → Prop} {w : World} (hT : T w) (h : K (a.put o.dst v) w) : opS P ops Q i K a w := by
  unfold opS
  simp only [hi]
  rcases hy with ⟨hw, hv⟩ | ⟨hw, rfl⟩
  · simp only [hw, if_true]
    exact ⟨not_defer (hv w hT) (fun _ e => by cases e), by rw [hv w hT]; exact h⟩
  · simp only [hw, Bool.false_eq_true, if_false]; exact h
theorem opS_put {P : Program} {ops : Array Oper} {Q : Po} {T : World → Prop} {j : Nat} {oi oj : Oper} {v : Value} (hj : ops[j]? = some oj) (hap : oi.apart ops oj = true)
    (hsi : ∀ cs b, oi.op ≠ .select cs b) (hsj : ∀ cs b, oj.op ≠ .select cs b) {K : Act → World → Prop} {a : Act} {w : World}
    (hy : YieldsIf P ops T oi v a) (h : opS P ops Q j K (a.put oi.dst v) w) :
    opS P ops Q j (fun a' w' => YieldsIf P ops T oi v a' ∧ K (a'.put oi.dst v) w') a w := by
  obtain ⟨h1, h2, h3⟩ := Oper.apart_spec hap
  have keep : ∀ u, YieldsIf P ops T oi v (a.put oj.dst u) := fun u =>
    hy.of_same (execOp_put oi hsi a oj.dst u h3) (wanted_put oi a oj.dst u h3)
  unfold opS at *
  simp only [hj] at *
  rw [wanted_put oj a oi.dst v h1] at h
  split
  · rename_i hw
    simp only [hw, if_true] at h
    obtain ⟨hnd, h⟩ := h
    refine ⟨hnd, ?_⟩
    rw [execOp_put oj hsj a oi.dst v h1] at h
    generalize (execOp a.eval oj).run P w = r at *
    cases r with
    | ok x w' =>
      cases x with
      | value u => exact ⟨keep u, by rw [← Act.put_comm a v u h2]; exact h⟩
      | skip => exact ⟨keep _, by rw [← Act.put_comm a v undef h2]; exact h⟩
      | enter f args => exact Calls.mono h fun e w'' h => h.imp (fun ⟨u, he, hk⟩ => ⟨u, he, keep u, by rw [← Act.put_comm a v u h2]; exact hk⟩) id
      | row r args => exact Rows.mono h fun u w'' hk => ⟨keep u, by rw [← Act.put_comm a v u h2]; exact hk⟩
      | round l f tmps assign body => exact RoundIn.mono h fun e w'' ⟨u, he, hk⟩ => ⟨u, he, keep u, by rw [← Act.put_comm a v u h2]; exact hk⟩
      | _ => exact h.elim
    | halt x w' =>
      cases x with
      | panic v => exact h
      | _ => exact False.elim h
  · rename_i hw
    simp only [hw] at h
    exact ⟨keep _, by rw [← Act.put_comm a v undef h2]; exact h⟩
theorem opS_in {P : Program} {ops : Array Oper} {ro : Option Nat} {ds : List Deferred} {i : Nat} {Q : Po} {K K' : Act → World → Prop} {a : Act} {w : World} (hK : ∀ a w, K a w → K' (wd ds a) w) (h : opS P ops (Nq ds Q) i K a w) : wpOpIn (Wd ro) 0 P ops Q i K' (wd ds a) w := by
  unfold opS at h
  unfold wpOpIn
  split
  · rename_i ho; simp only [ho] at h; exact hK _ _ h
  · rename_i o ho
    simp only [ho] at h
    show if Region.wanted o (yielded ops a.tmps) = true then _ else _
    split
    · rename_i hw; simp only [hw, if_true] at h; exact ow_in' (fun x w' => hK _ _) (fun _ _ h => h a) h
    · rename_i hw; simp only [hw] at h; exact ⟨fun _ _ => trivial, by rw [put_wd]; exact hK _ _ h⟩
def wpS (P : Program) (ops : Array Oper) (Q : Po) (S : World → Prop) (sp : Nat → Bool) : Nat → Array Bool → Act → World → Prop
  | 0, listed, a, w => Region.ready .any ops listed = [] ∧ Q .normal a w
  | fuel + 1, listed, a, w => (Region.ready .any ops listed = [] → Q .normal a w) ∧
    ∀ i ∈ Region.ready .any ops listed, opS P ops Q i (fun a' w' => (sp i = false → S w → S w') ∧ wpS P ops Q S sp fuel (listed.setIfInBounds i true) a' w') a w
theorem wpAny_of_wpS {P : Program} {ops : Array Oper} {ro : Option Nat} {ds : List Deferred} {Q : Po} {S : World → Prop} {sp : Nat → Bool} : ∀ (fuel : Nat) (listed : Array Bool) (a : Act) (w : World), wpS P ops (Nq ds Q) S sp fuel listed a w → wpAnyIn (Wd ro) 0 P .any ops Q fuel listed (wd ds a) w
  | 0, _, _, _, h => h
  | fuel + 1, _, _, _, h => ⟨h.1, fun i hi => opS_in (fun a' w' h' => wpAny_of_wpS fuel _ a' w' h'.2) (h.2 i hi)⟩
def waits (ops : Array Oper) (j i : Nat) : Bool := match ops[j]? with
  | some o => o.after.any fun e => Region.binds .any e && e.on == i
  | none => false
def spWait (ops : Array Oper) (sp : Nat → Bool) (i : Nat) : Bool := (List.range ops.size).all fun j => j == i || !(sp j) || waits ops j i
theorem spWait_spec {ops : Array Oper} {sp : Nat → Bool} {i j : Nat} {oj : Oper} (h : spWait ops sp i = true) (hj : ops[j]? = some oj) (hji : j ≠ i) (hno : ∀ e ∈ oj.after, Region.binds .any e = true → e.on ≠ i) : sp j = false := by
  have hlt : j < ops.size := by
    rcases Nat.lt_or_ge j ops.size with k | k
    · exact k
    · simp [Array.getElem?_eq_none k] at hj
  have := List.all_eq_true.1 h j (List.mem_range.2 hlt)
  simp only [Bool.or_eq_true, beq_iff_eq, Bool.not_eq_true', waits, hj] at this
  rcases this with (h1 | h1) | h1
  · exact absurd h1 hji
  · exact h1
  · obtain ⟨e, he, hb⟩ := Array.any_eq_true'.1 h1
    simp only [Bool.and_eq_true, beq_iff_eq] at hb
    exact absurd hb.2 (hno e he hb.1)
theorem wpS_first {P : Program} {ops : Array Oper} {Q : Po} {S : World → Prop} {sp : Nat → Bool} {T : World → Prop} {i : Nat} {oi : Oper} {v : Value} (hi : ops[i]? = some oi) (hsel : ∀ (j : Nat) (o : Oper) cs b, ops[j]? = some o → o.op ≠ .select cs b)
    (hT : ∀ (j : Nat) (oj : Oper) (w w' : World), ops[j]? = some oj → j ≠ i → (∀ e ∈ oj.after, Region.binds .any e = true → e.on ≠ i) → (sp j = false → S w → S w') → T w → T w') :
    ∀ (fuel : Nat) (listed : Array Bool) (a : Act) (w : World),
      (∀ j oj, ops[j]? = some oj → j ≠ i → listed.getD j true = false → (∀ e ∈ oj.after, Region.binds .any e = true → e.on ≠ i) → oi.apart ops oj = true) →
      i ∈ Region.ready .any ops listed → YieldsIf P ops T oi v a → T w →
      wpS P ops Q S sp fuel (listed.setIfInBounds i true) (a.put oi.dst v) w → wpS P ops Q S sp (fuel + 1) listed a w := by
  intro fuel
  induction fuel with
  | zero =>
    intro listed a w _ hr hy hTw H
    refine ⟨fun h => (by rw [h] at hr; cases hr), fun j hj => ?_⟩
    by_cases hji : j = i
    · subst hji
      exact opS_yields hi hy hTw ⟨fun _ hs => hs, H⟩
    · have := ready_mono hj hji
      rw [H.1] at this
      cases this
  | succ fuel ih =>
    intro listed a w hfree hr hy hTw H
    refine ⟨fun h => (by rw [h] at hr; cases hr), fun j hj => ?_⟩
    by_cases hji : j = i
    · subst hji
      exact opS_yields hi hy hTw ⟨fun _ hs => hs, H⟩
    · have hstep := H.2 j (ready_mono hj hji)
      obtain ⟨hjun, oj, hoj, hall⟩ := mem_ready.1 hj
      have hnot : ∀ e ∈ oj.after, Region.binds .any e = true → e.on ≠ i := by
        intro e he hb heq
        have hl := hall e he hb
        have h0 := (mem_ready.1 hr).1
        rw [heq] at hl
        rcases Nat.lt_or_ge i listed.size with h' | h'
        · simp [h'] at h0 hl; rw [h0] at hl; cases hl
        · simp [Array.getElem?_eq_none h'] at hl
      have hput := opS_put hoj (hfree j oj hoj hji hjun hnot) (fun cs b => hsel i oi cs b hi) (fun cs b => hsel j oj cs b hoj) hy hstep
      refine opS_mono (fun a' w' h3 => ⟨h3.2.1, ih (listed.setIfInBounds j true) a' w' ?_ (ready_mono hr (Ne.symm hji)) h3.1 (hT j oj w w' hoj hji hnot h3.2.1 hTw) ?_⟩) hput
      · intro k ok hk hki hun hno
        refine hfree k ok hk hki ?_ hno
        by_cases hjk : j = k
        · subst hjk; exact hjun
        · rw [getD_set_ne true hjk] at hun; exact hun
      · rw [Array.setIfInBounds_comm _ _ hji]
        exact h3.2.2
abbrev Bx := List (Nat × List Value × TypeId)
def HX (hx : H) (bx : Bx) (w : World) : Prop := (∀ b o v, hx b o = some v → w.cell? ⟨b, o, none⟩ = some v) ∧ ∀ x ∈ bx, w.heap[x.1]? = some (.cells x.2.1.toArray x.2.2 (0, 0))
inductive BxIn (L : List Res) : Bx → Prop where
  | nil : BxIn L []
  | cons {b : Nat} {cs : List Value} {e : TypeId} {bx : Bx} {i : Nat} (hi : L[i]? = some (Res.cells b cs.toArray e)) (h : BxIn L bx) : BxIn L ((b, cs, e) :: bx)
theorem BxIn.holds {W0 : World} {L : List Res} {F : List Fact} {w : World} (s : Sat W0 L F w) {bx : Bx} (h : BxIn L bx) : ∀ x ∈ bx, w.heap[x.1]? = some (.cells x.2.1.toArray x.2.2 (0, 0)) := by
  induction h with
  | nil => intro x hx; cases hx
  | cons hi _ ih =>
    intro x hx
    rcases List.mem_cons.1 hx with rfl | hx
    · exact s.block hi
    · exact ih x hx
theorem HX.of {W0 : World} {L : List Res} {F : List Fact} {w : World} {hx : H} {bx : Bx} (s : Sat W0 L F w) (hb : BxIn L bx) (hf : Fact.held hx ∈ F) : HX hx bx w := by
  refine ⟨?_, hb.holds s⟩
  obtain ⟨h, hh, hc⟩ := s.fact hf
  exact fun b o v e => hc b o v (hh b o v e)
def AH (P : Program) (W0 : World) (n : Nat) (ops : Array Oper) (Q : Po) (hx : H) (bx : Bx) (sp : Nat → Bool) (sd : Bool) (fuel : Nat) (listed : Array Bool) (ρ : Rho) (L : List Res) (F : List Fact) : Prop :=
  ∀ a w, St W0 n ρ L F a w → (sd = true → HX hx bx w) → wpS P ops Q (HX hx bx) sp fuel listed a w
structure Yd (P : Program) (n : Nat) (ρ : Rho) (T : World → Prop) (o : Oper) (v : Value) : Prop where
  run : ∀ a w, Slots n ρ a → T w → (execOp a.eval o).run P w = .ok (.value v) w
def guardIs (ops : Array Oper) (ρ : Rho) (g : Option (Nat × Bool)) : Option Bool := match g with
  | none => some true
  | some (j, b) => match (ops[j]?).bind (·.dst) with
    | none => none
    | some dj => match look ρ dj with
      | some (.bool c) => some (c == b)
      | some _ => some false
      | none => none
theorem guardIs_wanted {ops : Array Oper} {n : Nat} {ρ : Rho} {a : Act} {o : Oper} {c : Bool} (h : Slots n ρ a) (hg : guardIs ops ρ o.guard = some c) : Region.wanted o (yielded ops a.tmps) = c := by
  unfold guardIs at hg
  unfold Region.wanted
  cases hgd : o.guard with
  | none => simp [hgd] at hg; simp [hg]
  | some jb =>
    obtain ⟨j, b⟩ := jb
    simp only [hgd] at hg
    cases hj : (ops[j]?).bind (·.dst) with
    | none => simp [hj] at hg
    | some dj =>
      simp only [hj] at hg
      cases hl : look ρ dj with
      | none => simp [hl] at hg
      | some v =>
        have ht := h.2.2 _ _ hl
        cases v <;> simp_all [yielded]
section
variable {P : Program} {W0 : World} {n : Nat} {Q : Po} {ρ : Rho} {L : List Res} {F : List Fact} {l : List Oper} {hx : H} {bx : Bx} {sp : Nat → Bool} {sd : Bool} {fuel : Nat} {listed : Array Bool} {ops : Array Oper} {ro : Option Nat} {ds : List Deferred}
theorem Sat.drew {w : World} (s : Sat W0 L F w) : Sat W0 L F { w with drawn := w.drawn + 1 } := by
  obtain ⟨hb, h, m, sx⟩ := s
  exact ⟨⟨hb.os, hb.tape, hb.output, hb.size, hb.block⟩, h, m, sx.cell, sx.fact, sx.res, sx.own, sx.apart⟩
theorem AC.draw {id m : Nat} [hm : MxT P] (sp : Nat → Bool) (bx : Bx) (hbx : BxIn L bx) (hl : l.length = m)
    (h : ∀ hx : H, (∀ f ∈ F, f.holds hx) → AH P W0 n l.toArray (Nq ds Q) hx bx sp true m (Array.replicate m false) ρ L (.held hx :: F)) : AC ro ds P W0 n (.region id l.toArray true) Q ρ L F := by
  intro a w s
  subst hl
  have s1 := s.sat.drew
  obtain ⟨hb, h0, m, sx⟩ := s1
  have sx' := sx.facts (F' := .held h0 :: F) (fun f hf => by
    rcases List.mem_cons.1 hf with rfl | k
    · exact H.le.refl h0
    · exact sx.fact f k)
  have s2 : Sat W0 L (.held h0 :: F) { w with drawn := w.drawn + 1 } := ⟨hb, h0, m, sx'⟩
  refine wpIn_region_any hm.mixed (wpAny_of_wpS (S := HX h0 bx) (sp := sp) _ _ _ _ ?_)
  have := h h0 sx.fact a { w with drawn := w.drawn + 1 } ⟨s.slots, s2⟩ (fun _ => HX.of s2 hbx (List.Mem.head _))
  simpa using this
theorem AH.done (hr : Region.ready .any ops listed = []) (h : AK ds W0 n Q .normal ρ L F) : AH P W0 n ops (Nq ds Q) hx bx sp sd 0 listed ρ L F :=
  fun a w s _ => ⟨hr, h a w s⟩
def takeOk (ops : Array Oper) (listed : Array Bool) (i : Nat) : Bool := Region.noSelect ops && Region.free .any ops listed i && (Region.ready .any ops listed).contains i
theorem takeOk_spec {i : Nat} (h : takeOk ops listed i = true) : Region.noSelect ops = true ∧ Region.free .any ops listed i = true ∧ i ∈ Region.ready .any ops listed := by
  simp only [takeOk, Bool.and_eq_true] at h
  exact ⟨h.1.1, h.1.2, by simpa using h.2⟩
theorem AH.take {i : Nat} {d : Tmp} {op : Op} {ty : TypeId} {pos : String} {af : Array Edge} {g : Option (Nat × Bool)} {v : Value} {T : World → Prop} (hi : ops[i]? = some ⟨some d, op, ty, pos, af, g⟩) (ht : takeOk ops listed i = true)
    (hT : ∀ (j : Nat) (oj : Oper) (w w' : World), ops[j]? = some oj → j ≠ i → (∀ e ∈ oj.after, Region.binds .any e = true → e.on ≠ i) → (sp j = false → HX hx bx w → HX hx bx w') → T w → T w') (hT0 : ∀ w, (sd = true → HX hx bx w) → T w)
    (hd : Nat.blt d n = true) (hy : ∀ a, Slots n ρ a → YieldsIf P ops T ⟨some d, op, ty, pos, af, g⟩ v a)
    (h : AH P W0 n ops Q hx bx sp sd fuel (listed.setIfInBounds i true) ((d, v) :: ρ) L F) : AH P W0 n ops Q hx bx sp sd (fuel + 1) listed ρ L F := by
  intro a w s hs
  obtain ⟨h1, h2, h3⟩ := takeOk_spec ht
  exact wpS_first hi (Region.noSelect_spec h1) hT fuel listed a w (Region.free_spec hi h2) h3 (hy a s.slots) (hT0 w hs)
    (h _ w ⟨s.slots.put (Nat.le_of_ble_eq_true hd) _, s.sat⟩ hs)
section
variable {i : Nat} {d : Tmp} {op : Op} {ty : TypeId} {pos : String} {af : Array Edge} {g : Option (Nat × Bool)} {v : Value}
theorem AH.takeW (hi : ops[i]? = some ⟨some d, op, ty, pos, af, g⟩) (hy : Yd P n ρ (fun _ => True) ⟨some d, op, ty, pos, af, g⟩ v) (ht : takeOk ops listed i = true) (hg : guardIs ops ρ g = some true) (hd : Nat.blt d n = true)
    (h : AH P W0 n ops Q hx bx sp sd fuel (listed.setIfInBounds i true) ((d, v) :: ρ) L F) : AH P W0 n ops Q hx bx sp sd (fuel + 1) listed ρ L F :=
  AH.take (T := fun _ => True) hi ht (fun _ _ _ _ _ _ _ _ _ => trivial) (fun _ _ => trivial) hd (fun a hs => .inl ⟨guardIs_wanted hs hg, fun w _ => hy.run a w hs trivial⟩) h
theorem AH.takeS (hi : ops[i]? = some ⟨some d, op, ty, pos, af, g⟩) (hy : Yd P n ρ (HX hx bx) ⟨some d, op, ty, pos, af, g⟩ v) (ht : takeOk ops listed i = true) (hw : spWait ops sp i = true) (hsd : sd = true) (hg : guardIs ops ρ g = some true) (hd : Nat.blt d n = true)
    (h : AH P W0 n ops Q hx bx sp sd fuel (listed.setIfInBounds i true) ((d, v) :: ρ) L F) : AH P W0 n ops Q hx bx sp sd (fuel + 1) listed ρ L F :=
  AH.take (T := HX hx bx) hi ht (fun _ _ _ _ hj hji hno hp hT => hp (spWait_spec hw hj hji hno) hT) (fun _ hs => hs hsd) hd (fun a hs => .inl ⟨guardIs_wanted hs hg, fun w hT => hy.run a w hs hT⟩) h
theorem AH.skip (hi : ops[i]? = some ⟨some d, op, ty, pos, af, g⟩) (ht : takeOk ops listed i = true) (hg : guardIs ops ρ g = some false) (hd : Nat.blt d n = true)
    (h : AH P W0 n ops Q hx bx sp sd fuel (listed.setIfInBounds i true) ((d, undef) :: ρ) L F) : AH P W0 n ops Q hx bx sp sd (fuel + 1) listed ρ L F :=
  AH.take (T := fun _ => True) hi ht (fun _ _ _ _ _ _ _ _ _ => trivial) (fun _ _ => trivial) hd (fun _ hs => .inr ⟨guardIs_wanted hs hg, rfl⟩) h
theorem AH.takeB {c : Bool} (hi : ops[i]? = some ⟨some d, op, ty, pos, af, g⟩) (hy : Yd P n ρ (fun _ => True) ⟨some d, op, ty, pos, af, g⟩ (.bool c)) (ht : takeOk ops listed i = true) (hg : guardIs ops ρ g = some true) (hd : Nat.blt d n = true)
    (h1 : c = true → AH P W0 n ops Q hx bx sp sd fuel (listed.setIfInBounds i true) ((d, .bool true) :: ρ) L F) (h2 : c = false → AH P W0 n ops Q hx bx sp sd fuel (listed.setIfInBounds i true) ((d, .bool false) :: ρ) L F) : AH P W0 n ops Q hx bx sp sd (fuel + 1) listed ρ L F := by
  cases c
  · exact AH.takeW hi hy ht hg hd (h2 rfl)
  · exact AH.takeW hi hy ht hg hd (h1 rfl)
end
def Kont (P : Program) (ops : Array Oper) (Q : Po) (hx : H) (bx : Bx) (sp : Nat → Bool) (fuel : Nat) (listed : Array Bool) (i : Nat) (w : World) : Act → World → Prop :=
  fun a' w' => (sp i = false → HX hx bx w → HX hx bx w') ∧ wpS P ops Q (HX hx bx) sp fuel (listed.setIfInBounds i true) a' w'
theorem AH.one {i : Nat} {o : Oper} (hr : Region.ready .any ops listed = [i]) (hi : ops[i]? = some o) (hg : guardIs ops ρ o.guard = some true)
    (h : ∀ w0, AO P W0 n (Kont P ops Q hx bx sp fuel listed i w0) o (Pz Q) ρ L F) : AH P W0 n ops Q hx bx sp sd (fuel + 1) listed ρ L F := by
  intro a w s hs
  refine ⟨fun h0 => by rw [hr] at h0; simp at h0, fun j hj => ?_⟩
  rw [hr] at hj
  simp at hj
  subst hj
  unfold opS
  simp only [hi]
  rw [if_pos (guardIs_wanted s.slots hg)]
  exact h w a w s
theorem AT.held {i : Nat} {w0 : World} (hb : BxIn L bx) (hf : Fact.held hx ∈ F) (h : AH P W0 n ops Q hx bx sp true fuel (listed.setIfInBounds i true) ρ L F) : AT W0 n (Kont P ops Q hx bx sp fuel listed i w0) ρ L F :=
  fun a w s => have hh := HX.of s.sat hb hf; ⟨fun _ _ => hh, h a w s (fun _ => hh)⟩
theorem AT.spoilt {i : Nat} {w0 : World} (hs : sp i = true) (h : AH P W0 n ops Q hx bx sp false fuel (listed.setIfInBounds i true) ρ L F) : AT W0 n (Kont P ops Q hx bx sp fuel listed i w0) ρ L F :=
  fun a w s => ⟨fun h0 => (by rw [hs] at h0; cases h0), h a w s (fun h0 => (by cases h0))⟩
end
theorem Sub.ofHeld {L : List Res} {F : List Fact} {hx : H} {f : Fact} (hf : f.holds hx) (hm : Fact.held hx ∈ F) : Sub L F L (f :: F) := by
  intro W0 w ⟨hb, h, m, s⟩
  refine ⟨hb, h, m, s.facts fun g hg => ?_⟩
  rcases List.mem_cons.1 hg with rfl | hg
  · exact Fact.mono (s.fact _ hm) hf
  · exact s.fact g hg
theorem AH.fact {P : Program} {W0 : World} {n : Nat} {Q : Po} {ρ : Rho} {L : List Res} {F : List Fact} {hx : H} {bx : Bx} {sp : Nat → Bool} {sd : Bool} {fuel : Nat} {listed : Array Bool} {ops : Array Oper} {f : Fact} (hf : f.holds hx) (hm : Fact.held hx ∈ F)
    (h : AH P W0 n ops Q hx bx sp sd fuel listed ρ L (f :: F)) : AH P W0 n ops Q hx bx sp sd fuel listed ρ L F := fun a w s hs => h a w (s.weak (SubR.refl _) (Sub.ofHeld hf hm)) hs
theorem AH.weak {P : Program} {W0 : World} {n : Nat} {Q : Po} {ρ : Rho} {L : List Res} {F F' : List Fact} {hx : H} {bx : Bx} {sp : Nat → Bool} {sd : Bool} {fuel : Nat} {listed : Array Bool} {ops : Array Oper} (hs : Sub L F L F')
    (h : AH P W0 n ops Q hx bx sp sd fuel listed ρ L F') : AH P W0 n ops Q hx bx sp sd fuel listed ρ L F := fun a w s hh => h a w (s.weak (SubR.refl _) hs) hh
section
variable {P : Program} {n : Nat} {ρ : Rho} {T : World → Prop} {d : Option Tmp} {ty t : TypeId} {pos : String} {af : Array Edge} {g : Option (Nat × Bool)} {x y z : Operand} {v : Value}
theorem Y.move (hx : ev ρ x = some v) : Yd P n ρ T ⟨d, .move x, ty, pos, af, g⟩ v := ⟨fun a w s _ => by simp [execOp, ev_eval s hx]⟩
theorem Y.assign (hx : ev ρ x = some v) : Yd P n ρ T ⟨d, .assign x, ty, pos, af, g⟩ v := ⟨fun a w s _ => by simp [execOp, ev_eval s hx]⟩
theorem Y.pickT {c : Operand} (hc : ev ρ c = some (.bool true)) (hx : ev ρ x = some v) : Yd P n ρ T ⟨d, .pick c x y, ty, pos, af, g⟩ v := ⟨fun a w s _ => by simp [execOp, ev_eval s hc, ev_eval s hx, asBool]⟩
theorem Y.pickF {c : Operand} (hc : ev ρ c = some (.bool false)) (hy : ev ρ y = some v) : Yd P n ρ T ⟨d, .pick c x y, ty, pos, af, g⟩ v := ⟨fun a w s _ => by simp [execOp, ev_eval s hc, ev_eval s hy, asBool]⟩
theorem Y.not {b : Bool} (hx : ev ρ x = some (.bool b)) : Yd P n ρ T ⟨d, .unOp .not t x, ty, pos, af, g⟩ (.bool (!b)) := ⟨fun a w s _ => by simp [execOp, ev_eval s hx, Op.unary]⟩
theorem Y.extract {i : Nat} {vs : Array Value} (hx : ev ρ x = some (.tuple vs)) (hv : vs[i]? = some v) : Yd P n ρ T ⟨d, .extract x i, ty, pos, af, g⟩ v := ⟨fun a w s _ => by simp [execOp, ev_eval s hx, Instr.extract, hv]⟩
theorem Y.nilCheckP {p : Addr} (hx : ev ρ x = some (.pointer (some p))) : Yd P n ρ T ⟨d, .nilCheck x, ty, pos, af, g⟩ (.pointer (some p)) := ⟨fun a w s _ => by simp [execOp, ev_eval s hx]⟩
theorem Y.field {i off b o : Nat} [hf : FdT P t i off] (hx : ev ρ x = some (.pointer (some ⟨b, o, none⟩))) : Yd P n ρ T ⟨d, .fieldAddr t x i, ty, pos, af, g⟩ (.pointer (some ⟨b, o + off, none⟩)) := ⟨fun a w s _ => by simp [execOp, ev_eval s hx, hf.run, Addr.add_lit]⟩
theorem Y.lenV {a : Option Addr} {k c e sz bytes : Nat} [ht : SlT P t e sz bytes] (hx : ev ρ x = some (.slice a k c)) : Yd P n ρ T ⟨d, .call ⟨.builtin .len, #[x], #[t]⟩, ty, pos, af, g⟩ (.int .i64 k) := ⟨fun a w s _ => by
  simp [execOp, resolve, invoke, builtin, ev_eval s hx, Builtin.len_, run_underlying ht.und, goInt]⟩
theorem Y.lenS {a : List UInt8} [ht : StT P t] (hx : ev ρ x = some (S a)) : Yd P n ρ T ⟨d, .call ⟨.builtin .len, #[x], #[t]⟩, ty, pos, af, g⟩ (.int .i64 a.length) := ⟨fun s w st _ => by
  simp [execOp, resolve, invoke, builtin, ev_eval st hx, Builtin.len_, run_underlying ht.und, S_size, goInt]⟩
theorem Y.min {a b : Int} {ts : Array TypeId} {k : IntKind} (hx : ev ρ x = some (.int k a)) (hy : ev ρ y = some (.int k b)) : Yd P n ρ T ⟨d, .call ⟨.builtin .min, #[x, y], ts⟩, ty, pos, af, g⟩ (.int k (Min.min a b)) := ⟨fun s w st _ => by
  have : (if b < a then b else a) = Min.min a b := by omega
  simp [execOp, resolve, invoke, builtin, ev_eval st hx, ev_eval st hy, Builtin.min_, Builtin.min2, this]⟩
theorem Y.sliceH {a : Option Addr} {len cap e sz bytes j' : Nat} {j : Int} {k' : IntKind} [ht : SlT P t e sz bytes] (hx : ev ρ x = some (.slice a len cap)) (hz : ev ρ z = some (.int k' j)) (hj : j = (j' : Int)) (h2 : j' ≤ cap) : Yd P n ρ T ⟨d, .slice t x none (some z) none, ty, pos, af, g⟩ (sliced a 0 j' cap sz) := ⟨fun s w st _ => by
  subst hj
  have := run_slice_h (P := P) w t a len cap (SlT.elem (t := t) (e := e) (bytes := bytes) (sz := sz)) k' j' (by omega) (by omega)
  simp only [execOp, ev_eval st hx, Option.map_none, Option.map_some, ev_eval st hz, Sem.run_bind, run_sliceAt_slice (P := P) w t _ _ _ _ (SlT.elem (t := t) (e := e) (bytes := bytes) (sz := sz)), this, SlT.size (t := t) (e := e) (bytes := bytes) (sz := sz)]
  simp [Result.andThen]⟩
theorem Y.indexAddr {b o len cap e sz bytes k : Nat} {i : Int} {kd : IntKind} [ht : SlT P t e sz bytes] (hx : ev ρ x = some (.slice (some ⟨b, o, none⟩) len cap)) (hy : ev ρ y = some (.int kd i)) (hi : i = (k : Int)) (hk : k < len) : Yd P n ρ T ⟨d, .indexAddr t x y, ty, pos, af, g⟩ (.pointer (some ⟨b, o + k * sz, none⟩)) := ⟨fun s w st _ => by
  subst hi
  have hlt : (0 : Int) ≤ (k : Int) ∧ (k : Int) < (len : Int) := by omega
  have := run_indexAt_slice (P := P) w t ⟨b, o, none⟩ len cap kd k (SlT.elem (t := t) (e := e) (bytes := bytes) (sz := sz))
  rw [if_pos hlt, SlT.size (t := t) (e := e) (bytes := bytes) (sz := sz)] at this
  simp only [execOp, ev_eval st hx, ev_eval st hy, Sem.run_bind, this]
  simp [Result.andThen, Addr.add_lit]⟩
theorem Y.loadF {hh : H} {bx : Bx} {b o : Nat} [ht : ScT P t] (hx : ev ρ x = some (.pointer (some ⟨b, o, none⟩))) (hc : hh b o = some v) : Yd P n ρ (HX hh bx) ⟨d, .load t x, ty, pos, af, g⟩ v := ⟨fun s w st hT => by
  have h := hT.1 _ _ _ hc
  simp [execOp, ev_eval st hx, Instr.loadAt, Instr.sureAddr, loadVar, ht.agg, h]⟩
theorem Y.loadB {hh : H} {bx : Bx} {b o : Nat} {cs : List Value} {e : TypeId} [ht : ScT P t] (hx : ev ρ x = some (.pointer (some ⟨b, o, none⟩))) (hb : (b, cs, e) ∈ bx) (hc : cs[o]? = some v) : Yd P n ρ (HX hh bx) ⟨d, .load t x, ty, pos, af, g⟩ v := ⟨fun s w st hT => by
  have h : w.cell? ⟨b, o, none⟩ = some v := by rw [block_cell (hT.2 _ hb), hc]
  simp [execOp, ev_eval st hx, Instr.loadAt, Instr.sureAddr, loadVar, ht.agg, h]⟩
theorem Y.loadBA {hh : H} {bx : Bx} {b o k : Nat} {cs : List Value} {e : TypeId} [ht : AgT P t k] (hx : ev ρ x = some (.pointer (some ⟨b, o, none⟩))) (hb : (b, cs, e) ∈ bx) (hk : Nat.ble (o + k) cs.length = true) : Yd P n ρ (HX hh bx) ⟨d, .load t x, ty, pos, af, g⟩ (.agg ((cs.drop o).take k).toArray) := ⟨fun s w st hT => by
  have hk' := Nat.le_of_ble_eq_true hk
  have hb' := hT.2 _ hb
  have hlen : ((cs.drop o).take k).length = k := by simp; omega
  have hl : (loadCells ⟨b, o, none⟩ k).run P w = .ok ((cs.drop o).take k).toArray w := by
    have := run_loadCells_list (P := P) w ⟨b, o, none⟩ ((cs.drop o).take k) (fun j v hj => by
      rw [Addr.add_lit, block_cell hb']
      have hjk : j < k := by
        rcases Nat.lt_or_ge j k with q | q
        · exact q
        · rw [List.getElem?_eq_none (by omega)] at hj; simp at hj
      rw [List.getElem?_take_of_lt hjk, List.getElem?_drop] at hj
      exact hj)
    rwa [hlen] at this
  simp [execOp, ev_eval st hx, Instr.loadAt, Instr.sureAddr, loadVar, ht.agg, ht.size, hl]⟩
theorem Y.loadFA {hh : H} {bx : Bx} {b o k : Nat} {vs : List Value} [ht : AgT P t k] (hx : ev ρ x = some (.pointer (some ⟨b, o, none⟩))) (hk : vs.length = k) (hc : ∀ j v, vs[j]? = some v → hh b (o + j) = some v) : Yd P n ρ (HX hh bx) ⟨d, .load t x, ty, pos, af, g⟩ (.agg vs.toArray) := ⟨fun s w st hT => by
  have hl : (loadCells ⟨b, o, none⟩ k).run P w = .ok vs.toArray w := by
    have := run_loadCells_list (P := P) w ⟨b, o, none⟩ vs (fun j v hj => by rw [Addr.add_lit]; exact hT.1 _ _ _ (hc j v hj))
    rwa [hk] at this
  simp [execOp, ev_eval st hx, Instr.loadAt, Instr.sureAddr, loadVar, ht.agg, ht.size, hl]⟩
section
variable {yt : TypeId} {a b : Int} {k : IntKind}
theorem Y.eql (hx : ev ρ x = some (.int k a)) (hy : ev ρ y = some (.int k b)) : Yd P n ρ T ⟨d, .binOp .eql t x y yt, ty, pos, af, g⟩ (.bool (a == b)) := ⟨fun s w st _ => by simp [execOp, ev_eval st hx, ev_eval st hy, eqGuard_at_int, binOp_eql]⟩
theorem Y.neq (hx : ev ρ x = some (.int k a)) (hy : ev ρ y = some (.int k b)) : Yd P n ρ T ⟨d, .binOp .neq t x y yt, ty, pos, af, g⟩ (.bool (a != b)) := ⟨fun s w st _ => by simp [execOp, ev_eval st hx, ev_eval st hy, eqGuard_at_int, binOp_neq]⟩
theorem Y.lss (hx : ev ρ x = some (.int k a)) (hy : ev ρ y = some (.int k b)) : Yd P n ρ T ⟨d, .binOp .lss t x y yt, ty, pos, af, g⟩ (.bool (decide (a < b))) := ⟨fun s w st _ => by simp [execOp, ev_eval st hx, ev_eval st hy, eqGuard_at_int, binOp_lss]⟩
theorem Y.leq (hx : ev ρ x = some (.int k a)) (hy : ev ρ y = some (.int k b)) : Yd P n ρ T ⟨d, .binOp .leq t x y yt, ty, pos, af, g⟩ (.bool (decide (a ≤ b))) := ⟨fun s w st _ => by simp [execOp, ev_eval st hx, ev_eval st hy, eqGuard_at_int, binOp_leq]⟩
theorem Y.gtr (hx : ev ρ x = some (.int k a)) (hy : ev ρ y = some (.int k b)) : Yd P n ρ T ⟨d, .binOp .gtr t x y yt, ty, pos, af, g⟩ (.bool (decide (b < a))) := ⟨fun s w st _ => by simp [execOp, ev_eval st hx, ev_eval st hy, eqGuard_at_int, binOp_gtr]⟩
theorem Y.geq (hx : ev ρ x = some (.int k a)) (hy : ev ρ y = some (.int k b)) : Yd P n ρ T ⟨d, .binOp .geq t x y yt, ty, pos, af, g⟩ (.bool (decide (b ≤ a))) := ⟨fun s w st _ => by simp [execOp, ev_eval st hx, ev_eval st hy, eqGuard_at_int, binOp_geq]⟩
theorem Y.add (hx : ev ρ x = some (.int .i64 a)) (hy : ev ρ y = some (.int .i64 b)) (h1 : -9223372036854775808 ≤ a + b) (h2 : a + b ≤ 9223372036854775807) : Yd P n ρ T ⟨d, .binOp .add t x y yt, ty, pos, af, g⟩ (.int .i64 (a + b)) := ⟨fun s w st _ => by simp [execOp, ev_eval st hx, ev_eval st hy, eqGuard_add, binOp_add, Op.intArith, wrap_i64 h1 h2]⟩
theorem Y.sub (hx : ev ρ x = some (.int .i64 a)) (hy : ev ρ y = some (.int .i64 b)) (h1 : -9223372036854775808 ≤ a - b) (h2 : a - b ≤ 9223372036854775807) : Yd P n ρ T ⟨d, .binOp .sub t x y yt, ty, pos, af, g⟩ (.int .i64 (a - b)) := ⟨fun s w st _ => by simp [execOp, ev_eval st hx, ev_eval st hy, eqGuard_sub, binOp_sub, Op.intArith, wrap_i64 h1 h2]⟩
end
section
variable {yt : TypeId} {a b : List UInt8}
theorem Y.neqS (hx : ev ρ x = some (S a)) (hy : ev ρ y = some (S b)) : Yd P n ρ T ⟨d, .binOp .neq t x y yt, ty, pos, af, g⟩ (.bool (!(a == b))) := ⟨fun s w st _ => by simp only [execOp, ev_eval st hx, ev_eval st hy, eqGuard_at_string, binOp_string_neq, S_toList]; simp⟩
theorem Y.addS (hx : ev ρ x = some (S a)) (hy : ev ρ y = some (S b)) (hm : a.length + b.length ≤ maxLen) : Yd P n ρ T ⟨d, .binOp .add t x y yt, ty, pos, af, g⟩ (S (a ++ b)) := ⟨fun s w st _ => by
  have h1 : ¬ (((⟨a.toArray⟩ : ByteArray).size + (⟨b.toArray⟩ : ByteArray).size : Nat) : Int) > IntKind.i64.max := by
    rw [S_size, S_size, IntKind.max_i64]; unfold maxLen at hm; omega
  simp only [execOp, ev_eval st hx, ev_eval st hy, eqGuard_at_string, binOp_string_add, Op.stringOp, if_neg h1, S_append]; simp⟩
end
end
theorem ne_of_beqF {α : Type} [BEq α] [LawfulBEq α] {a b : α} (h : (a == b) = false) : a ≠ b := by simpa using h
theorem ne_of_bne {α : Type} [BEq α] [LawfulBEq α] {a b : α} (h : (a != b) = true) : a ≠ b := by simpa using h
theorem eq_of_bneF {α : Type} [BEq α] [LawfulBEq α] {a b : α} (h : (a != b) = false) : a = b := by simpa using h
theorem ne_of_nbeq {α : Type} [BEq α] [LawfulBEq α] {a b : α} (h : (!(a == b)) = true) : a ≠ b := by simpa using h
theorem eq_of_nbeqF {α : Type} [BEq α] [LawfulBEq α] {a b : α} (h : (!(a == b)) = false) : a = b := by simpa using h
theorem len_of_fact {hx : H} {a : Option Addr} {k c sz : Nat} {α : Type} {enc : α → List D} {lst : List α} (h : Fact.holds hx (.slc (.slice a k c) sz (lst.map enc))) : k = lst.length ∧ k ≤ c := by
  have h' : CR hx (.slice a k c) (.slc sz (lst.map enc)) := h
  obtain ⟨a', c', he, hc⟩ := h'.sv
  injection he with _ h2 h3
  have : (lst.map enc).length = lst.length := by simp
  omega
theorem row_of_fact {hx : H} {a : Option Addr} {k c sz : Nat} {α : Type} {enc : α → List D} {lst : List α} (h : Fact.holds hx (.slc (.slice a k c) sz (lst.map enc))) {i : Nat} (hi : i < lst.length) : ∃ b o, a = some ⟨b, o, none⟩ ∧ AtR hx b (o + i * sz) (enc lst[i]) := by
  have h' : CR hx (.slice a k c) (.slc sz (lst.map enc)) := h
  obtain ⟨b, o, cap, he, hat⟩ := CR.at h' i (enc lst[i]) (by simp [hi])
  injection he with h1 _ _
  exact ⟨b, o, h1, hat⟩
theorem Sub.dropF {L : List Res} {F : List Fact} {f : Fact} : Sub L (f :: F) L F := Sub.facts fun _ h => List.Mem.tail _ h
theorem Sub.part {L : List Res} {F : List Fact} {a : Option Addr} {k c sz : Nat} {α : Type} {enc : α → List D} {lst : List α} (i j m : Nat) (hm : Fact.slc (.slice a k c) sz (lst.map enc) ∈ F) (h1 : i ≤ j) (h2 : j ≤ lst.length) (h3 : j ≤ m) (h4 : m ≤ c) :
    Sub L F L (.slc (sliced a i j m sz) sz (((lst.drop i).take (j - i)).map enc) :: F) := by
  intro W0 w ⟨hb, h, mm, s⟩
  refine ⟨hb, h, mm, s.facts fun f hf => ?_⟩
  rcases List.mem_cons.1 hf with rfl | hf
  · have cc : CR h (.slice a k c) (.slc sz (lst.map enc)) := s.fact _ hm
    have := CR.part (b := 0) (o := 0) cc i j m h1 (by simpa using h2) h3 h4 rfl rfl
    rw [← map_part] at this
    exact this
  · exact s.fact f hf
end Go.Sy
namespace Go.Sy
open Go Go.RowKit
theorem memA {f : Fact} {F : List Fact} (h : f ∈ F := by repeat (first | exact mem0 | assumption | refine memS ?_)) : f ∈ F := h
theorem memB {f : Fact} {F : List Fact} (h : f ∈ F := by repeat (first | exact mem0 | refine memS ?_)) : f ∈ F := h
theorem subA {L L' : List Res} {F F' : List Fact} (h : Sub L F L' F' := by repeat (first | exact Sub.refl _ _ | refine Sub.trans Sub.drop ?_ | refine Sub.trans Sub.dropF ?_)) : Sub L F L' F' := h
theorem subF {L L' : List Res} {F F' : List Fact} (h : Sub L F L' F' := by repeat (first | exact Sub.refl _ _ | refine Sub.trans Sub.dropF ?_)) : Sub L F L' F' := h
theorem srA {ρ σ : Rho} (h : SubR ρ σ := by repeat (first | exact SubR.nil | refine SubR.cons rfl ?_)) : SubR ρ σ := h
theorem bxA {L : List Res} {b : Bx} (h : BxIn L b := by repeat (first | exact BxIn.nil | refine BxIn.cons (by repeat (first | exact has0 | assumption | apply hasS)) ?_)) : BxIn L b := h
theorem lmA {α : Type} {x : α} {l : List α} (h : x ∈ l := by repeat (first | exact List.Mem.head _ | refine List.Mem.tail _ ?_)) : x ∈ l := h
end Go.Sy
namespace Go.Sy
abbrev Gq := @AH.takeW
abbrev Gy := @AT.held
abbrev GD := @AH.one
abbrev GE := @Y.indexAddr
abbrev GF := @AH.done
abbrev GO := @AC.draw
abbrev GP := @AH.takeS
abbrev Hb := @Y.addS
abbrev Hf := @Y.loadF
abbrev Hk := @len_of_fact
abbrev Hs := @row_of_fact
end Go.Sy
namespace Go.Sy
theorem HQ.{u} {α : Sort u} {a : α} : a = a := rfl
theorem HR.{u} {α : Sort u} {a b : α} (h : a = b := by kernel_rfl) : a = b := h
theorem HS {p : Prop} (h : p := by omega) : p := h
end Go.Sy
