/- Regions that draw their order, with several things held, each until its own spoilers come; several operations may come up at once. No program in sight. -/
import Derived.Test.YthbngbiodamndaaDoorFwL
import Derived.Test.YthbngbiodamndaaDoorFwH
namespace Go.Sy
open Go Go.RowKit

abbrev Gp := List ((World → Prop) × (Nat → Bool))
/-- Whatever order is picked; each thing that is held is shown anew behind each operation that is no spoiler of it. -/
def wpM (P : Program) (ops : Array Oper) (Q : Po) (S : Gp) : Nat → Array Bool → Act → World → Prop
  | 0, listed, a, w => Region.ready .any ops listed = [] ∧ Q .normal a w
  | fuel + 1, listed, a, w => (Region.ready .any ops listed = [] → Q .normal a w) ∧
    ∀ i ∈ Region.ready .any ops listed, wpOp P ops Q i (fun a' w' => (∀ p ∈ S, p.2 i = false → p.1 w → p.1 w') ∧ wpM P ops Q S fuel (listed.setIfInBounds i true) a' w') a w

theorem wpAny_of_wpM {P : Program} {ops : Array Oper} {Q : Po} {S : Gp} : ∀ (fuel : Nat) (listed : Array Bool) (a : Act) (w : World), wpM P ops Q S fuel listed a w → wpAny P .any ops Q fuel listed a w
  | 0, _, _, _, h => h
  | fuel + 1, _, _, _, h => ⟨h.1, fun i hi => wpOp_mono (fun a' w' h' => wpAny_of_wpM fuel _ a' w' h'.2) (h.2 i hi)⟩

theorem wpM_first {P : Program} {ops : Array Oper} {Q : Po} {S : Gp} {T : World → Prop} {i : Nat} {oi : Oper} {v : Value} (hi : ops[i]? = some oi) (hsel : ∀ (j : Nat) (o : Oper) cs b, ops[j]? = some o → o.op ≠ .select cs b)
    (hQ : ∀ c a w, ¬ Q (.panic c) a w)
    (hT : ∀ (j : Nat) (oj : Oper) (w w' : World), ops[j]? = some oj → j ≠ i → (∀ e ∈ oj.after, Region.binds .any e = true → e.on ≠ i) → (∀ p ∈ S, p.2 j = false → p.1 w → p.1 w') → T w → T w') :
    ∀ (fuel : Nat) (listed : Array Bool) (a : Act) (w : World),
      (∀ j oj, ops[j]? = some oj → j ≠ i → listed.getD j true = false → (∀ e ∈ oj.after, Region.binds .any e = true → e.on ≠ i) → oi.apart ops oj = true) →
      i ∈ Region.ready .any ops listed → YieldsIf P ops T oi v a → T w →
      wpM P ops Q S fuel (listed.setIfInBounds i true) (a.put oi.dst v) w → wpM P ops Q S (fuel + 1) listed a w := by
  intro fuel
  induction fuel with
  | zero =>
    intro listed a w _ hr hy hTw H
    refine ⟨fun h => (by rw [h] at hr; cases hr), fun j hj => ?_⟩
    by_cases hji : j = i
    · subst hji
      exact hy.wpOp hi hTw ⟨fun _ _ _ hs => hs, H⟩
    · have := ready_mono hj hji
      rw [H.1] at this
      cases this
  | succ fuel ih =>
    intro listed a w hfree hr hy hTw H
    refine ⟨fun h => (by rw [h] at hr; cases hr), fun j hj => ?_⟩
    by_cases hji : j = i
    · subst hji
      exact hy.wpOp hi hTw ⟨fun _ _ _ hs => hs, H⟩
    · have hstep := H.2 j (ready_mono hj hji)
      obtain ⟨hjun, oj, hoj, hall⟩ := mem_ready.1 hj
      have hnot : ∀ e ∈ oj.after, Region.binds .any e = true → e.on ≠ i := by
        intro e he hb heq
        have hl := hall e he hb
        have h0 := (mem_ready.1 hr).1
        rw [heq] at hl
        rcases Nat.lt_or_ge i listed.size with h' | h'
        · simp [h'] at h0 hl; rw [h0] at hl; cases hl
        · simp [Array.getElem?_eq_none h'] at hl
      have hput := wpOp_putIf hoj (hfree j oj hoj hji hjun hnot) (fun cs b => hsel i oi cs b hi) (fun cs b => hsel j oj cs b hoj) (fun c a w q => absurd q (hQ c _ w)) hy hstep
      refine wpOp_mono (fun a' w' h3 => ⟨h3.2.1, ih (listed.setIfInBounds j true) a' w' ?_ (ready_mono hr (Ne.symm hji)) h3.1 (hT j oj w w' hoj hji hnot h3.2.1 hTw) ?_⟩) hput
      · intro k ok hk hki hun hno
        refine hfree k ok hk hki ?_ hno
        by_cases hjk : j = k
        · subst hjk; exact hjun
        · rw [getD_set_ne true hjk] at hun; exact hun
      · rw [Array.setIfInBounds_comm _ _ hji]
        exact h3.2.2

/-- What is held: boxes, and who spoils them. -/
abbrev Hd := List (Bx × (Nat → Bool))
def Hd.gp (hx : H) (G : Hd) : Gp := G.map fun g => (HX hx g.1, g.2)
def AJ (P : Program) (W0 : World) (n : Nat) (ops : Array Oper) (Q : Po) (hx : H) (G : Hd) (sd : Bool) (fuel : Nat) (listed : Array Bool) (ρ : Rho) (L : List Res) (F : List Fact) : Prop :=
  ∀ a w, St W0 n ρ L F a w → (sd = true → ∀ g ∈ G, HX hx g.1 w) → wpM P ops Q (G.gp hx) fuel listed a w

inductive HdIn (L : List Res) : Hd → Prop where
  | nil : HdIn L []
  | cons {g : Bx × (Nat → Bool)} {G : Hd} (hb : BxIn L g.1) (h : HdIn L G) : HdIn L (g :: G)
theorem HdIn.get {L : List Res} {G : Hd} (h : HdIn L G) : ∀ g ∈ G, BxIn L g.1 := by
  induction h with
  | nil => intro g hg; cases hg
  | cons hb _ ih =>
    intro g hg
    rcases List.mem_cons.1 hg with rfl | hg
    · exact hb
    · exact ih g hg
/-- Behind operation 'i': each thing is held still, or 'i' spoils it. -/
inductive Keeps (L : List Res) (i : Nat) : Hd → Prop where
  | nil : Keeps L i []
  | spoil {g : Bx × (Nat → Bool)} {G : Hd} (hs : g.2 i = true) (h : Keeps L i G) : Keeps L i (g :: G)
  | held {g : Bx × (Nat → Bool)} {G : Hd} (hb : BxIn L g.1) (h : Keeps L i G) : Keeps L i (g :: G)
theorem Keeps.get {L : List Res} {i : Nat} {G : Hd} (h : Keeps L i G) : ∀ g ∈ G, g.2 i = true ∨ BxIn L g.1 := by
  induction h with
  | nil => intro g hg; cases hg
  | spoil hs _ ih =>
    intro g hg
    rcases List.mem_cons.1 hg with rfl | hg
    · exact .inl hs
    · exact ih g hg
  | held hb _ ih =>
    intro g hg
    rcases List.mem_cons.1 hg with rfl | hg
    · exact .inr hb
    · exact ih g hg

section
variable {P : Program} {W0 : World} {n : Nat} {Q : Po} {ρ : Rho} {L : List Res} {F : List Fact} {l : List Oper} {hx : H} {G : Hd} {sd : Bool} {fuel : Nat} {listed : Array Bool} {ops : Array Oper}

theorem AC.drawM {id m : Nat} [hm : MxT P] (G : Hd) (hG : HdIn L G) (hl : l.length = m)
    (h : ∀ hx : H, (∀ f ∈ F, f.holds hx) → AJ P W0 n l.toArray Q hx G true m (Array.replicate m false) ρ L (.held hx :: F)) : AC P W0 n (.region id l.toArray true) Q ρ L F := by
  intro a w s
  subst hl
  have s1 := s.sat.drew
  obtain ⟨hb, h0, m, sx⟩ := s1
  have sx' := sx.facts (F' := .held h0 :: F) (fun f hf => by
    rcases List.mem_cons.1 hf with rfl | k
    · exact H.le.refl h0
    · exact sx.fact f k)
  have s2 : Sat W0 L (.held h0 :: F) { w with drawn := w.drawn + 1 } := ⟨hb, h0, m, sx'⟩
  refine wp_region_any hm.mixed (wpAny_of_wpM (S := G.gp h0) _ _ _ _ ?_)
  have := h h0 sx.fact a { w with drawn := w.drawn + 1 } ⟨s.slots, s2⟩ (fun _ g hg => HX.of s2 (hG.get g hg) (List.Mem.head _))
  simpa using this

theorem AJ.done (hr : Region.ready .any ops listed = []) (h : AK P W0 n Q .normal ρ L F) : AJ P W0 n ops Q hx G sd 0 listed ρ L F :=
  fun a w s _ => ⟨hr, h a w s⟩

section
variable {i : Nat} {d : Tmp} {op : Op} {ty : TypeId} {pos : String} {af : Array Edge} {g : Option (Nat × Bool)} {v : Value} [hq : NoP Q]
theorem AJ.take {T : World → Prop} (hi : ops[i]? = some ⟨some d, op, ty, pos, af, g⟩) (ht : takeOk ops listed i = true)
    (hT : ∀ (j : Nat) (oj : Oper) (w w' : World), ops[j]? = some oj → j ≠ i → (∀ e ∈ oj.after, Region.binds .any e = true → e.on ≠ i) → (∀ p ∈ G.gp hx, p.2 j = false → p.1 w → p.1 w') → T w → T w') (hT0 : ∀ w, (sd = true → ∀ g ∈ G, HX hx g.1 w) → T w)
    (hd : Nat.blt d n = true) (hy : ∀ a, Slots n ρ a → YieldsIf P ops T ⟨some d, op, ty, pos, af, g⟩ v a)
    (h : AJ P W0 n ops Q hx G sd fuel (listed.setIfInBounds i true) ((d, v) :: ρ) L F) : AJ P W0 n ops Q hx G sd (fuel + 1) listed ρ L F := by
  intro a w s hs
  obtain ⟨h1, h2, h3⟩ := takeOk_spec ht
  exact wpM_first hi (Region.noSelect_spec h1) hq.out hT fuel listed a w (Region.free_spec hi h2) h3 (hy a s.slots) (hT0 w hs)
    (h _ w ⟨s.slots.put (Nat.le_of_ble_eq_true hd) _, s.sat⟩ hs)
theorem AJ.takeW (hi : ops[i]? = some ⟨some d, op, ty, pos, af, g⟩) (hy : Yd P n ρ (fun _ => True) ⟨some d, op, ty, pos, af, g⟩ v) (ht : takeOk ops listed i = true) (hg : guardIs ops ρ g = some true) (hd : Nat.blt d n = true)
    (h : AJ P W0 n ops Q hx G sd fuel (listed.setIfInBounds i true) ((d, v) :: ρ) L F) : AJ P W0 n ops Q hx G sd (fuel + 1) listed ρ L F :=
  AJ.take (T := fun _ => True) hi ht (fun _ _ _ _ _ _ _ _ _ => trivial) (fun _ _ => trivial) hd (fun a hs => .inl ⟨guardIs_wanted hs hg, fun w _ => hy.run a w hs trivial⟩) h
theorem AJ.takeS {bx : Bx} {sp : Nat → Bool} (hm : (bx, sp) ∈ G) (hi : ops[i]? = some ⟨some d, op, ty, pos, af, g⟩) (hy : Yd P n ρ (HX hx bx) ⟨some d, op, ty, pos, af, g⟩ v) (ht : takeOk ops listed i = true) (hw : spWait ops sp i = true) (hsd : sd = true) (hg : guardIs ops ρ g = some true) (hd : Nat.blt d n = true)
    (h : AJ P W0 n ops Q hx G sd fuel (listed.setIfInBounds i true) ((d, v) :: ρ) L F) : AJ P W0 n ops Q hx G sd (fuel + 1) listed ρ L F :=
  AJ.take (T := HX hx bx) hi ht (fun j oj w w' hj hji hno hp hT => hp (HX hx bx, sp) (List.mem_map.2 ⟨_, hm, rfl⟩) (spWait_spec hw hj hji hno) hT) (fun w hs => hs hsd _ hm) hd (fun a hs => .inl ⟨guardIs_wanted hs hg, fun w hT => hy.run a w hs hT⟩) h
end

/-- What stands behind an operation. -/
def KontM (P : Program) (ops : Array Oper) (Q : Po) (S : Gp) (fuel : Nat) (listed : Array Bool) (i : Nat) (w : World) : Act → World → Prop :=
  fun a' w' => (∀ p ∈ S, p.2 i = false → p.1 w → p.1 w') ∧ wpM P ops Q S fuel (listed.setIfInBounds i true) a' w'
/-- Each of those that may come up now. -/
def Ups (P : Program) (W0 : World) (n : Nat) (ops : Array Oper) (Q : Po) (hx : H) (G : Hd) (fuel : Nat) (listed : Array Bool) (ρ : Rho) (L : List Res) (F : List Fact) (is : List Nat) : Prop :=
  ∀ i ∈ is, ∃ o, ops[i]? = some o ∧ guardIs ops ρ o.guard = some true ∧ ∀ w0, AO P W0 n (KontM P ops Q (G.gp hx) fuel listed i w0) o Q ρ L F
theorem Ups.nil : Ups P W0 n ops Q hx G fuel listed ρ L F [] := fun i hi => by cases hi
theorem Ups.cons {i : Nat} {is : List Nat} {o : Oper} (hi : ops[i]? = some o) (hg : guardIs ops ρ o.guard = some true) (h : ∀ w0, AO P W0 n (KontM P ops Q (G.gp hx) fuel listed i w0) o Q ρ L F) (hr : Ups P W0 n ops Q hx G fuel listed ρ L F is) : Ups P W0 n ops Q hx G fuel listed ρ L F (i :: is) := fun j hj => by
  rcases List.mem_cons.1 hj with rfl | hj
  · exact ⟨o, hi, hg, h⟩
  · exact hr j hj
theorem AJ.ups {is : List Nat} (hr : Region.ready .any ops listed = is) (hne : is ≠ []) (h : Ups P W0 n ops Q hx G fuel listed ρ L F is) : AJ P W0 n ops Q hx G sd (fuel + 1) listed ρ L F := by
  intro a w s hs
  refine ⟨fun h0 => by rw [hr] at h0; exact absurd h0 hne, fun j hj => ?_⟩
  rw [hr] at hj
  obtain ⟨o, hi, hg, hk⟩ := h j hj
  unfold wpOp
  simp only [hi]
  rw [if_pos (guardIs_wanted s.slots hg)]
  exact .inl (hk w a w s)
/-- ... and the region goes on. -/
theorem AT.go {i : Nat} {w0 : World} (hk : Keeps L i G) (hf : Fact.held hx ∈ F) (h : AJ P W0 n ops Q hx G false fuel (listed.setIfInBounds i true) ρ L F) : AT W0 n (KontM P ops Q (G.gp hx) fuel listed i w0) ρ L F :=
  fun a w s => ⟨fun p hp h0 _ => by
    obtain ⟨g, hg, rfl⟩ := List.mem_map.1 hp
    rcases hk.get g hg with hs | hb
    · rw [hs] at h0; cases h0
    · exact HX.of s.sat hb hf, h a w s (fun h0 => by cases h0)⟩
end
end Go.Sy
