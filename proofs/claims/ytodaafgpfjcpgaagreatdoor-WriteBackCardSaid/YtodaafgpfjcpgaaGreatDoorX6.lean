/- Joined of my own texts: FwL, FwI. -/
import Derived.Test.YtodaafgpfjcpgaaGreatDoorX5
import Derived.Sort.Grow
namespace Go.Sy
open Go Go.RowKit
variable {P : Program} {W0 : World} {L : List Res} {F : List Fact} {R : Value → List Res → List Fact → Prop} {f : FuncId} {args : Array Value}
theorem Sat.quiet {w w' : World} (s : Sat W0 L F w) (hb : Below w.heap.size w w') : Sat W0 L F w' := by
  have st : Step w w' (fun _ => none) := ⟨hb.os, hb.tape, hb.output, hb.size, fun k hk _ => hb.block k hk⟩
  obtain ⟨h, m, x⟩ := s.ex
  refine ⟨Sat.below_of s.below st (fun _ _ e => by simp at e), h, m, ?_, x.fact, x.res, ?_, x.apart⟩
  · intro b o v hv
    have hc := x.cell b o v hv
    exact cell_of_block (st.block b (cell_block_lt hc) rfl) hc
  intro i b O hi hm
  obtain ⟨h1, h2, h3⟩ := x.own i b O hi hm
  exact ⟨h1, by rw [st.block b (block_lt h2) rfl]; exact h2, h3⟩
theorem ACalls.lib {v : Value} (h : ∀ w, Sat W0 L F w → Calls P f args w fun e w' => e = .returned v ∧ Below w.heap.size w w') (hr : R v L F) : ACalls P W0 f args L F R :=
  fun w s => (h w s).mono fun _ _ ⟨e, hb⟩ => ⟨v, L, F, e, hr, s.quiet hb⟩
theorem drewN_below {w : World} (k : Nat) : Below w.heap.size w (w.drewN k) := ⟨rfl, rfl, rfl, Nat.le_refl _, fun _ _ => rfl⟩
theorem ACalls.libD {v : Value} (h : ∀ w, Sat W0 L F w → Calls P f args w fun e w' => e = .returned v ∧ ∃ n, w' = w.drewN n) (hr : R v L F) : ACalls P W0 f args L F R :=
  ACalls.lib (fun w s => (h w s).mono fun _ w' ⟨e, n, hw⟩ => ⟨e, by subst hw; exact drewN_below n⟩) hr
theorem ACalls.lib0 {v : Value} (h : ∀ w, Sat W0 L F w → Calls P f args w fun e w' => e = .returned v ∧ w' = w) (hr : R v L F) : ACalls P W0 f args L F R :=
  ACalls.lib (fun w s => (h w s).mono fun _ w' ⟨e, hw⟩ => ⟨e, by subst hw; exact Below.refl _ _⟩) hr
theorem ACalls.post {R1 : Value → List Res → List Fact → Prop} (h : ACalls P W0 f args L F R1) (hr : ∀ v L1 F1, R1 v L1 F1 → ∃ L2 F2, Sub L1 F1 L2 F2 ∧ R v L2 F2) : ACalls P W0 f args L F R :=
  fun w s => (h w s).mono fun _ _ ⟨v, L1, F1, e, r, s'⟩ => by
    obtain ⟨L2, F2, hs, hR⟩ := hr v L1 F1 r
    exact ⟨v, L2, F2, e, hR, hs _ _ s'⟩
theorem AT.sub {n : Nat} {K : Act → World → Prop} {ρ : Rho} {L' : List Res} {F' : List Fact} (hs : Sub L F L' F') (h : AT W0 n K ρ L' F') : AT W0 n K ρ L F :=
  fun a w s => h a w ⟨s.slots, hs _ _ s.sat⟩
theorem Sub.ofEq {L' : List Res} (h : L = L') : Sub L F L' F := h ▸ Ga _ _
theorem Sub.headF {f : Fact} {F' : List Fact} (h : ∀ x ∈ F', x ∈ F) : Sub L (f :: F) L (f :: F') :=
  Gc (fun x hx => by
    rcases List.mem_cons.1 hx with rfl | hx
    · exact List.Mem.head _
    exact List.mem_cons_of_mem _ (h x hx))
theorem Sub.nilF {sz : Nat} : Sub L F L (.slc (.slice none 0 0) sz [] :: F) := by
  intro W0 w s
  obtain ⟨h, m, x⟩ := s.ex
  refine ⟨s.below, h, m, x.facts ?_⟩
  intro f hf
  rcases List.mem_cons.1 hf with rfl | hf
  · exact CR.nil sz none 0 (fun _ => rfl)
  exact x.fact f hf
theorem Sat.slcAt {w : World} (s : Sat W0 L F w) {α : Type} {en : α → Value} {v : Value} {l : List α} (hf : Fact.slc v 1 (l.map fun x => [D.val (en x)]) ∈ F) :
    ∃ a c, v = .slice a l.length c ∧ l.length ≤ c ∧ (l ≠ [] → ∃ b o, a = some ⟨b, o, none⟩ ∧ b < w.heap.size ∧ ∀ (j : Nat) x, l[j]? = some x → w.cell? ⟨b, o + j, none⟩ = some (en x)) := by
  obtain ⟨h, hh, hc⟩ := s.fact hf
  have hh' : CR h v (.slc 1 (l.map fun x => [D.val (en x)])) := hh
  generalize hrows : (l.map fun x => [D.val (en x)]) = rows at hh'
  cases hh' with
  | nil sz a cap hn =>
    have : l = [] := by simpa using hrows
    subst this
    exact ⟨a, cap, rfl, by simp, fun e => absurd rfl e⟩
  | slc sz rows b o cap cell hcap hmax hsz hh hcc =>
    subst hrows
    refine ⟨some ⟨b, o, none⟩, cap, by simp, by simpa using hcap, fun hne => ⟨b, o, rfl, ?_, ?_⟩⟩
    · cases l with
      | nil => exact absurd rfl hne
      | cons x l =>
        have h0 := hh 0 _ 0 _ rfl rfl
        exact cell_block_lt (hc _ _ _ h0)
    intro j x hx
    have h1 : (l.map fun x => [D.val (en x)])[j]? = some [D.val (en x)] := by simp [hx]
    have h0 := hh j _ 0 _ h1 rfl
    have h2 := hcc j _ 0 _ h1 rfl
    have h3 := hc _ _ _ h0
    generalize cell j 0 = u at h2 h3
    cases h2
    simpa using h3
end Go.Sy
namespace Go.Sy
abbrev GT := @AT.sub
abbrev HM := @Sub.ofEq
end Go.Sy
namespace Go.Sy
open Go Go.RowKit
abbrev Gp := List ((World → Prop) × (Nat → Bool))
def wpM (P : Program) (ops : Array Oper) (Q : Po) (S : Gp) : Nat → Array Bool → Act → World → Prop
  | 0, listed, a, w => Region.ready .any ops listed = [] ∧ Q .normal a w
  | fuel + 1, listed, a, w => (Region.ready .any ops listed = [] → Q .normal a w) ∧
    ∀ i ∈ Region.ready .any ops listed, opS P ops Q i (fun a' w' => (∀ p ∈ S, p.2 i = false → p.1 w → p.1 w') ∧ wpM P ops Q S fuel (listed.setIfInBounds i true) a' w') a w
theorem wpM_first {P : Program} {ops : Array Oper} {Q : Po} {S : Gp} {T : World → Prop} {i : Nat} {oi : Oper} {v : Value} (hi : ops[i]? = some oi) (hsel : ∀ (j : Nat) (o : Oper) cs b, ops[j]? = some o → o.op ≠ .select cs b)
    (hT : ∀ (j : Nat) (oj : Oper) (w w' : World), ops[j]? = some oj → j ≠ i → (∀ e ∈ oj.after, Region.binds .any e = true → e.on ≠ i) → (∀ p ∈ S, p.2 j = false → p.1 w → p.1 w') → T w → T w') :
    ∀ (fuel : Nat) (listed : Array Bool) (a : Act) (w : World),
      (∀ j oj, ops[j]? = some oj → j ≠ i → listed.getD j true = false → (∀ e ∈ oj.after, Region.binds .any e = true → e.on ≠ i) → oi.apart ops oj = true) →
      i ∈ Region.ready .any ops listed → YieldsIf P ops T oi v a → T w →
      wpM P ops Q S fuel (listed.setIfInBounds i true) (a.put oi.dst v) w → wpM P ops Q S (fuel + 1) listed a w := by
  intro fuel
  induction fuel with
  | zero =>
    intro listed a w _ hr hy hTw H
    refine ⟨fun h => (by rw [h] at hr; cases hr), fun j hj => ?_⟩
    by_cases hji : j = i
    · subst hji
      exact opS_yields hi hy hTw ⟨fun _ _ _ hs => hs, H⟩
    have := ready_mono hj hji
    rw [H.1] at this
    cases this
  | succ fuel ih =>
    intro listed a w hfree hr hy hTw H
    refine ⟨fun h => (by rw [h] at hr; cases hr), fun j hj => ?_⟩
    by_cases hji : j = i
    · subst hji
      exact opS_yields hi hy hTw ⟨fun _ _ _ hs => hs, H⟩
    have hstep := H.2 j (ready_mono hj hji)
    obtain ⟨hjun, oj, hoj, hall⟩ := mem_ready.1 hj
    have hnot : ∀ e ∈ oj.after, Region.binds .any e = true → e.on ≠ i := by
      intro e he hb heq
      have hl := hall e he hb
      have h0 := (mem_ready.1 hr).1
      rw [heq] at hl
      rcases Nat.lt_or_ge i listed.size with h' | h'
      · simp [h'] at h0 hl; rw [h0] at hl; cases hl
      simp [Array.getElem?_eq_none h'] at hl
    have hput := opS_put hoj (hfree j oj hoj hji hjun hnot) (fun cs b => hsel i oi cs b hi) (fun cs b => hsel j oj cs b hoj) hy hstep
    refine opS_mono (fun a' w' h3 => ⟨h3.2.1, ih (listed.setIfInBounds j true) a' w' ?_ (ready_mono hr (Ne.symm hji)) h3.1 (hT j oj w w' hoj hji hnot h3.2.1 hTw) ?_⟩) hput
    · intro k ok hk hki hun hno
      refine hfree k ok hk hki ?_ hno
      by_cases hjk : j = k
      · subst hjk; exact hjun
      rw [getD_set_ne true hjk] at hun; exact hun
    rw [Array.setIfInBounds_comm _ _ hji]
    exact h3.2.2
abbrev Hd := List (Bx × (Nat → Bool))
def Hd.gp (hx : H) (G : Hd) : Gp := G.map fun g => (HX hx g.1, g.2)
def AJ (P : Program) (W0 : World) (n : Nat) (ops : Array Oper) (Q : Po) (hx : H) (G : Hd) (sd : Bool) (fuel : Nat) (listed : Array Bool) (ρ : Rho) (L : List Res) (F : List Fact) : Prop :=
  ∀ a w, St W0 n ρ L F a w → (sd = true → ∀ g ∈ G, HX hx g.1 w) → wpM P ops Q (G.gp hx) fuel listed a w
inductive HdIn (L : List Res) : Hd → Prop where
  | nil : HdIn L []
  | cons {g : Bx × (Nat → Bool)} {G : Hd} (hb : BxIn L g.1) (h : HdIn L G) : HdIn L (g :: G)
theorem HdIn.get {L : List Res} {G : Hd} (h : HdIn L G) : ∀ g ∈ G, BxIn L g.1 := by
  induction h with
  | nil => intro g hg; cases hg
  | cons hb _ ih =>
    intro g hg
    rcases List.mem_cons.1 hg with rfl | hg
    · exact hb
    exact ih g hg
inductive Keeps (L : List Res) (i : Nat) : Hd → Prop where
  | nil : Keeps L i []
  | spoil {g : Bx × (Nat → Bool)} {G : Hd} (hs : g.2 i = true) (h : Keeps L i G) : Keeps L i (g :: G)
  | held {g : Bx × (Nat → Bool)} {G : Hd} (hb : BxIn L g.1) (h : Keeps L i G) : Keeps L i (g :: G)
theorem Keeps.get {L : List Res} {i : Nat} {G : Hd} (h : Keeps L i G) : ∀ g ∈ G, g.2 i = true ∨ BxIn L g.1 := by
  induction h with
  | nil => intro g hg; cases hg
  | spoil hs _ ih =>
    intro g hg
    rcases List.mem_cons.1 hg with rfl | hg
    · exact .inl hs
    exact ih g hg
  | held hb _ ih =>
    intro g hg
    rcases List.mem_cons.1 hg with rfl | hg
    · exact .inr hb
    exact ih g hg
section
variable {P : Program} {W0 : World} {n : Nat} {Q : Po} {ρ : Rho} {L : List Res} {F : List Fact} {l : List Oper} {hx : H} {G : Hd} {sd : Bool} {fuel : Nat} {listed : Array Bool} {ops : Array Oper} {ro : Option Nat} {ds : List Deferred}
theorem AJ.done (hr : Region.ready .any ops listed = []) (h : AK ds W0 n Q .normal ρ L F) : AJ P W0 n ops (Nq ds Q) hx G sd 0 listed ρ L F :=
  fun a w s _ => ⟨hr, h a w s⟩
section
variable {i : Nat} {d : Tmp} {op : Op} {ty : TypeId} {pos : String} {af : Array Edge} {g : Option (Nat × Bool)} {v : Value}
theorem AJ.take {T : World → Prop} (hi : ops[i]? = some ⟨some d, op, ty, pos, af, g⟩) (ht : takeOk ops listed i = true)
    (hT : ∀ (j : Nat) (oj : Oper) (w w' : World), ops[j]? = some oj → j ≠ i → (∀ e ∈ oj.after, Region.binds .any e = true → e.on ≠ i) → (∀ p ∈ G.gp hx, p.2 j = false → p.1 w → p.1 w') → T w → T w') (hT0 : ∀ w, (sd = true → ∀ g ∈ G, HX hx g.1 w) → T w)
    (hd : Nat.blt d n = true) (hy : ∀ a, Slots n ρ a → YieldsIf P ops T ⟨some d, op, ty, pos, af, g⟩ v a)
    (h : AJ P W0 n ops Q hx G sd fuel (listed.setIfInBounds i true) ((d, v) :: ρ) L F) : AJ P W0 n ops Q hx G sd (fuel + 1) listed ρ L F := by
  intro a w s hs
  obtain ⟨h1, h2, h3⟩ := takeOk_spec ht
  exact wpM_first hi (Region.noSelect_spec h1) hT fuel listed a w (Region.free_spec hi h2) h3 (hy a s.slots) (hT0 w hs)
    (h _ w ⟨s.slots.put (Nat.le_of_ble_eq_true hd) _, s.sat⟩ hs)
end
def KontM (P : Program) (ops : Array Oper) (Q : Po) (S : Gp) (fuel : Nat) (listed : Array Bool) (i : Nat) (w : World) : Act → World → Prop :=
  fun a' w' => (∀ p ∈ S, p.2 i = false → p.1 w → p.1 w') ∧ wpM P ops Q S fuel (listed.setIfInBounds i true) a' w'
def Ups (P : Program) (W0 : World) (n : Nat) (ops : Array Oper) (Q : Po) (hx : H) (G : Hd) (fuel : Nat) (listed : Array Bool) (ρ : Rho) (L : List Res) (F : List Fact) (is : List Nat) : Prop :=
  ∀ i ∈ is, ∃ o, ops[i]? = some o ∧ guardIs ops ρ o.guard = some true ∧ ∀ w0, AO P W0 n (KontM P ops Q (G.gp hx) fuel listed i w0) o (Pz Q) ρ L F
theorem Ups.nil : Ups P W0 n ops Q hx G fuel listed ρ L F [] := fun i hi => by cases hi
theorem Ups.cons {i : Nat} {is : List Nat} {o : Oper} (hi : ops[i]? = some o) (hg : guardIs ops ρ o.guard = some true) (h : ∀ w0, AO P W0 n (KontM P ops Q (G.gp hx) fuel listed i w0) o (Pz Q) ρ L F) (hr : Ups P W0 n ops Q hx G fuel listed ρ L F is) : Ups P W0 n ops Q hx G fuel listed ρ L F (i :: is) := fun j hj => by
  rcases List.mem_cons.1 hj with rfl | hj
  · exact ⟨o, hi, hg, h⟩
  exact hr j hj
theorem AT.go {i : Nat} {w0 : World} (hk : Keeps L i G) (hf : Fact.held hx ∈ F) (h : AJ P W0 n ops Q hx G false fuel (listed.setIfInBounds i true) ρ L F) : AT W0 n (KontM P ops Q (G.gp hx) fuel listed i w0) ρ L F :=
  fun a w s => ⟨fun p hp h0 _ => by
    obtain ⟨g, hg, rfl⟩ := List.mem_map.1 hp
    rcases hk.get g hg with hs | hb
    · rw [hs] at h0; cases h0
    exact HX.of s.sat hb hf, h a w s (fun h0 => by cases h0)⟩
end
end Go.Sy
