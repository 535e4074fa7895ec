/- Joined of my own texts: FwL. -/
import Derived.Test.YtinolpaapcpijaaGreatDoorW5
import Derived.Sort.Grow
namespace Go.Sy
open Go Go.RowKit
variable {P : Program} {W0 : World} {L : List Res} {F : List Fact} {R : Value → List Res → List Fact → Prop} {f : FuncId} {args : Array Value}
theorem Sat.quiet {w w' : World} (s : Sat W0 L F w) (hb : Below w.heap.size w w') : Sat W0 L F w' := by
  have st : Step w w' (fun _ => none) := ⟨hb.os, hb.tape, hb.output, hb.size, fun k hk _ => hb.block k hk⟩
  obtain ⟨h, m, x⟩ := s.ex
  refine ⟨Ho s.below st (fun _ _ e => by simp at e), h, m, ?_, x.fact, x.res, ?_, x.apart⟩
  · intro b o v hv
    have hc := x.cell b o v hv
    exact cell_of_block (st.block b (cell_block_lt hc) rfl) hc
  intro i b O hi hm
  obtain ⟨h1, h2, h3⟩ := x.own i b O hi hm
  exact ⟨h1, by rw [st.block b (block_lt h2) rfl]; exact h2, h3⟩
theorem ACalls.lib {v : Value} (h : ∀ w, Sat W0 L F w → Calls P f args w fun e w' => e = .returned v ∧ Below w.heap.size w w') (hr : R v L F) : ACalls P W0 f args L F R :=
  fun w s => (h w s).mono fun _ _ ⟨e, hb⟩ => ⟨v, L, F, e, hr, s.quiet hb⟩
theorem drewN_below {w : World} (k : Nat) : Below w.heap.size w (w.drewN k) := ⟨rfl, rfl, rfl, Nat.le_refl _, fun _ _ => rfl⟩
theorem ACalls.libD {v : Value} (h : ∀ w, Sat W0 L F w → Calls P f args w fun e w' => e = .returned v ∧ ∃ n, w' = w.drewN n) (hr : R v L F) : ACalls P W0 f args L F R :=
  ACalls.lib (fun w s => (h w s).mono fun _ w' ⟨e, n, hw⟩ => ⟨e, by subst hw; exact drewN_below n⟩) hr
theorem ACalls.lib0 {v : Value} (h : ∀ w, Sat W0 L F w → Calls P f args w fun e w' => e = .returned v ∧ w' = w) (hr : R v L F) : ACalls P W0 f args L F R :=
  ACalls.lib (fun w s => (h w s).mono fun _ w' ⟨e, hw⟩ => ⟨e, by subst hw; exact Below.refl _ _⟩) hr
theorem grow_below {w : World} (k : Nat) (os : Array Obj) : Below w.heap.size w (Go.Sort.grow (w.drewN k) os) := by
  refine ⟨rfl, rfl, rfl, by simp [Go.Sort.grow, World.drewN], fun i hi => ?_⟩
  simp [Go.Sort.grow, World.drewN, Array.getElem?_append_left hi]
theorem ACalls.libG {v : Value} (h : ∀ w, Sat W0 L F w → Calls P f args w fun e w' => e = .returned v ∧ ∃ k os, w' = Go.Sort.grow (w.drewN k) os) (hr : R v L F) : ACalls P W0 f args L F R :=
  ACalls.lib (fun w s => (h w s).mono fun _ w' ⟨e, k, os, hw⟩ => ⟨e, by subst hw; exact grow_below k os⟩) hr
theorem ACalls.post {R1 : Value → List Res → List Fact → Prop} (h : ACalls P W0 f args L F R1) (hr : ∀ v L1 F1, R1 v L1 F1 → ∃ L2 F2, Sub L1 F1 L2 F2 ∧ R v L2 F2) : ACalls P W0 f args L F R :=
  fun w s => (h w s).mono fun _ _ ⟨v, L1, F1, e, r, s'⟩ => by
    obtain ⟨L2, F2, hs, hR⟩ := hr v L1 F1 r
    exact ⟨v, L2, F2, e, hR, hs _ _ s'⟩
theorem AT.sub {n : Nat} {K : Act → World → Prop} {ρ : Rho} {L' : List Res} {F' : List Fact} (hs : Sub L F L' F') (h : AT W0 n K ρ L' F') : AT W0 n K ρ L F :=
  fun a w s => h a w ⟨s.slots, hs _ _ s.sat⟩
theorem Sub.ofEq {L' : List Res} (h : L = L') : Sub L F L' F := h ▸ Gk _ _
theorem Sub.headF {f : Fact} {F' : List Fact} (h : ∀ x ∈ F', x ∈ F) : Sub L (f :: F) L (f :: F') :=
  Gg (fun x hx => by
    rcases List.mem_cons.1 hx with rfl | hx
    · exact List.Mem.head _
    exact List.mem_cons_of_mem _ (h x hx))
theorem mem1 {f : Fact} {F' : List Fact} (h1 : f ∈ F') (h : ∀ x ∈ F, x ∈ F') : ∀ x ∈ f :: F, x ∈ F' := fun x hx => by
  rcases List.mem_cons.1 hx with rfl | hx
  · exact h1
  exact h x hx
theorem mem2 {f g : Fact} {F' : List Fact} (h1 : f ∈ F') (h2 : g ∈ F') (h : ∀ x ∈ F, x ∈ F') : ∀ x ∈ f :: g :: F, x ∈ F' := mem1 h1 (mem1 h2 h)
theorem Sub.nilF {sz : Nat} : Sub L F L (.slc (.slice none 0 0) sz [] :: F) := by
  intro W0 w s
  obtain ⟨h, m, x⟩ := s.ex
  refine ⟨s.below, h, m, x.facts ?_⟩
  intro f hf
  rcases List.mem_cons.1 hf with rfl | hf
  · exact CR.nil sz none 0 (fun _ => rfl)
  exact x.fact f hf
end Go.Sy
namespace Go.Sy
abbrev Gz := @AT.sub
abbrev Hk := @Sub.headF
abbrev Hn := @Sub.ofEq
abbrev HG := @Sub.nilF
end Go.Sy
