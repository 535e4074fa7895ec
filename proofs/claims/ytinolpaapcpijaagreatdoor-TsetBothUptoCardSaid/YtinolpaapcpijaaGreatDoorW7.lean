/- Joined of my own texts: Txt, FwI. -/
import Derived.Test.YtinolpaapcpijaaGreatDoorW6
import Derived.Lib.Split
import Derived.Lib.CountLaws
import Derived.Lib.ItoaNum
namespace Go.Sy
open Go
def digitC (c : UInt8) : Bool := 48 ≤ c.toNat && c.toNat ≤ 57
def cutD (c : UInt8) : List UInt8 → List UInt8 × List UInt8 × Bool
  | [] => ([], [], false)
  | b :: s => if b = c then ([], s, true) else (b :: (cutD c s).1, (cutD c s).2.1, (cutD c s).2.2)
theorem index_cons_ne {b c : UInt8} (l : List UInt8) (h : b ≠ c) : Lib.index (b :: l) [c] = if Lib.index l [c] == -1 then -1 else Lib.index l [c] + 1 := by
  have hp : ([c] : List UInt8).isPrefixOf (b :: l) = false := by simp [List.isPrefixOf, Ne.symm h]
  rw [Lib.index, hp]; simp
theorem index_cons_eq (c : UInt8) (l : List UInt8) : Lib.index (c :: l) [c] = ((0 : Nat) : Int) := by rw [Lib.index]; simp [List.isPrefixOf]
theorem cut_eq (c : UInt8) : ∀ s : List UInt8, Lib.cut s [c] = cutD c s
  | [] => by simp [Lib.cut, Lib.index, cutD]
  | b :: l => by
    have ih := cut_eq c l
    by_cases h : b = c
    · subst h
      rw [Lib.cut, index_cons_eq]; simp [cutD]
    simp only [cutD, if_neg h, ← ih]
    unfold Lib.cut
    rw [index_cons_ne l h]
    have hge := Lib.index_ge l [c]
    by_cases hm : Lib.index l [c] = -1
    · rw [hm]; simp
    obtain ⟨j, hj⟩ : ∃ j : Nat, Lib.index l [c] = j := ⟨(Lib.index l [c]).toNat, by omega⟩
    rw [hj]
    have e1 : ((j : Int) == -1) = false := by simp
    have e2 : ((j : Int) + 1).toNat = j + 1 := by omega
    have e3 : (0 : Int) ≤ (j : Int) + 1 := by omega
    simp [e1, e2, e3]
def valFrom (n : Nat) (s : List UInt8) : Nat := s.foldl (fun n c => 10 * n + (c.toNat - 48)) n
abbrev valS (s : List UInt8) : Nat := valFrom 0 s
theorem valFrom_snoc (n : Nat) (a : List UInt8) (d : UInt8) : valFrom n (a ++ [d]) = 10 * valFrom n a + (d.toNat - 48) := by
  simp [valFrom, List.foldl_append]
theorem of48 {u : Nat} (h : u < 10) : (UInt8.ofNat (48 + u)).toNat = 48 + u := by
  rw [UInt8.toNat_ofNat']; omega
theorem dec_small {u : Nat} (h : u < 10) : Lib.decDigits u = [UInt8.ofNat (48 + u)] := by rw [Lib.decDigits, dif_pos h]
theorem dec_big {u : Nat} (h : ¬ u < 10) : Lib.decDigits u = Lib.decDigits (u / 10) ++ [UInt8.ofNat (48 + u % 10)] := by rw [Lib.decDigits, dif_neg h]
theorem digit_of {u : Nat} (h : u < 10) : digitC (UInt8.ofNat (48 + u)) = true := by
  unfold digitC; rw [of48 h]; simp; omega
theorem dec_all : ∀ u : Nat, (Lib.decDigits u).all digitC = true ∧ valS (Lib.decDigits u) = u ∧ Lib.decDigits u ≠ [] ∧ (0 < u → (Lib.decDigits u).headD 0 ≠ 48) := by
  intro u
  induction u using Nat.strongRecOn with
  | ind u ih =>
    by_cases h : u < 10
    · rw [dec_small h]
      refine ⟨by (show (digitC (UInt8.ofNat (48 + u)) && true) = true; rw [digit_of h]; rfl), ?_, by simp, fun h0 e => ?_⟩
      · show 10 * 0 + ((UInt8.ofNat (48 + u)).toNat - 48) = u
        rw [of48 h]; omega
      have e' : UInt8.ofNat (48 + u) = 48 := e
      have := congrArg UInt8.toNat e'
      rw [of48 h] at this
      have h48 : (48 : UInt8).toNat = 48 := rfl
      omega
    obtain ⟨i1, i2, i3, i4⟩ := ih (u / 10) HW
    rw [dec_big h]
    have hm : u % 10 < 10 := Nat.mod_lt _ (by decide)
    refine ⟨by (rw [List.all_append, i1]; show (true && (digitC (UInt8.ofNat (48 + u % 10)) && true)) = true; rw [digit_of hm]; rfl), ?_, by simp, fun h0 => ?_⟩
    · show valFrom 0 _ = u
      rw [valFrom_snoc, of48 hm]
      have : valFrom 0 (Lib.decDigits (u / 10)) = u / 10 := i2
      omega
    cases hd : Lib.decDigits (u / 10) with
    | nil => exact absurd hd i3
    | cons x r =>
      have := i4 HW
      rw [hd] at this
      exact this
theorem cut_at (c : UInt8) : ∀ (s r : List UInt8), c ∉ s → cutD c (s ++ c :: r) = (s, r, true)
  | [], r, _ => by simp [cutD]
  | b :: s, r, h => by
    have h1 : b ≠ c := fun e => h (by rw [e]; exact .head _)
    have h2 := cut_at c s r (fun e => h (.tail _ e))
    simp only [List.cons_append, cutD, if_neg h1, h2]
theorem dec_inj {a b : Nat} (h : Lib.decDigits a = Lib.decDigits b) : a = b := by
  have h1 := (dec_all a).2.1
  have h2 := (dec_all b).2.1
  rw [h] at h1
  exact h1.symm.trans h2
theorem dec_no (c : UInt8) (hc : digitC c = false) (u : Nat) : c ∉ Lib.decDigits u := by
  intro h
  have := List.all_eq_true.1 (dec_all u).1 c h
  rw [hc] at this
  exact absurd this (by decide)
theorem itoa_inj {a b : Int} (h : Lib.itoa a = Lib.itoa b) : a = b := by
  unfold Lib.itoa at h
  by_cases ha : a < 0
  · rw [if_pos ha] at h
    by_cases hb : b < 0
    · rw [if_pos hb] at h
      have := dec_inj (List.cons.inj h).2
      omega
    rw [if_neg hb] at h
    exact absurd (h ▸ List.mem_cons_self : (45 : UInt8) ∈ Lib.decDigits b.toNat) (dec_no 45 (by decide) _)
  rw [if_neg ha] at h
  by_cases hb : b < 0
  · rw [if_pos hb] at h
    exact absurd (h ▸ List.mem_cons_self : (45 : UInt8) ∈ Lib.decDigits a.toNat) (dec_no 45 (by decide) _)
  rw [if_neg hb] at h
  have := dec_inj h
  omega
theorem itoa_no (c : UInt8) (hc : digitC c = false) (h45 : c ≠ 45) (n : Int) : c ∉ Lib.itoa n := by
  unfold Lib.itoa
  split
  · intro h
    rcases List.mem_cons.1 h with e | e
    · exact h45 e
    exact dec_no c hc _ e
  exact dec_no c hc _
def commas (l : List Int) : List UInt8 := (l.map fun k => Lib.itoa k ++ [44]).flatten
theorem commas_cons (k : Int) (l : List Int) : commas (k :: l) = Lib.itoa k ++ 44 :: commas l := by simp [commas]
theorem commas_snoc (l : List Int) (k : Int) : commas (l ++ [k]) = commas l ++ (Lib.itoa k ++ [44]) := by simp [commas]
theorem commas_inj : ∀ (l m : List Int), commas l = commas m → l = m
  | [], [], _ => rfl
  | [], k :: m, h => by rw [commas_cons] at h; simp [commas] at h
  | k :: l, [], h => by rw [commas_cons] at h; simp [commas] at h
  | k :: l, q :: m, h => by
    rw [commas_cons, commas_cons] at h
    have h1 := cut_at 44 (Lib.itoa k) (commas l) (itoa_no 44 (by decide) (by decide) k)
    have h2 := cut_at 44 (Lib.itoa q) (commas m) (itoa_no 44 (by decide) (by decide) q)
    rw [h] at h1
    have h3 := h1.symm.trans h2
    simp only [Prod.mk.injEq, and_true] at h3
    rw [itoa_inj h3.1, commas_inj l m h3.2]
theorem flatten_inj : ∀ (l m : List (List UInt8)), l.map List.length = m.map List.length → l.flatten = m.flatten → l = m
  | [], [], _, _ => rfl
  | [], _ :: _, h, _ => by simp at h
  | _ :: _, [], h, _ => by simp at h
  | x :: l, y :: m, h, e => by
    simp only [List.map_cons, List.cons.injEq] at h
    simp only [List.flatten_cons] at e
    have := List.append_inj e h.1
    rw [this.1, flatten_inj l m h.2 this.2]
end Go.Sy
namespace Go.Sy
open Go Go.RowKit
abbrev Gp := List ((World → Prop) × (Nat → Bool))
def wpM (P : Program) (ops : Array Oper) (Q : Po) (S : Gp) : Nat → Array Bool → Act → World → Prop
  | 0, listed, a, w => Region.ready .any ops listed = [] ∧ Q .normal a w
  | fuel + 1, listed, a, w => (Region.ready .any ops listed = [] → Q .normal a w) ∧
    ∀ i ∈ Region.ready .any ops listed, opS P ops i (fun a' w' => (∀ p ∈ S, p.2 i = false → p.1 w → p.1 w') ∧ wpM P ops Q S fuel (listed.setIfInBounds i true) a' w') a w
theorem wpM_first {P : Program} {ops : Array Oper} {Q : Po} {S : Gp} {T : World → Prop} {i : Nat} {oi : Oper} {v : Value} (hi : ops[i]? = some oi) (hsel : ∀ (j : Nat) (o : Oper) cs b, ops[j]? = some o → o.op ≠ .select cs b)
    (hT : ∀ (j : Nat) (oj : Oper) (w w' : World), ops[j]? = some oj → j ≠ i → (∀ e ∈ oj.after, Region.binds .any e = true → e.on ≠ i) → (∀ p ∈ S, p.2 j = false → p.1 w → p.1 w') → T w → T w') :
    ∀ (fuel : Nat) (listed : Array Bool) (a : Act) (w : World),
      (∀ j oj, ops[j]? = some oj → j ≠ i → listed.getD j true = false → (∀ e ∈ oj.after, Region.binds .any e = true → e.on ≠ i) → oi.apart ops oj = true) →
      i ∈ Region.ready .any ops listed → YieldsIf P ops T oi v a → T w →
      wpM P ops Q S fuel (listed.setIfInBounds i true) (a.put oi.dst v) w → wpM P ops Q S (fuel + 1) listed a w := by
  intro fuel
  induction fuel with
  | zero =>
    intro listed a w _ hr hy hTw H
    refine ⟨fun h => (by rw [h] at hr; cases hr), fun j hj => ?_⟩
    by_cases hji : j = i
    · subst hji
      exact opS_yields hi hy hTw ⟨fun _ _ _ hs => hs, H⟩
    have := ready_mono hj hji
    rw [H.1] at this
    cases this
  | succ fuel ih =>
    intro listed a w hfree hr hy hTw H
    refine ⟨fun h => (by rw [h] at hr; cases hr), fun j hj => ?_⟩
    by_cases hji : j = i
    · subst hji
      exact opS_yields hi hy hTw ⟨fun _ _ _ hs => hs, H⟩
    have hstep := H.2 j (ready_mono hj hji)
    obtain ⟨hjun, oj, hoj, hall⟩ := mem_ready.1 hj
    have hnot : ∀ e ∈ oj.after, Region.binds .any e = true → e.on ≠ i := by
      intro e he hb heq
      have hl := hall e he hb
      have h0 := (mem_ready.1 hr).1
      rw [heq] at hl
      rcases Nat.lt_or_ge i listed.size with h' | h'
      · simp [h'] at h0 hl; rw [h0] at hl; cases hl
      simp [Array.getElem?_eq_none h'] at hl
    have hput := opS_put hoj (hfree j oj hoj hji hjun hnot) (fun cs b => hsel i oi cs b hi) (fun cs b => hsel j oj cs b hoj) hy hstep
    refine opS_mono (fun a' w' h3 => ⟨h3.2.1, ih (listed.setIfInBounds j true) a' w' ?_ (ready_mono hr (Ne.symm hji)) h3.1 (hT j oj w w' hoj hji hnot h3.2.1 hTw) ?_⟩) hput
    · intro k ok hk hki hun hno
      refine hfree k ok hk hki ?_ hno
      by_cases hjk : j = k
      · subst hjk; exact hjun
      rw [getD_set_ne true hjk] at hun; exact hun
    rw [Array.setIfInBounds_comm _ _ hji]
    exact h3.2.2
abbrev Hd := List (Bx × (Nat → Bool))
def Hd.gp (hx : H) (G : Hd) : Gp := G.map fun g => (HX hx g.1, g.2)
def AJ (P : Program) (W0 : World) (n : Nat) (ops : Array Oper) (Q : Po) (hx : H) (G : Hd) (sd : Bool) (fuel : Nat) (listed : Array Bool) (ρ : Rho) (L : List Res) (F : List Fact) : Prop :=
  ∀ a w, St W0 n ρ L F a w → (sd = true → ∀ g ∈ G, HX hx g.1 w) → wpM P ops Q (G.gp hx) fuel listed a w
inductive HdIn (L : List Res) : Hd → Prop where
  | nil : HdIn L []
  | cons {g : Bx × (Nat → Bool)} {G : Hd} (hb : BxIn L g.1) (h : HdIn L G) : HdIn L (g :: G)
theorem HdIn.get {L : List Res} {G : Hd} (h : HdIn L G) : ∀ g ∈ G, BxIn L g.1 := by
  induction h with
  | nil => intro g hg; cases hg
  | cons hb _ ih =>
    intro g hg
    rcases List.mem_cons.1 hg with rfl | hg
    · exact hb
    exact ih g hg
inductive Keeps (L : List Res) (i : Nat) : Hd → Prop where
  | nil : Keeps L i []
  | spoil {g : Bx × (Nat → Bool)} {G : Hd} (hs : g.2 i = true) (h : Keeps L i G) : Keeps L i (g :: G)
  | held {g : Bx × (Nat → Bool)} {G : Hd} (hb : BxIn L g.1) (h : Keeps L i G) : Keeps L i (g :: G)
theorem Keeps.get {L : List Res} {i : Nat} {G : Hd} (h : Keeps L i G) : ∀ g ∈ G, g.2 i = true ∨ BxIn L g.1 := by
  induction h with
  | nil => intro g hg; cases hg
  | spoil hs _ ih =>
    intro g hg
    rcases List.mem_cons.1 hg with rfl | hg
    · exact .inl hs
    exact ih g hg
  | held hb _ ih =>
    intro g hg
    rcases List.mem_cons.1 hg with rfl | hg
    · exact .inr hb
    exact ih g hg
section
variable {P : Program} {W0 : World} {n : Nat} {Q : Po} {ρ : Rho} {L : List Res} {F : List Fact} {l : List Oper} {hx : H} {G : Hd} {sd : Bool} {fuel : Nat} {listed : Array Bool} {ops : Array Oper} {ro : Option Nat} {ds : List Deferred}
theorem AJ.done (hr : Region.ready .any ops listed = []) (h : AK ds W0 n Q .normal ρ L F) : AJ P W0 n ops (Nq ds Q) hx G sd 0 listed ρ L F :=
  fun a w s _ => ⟨hr, h a w s⟩
section
variable {i : Nat} {d : Tmp} {op : Op} {ty : TypeId} {pos : String} {af : Array Edge} {g : Option (Nat × Bool)} {v : Value}
theorem AJ.take {T : World → Prop} (hi : ops[i]? = some ⟨some d, op, ty, pos, af, g⟩) (ht : takeOk ops listed i = true)
    (hT : ∀ (j : Nat) (oj : Oper) (w w' : World), ops[j]? = some oj → j ≠ i → (∀ e ∈ oj.after, Region.binds .any e = true → e.on ≠ i) → (∀ p ∈ G.gp hx, p.2 j = false → p.1 w → p.1 w') → T w → T w') (hT0 : ∀ w, (sd = true → ∀ g ∈ G, HX hx g.1 w) → T w)
    (hd : Nat.blt d n = true) (hy : ∀ a, Slots n ρ a → YieldsIf P ops T ⟨some d, op, ty, pos, af, g⟩ v a)
    (h : AJ P W0 n ops Q hx G sd fuel (listed.setIfInBounds i true) ((d, v) :: ρ) L F) : AJ P W0 n ops Q hx G sd (fuel + 1) listed ρ L F := by
  intro a w s hs
  obtain ⟨h1, h2, h3⟩ := takeOk_spec ht
  exact wpM_first hi (Region.noSelect_spec h1) hT fuel listed a w (Region.free_spec hi h2) h3 (hy a s.slots) (hT0 w hs)
    (h _ w ⟨s.slots.put (Nat.le_of_ble_eq_true hd) _, s.sat⟩ hs)
end
def KontM (P : Program) (ops : Array Oper) (Q : Po) (S : Gp) (fuel : Nat) (listed : Array Bool) (i : Nat) (w : World) : Act → World → Prop :=
  fun a' w' => (∀ p ∈ S, p.2 i = false → p.1 w → p.1 w') ∧ wpM P ops Q S fuel (listed.setIfInBounds i true) a' w'
def Ups (P : Program) (W0 : World) (n : Nat) (ops : Array Oper) (Q : Po) (hx : H) (G : Hd) (fuel : Nat) (listed : Array Bool) (ρ : Rho) (L : List Res) (F : List Fact) (is : List Nat) : Prop :=
  ∀ i ∈ is, ∃ o, ops[i]? = some o ∧ guardIs ops ρ o.guard = some true ∧ ∀ w0, AO P W0 n (KontM P ops Q (G.gp hx) fuel listed i w0) o Q ρ L F
theorem Ups.nil : Ups P W0 n ops Q hx G fuel listed ρ L F [] := fun i hi => by cases hi
theorem Ups.cons {i : Nat} {is : List Nat} {o : Oper} (hi : ops[i]? = some o) (hg : guardIs ops ρ o.guard = some true) (h : ∀ w0, AO P W0 n (KontM P ops Q (G.gp hx) fuel listed i w0) o Q ρ L F) (hr : Ups P W0 n ops Q hx G fuel listed ρ L F is) : Ups P W0 n ops Q hx G fuel listed ρ L F (i :: is) := fun j hj => by
  rcases List.mem_cons.1 hj with rfl | hj
  · exact ⟨o, hi, hg, h⟩
  exact hr j hj
theorem AT.go {i : Nat} {w0 : World} (hk : Keeps L i G) (hf : Fact.held hx ∈ F) (h : AJ P W0 n ops Q hx G false fuel (listed.setIfInBounds i true) ρ L F) : AT W0 n (KontM P ops Q (G.gp hx) fuel listed i w0) ρ L F :=
  fun a w s => ⟨fun p hp h0 _ => by
    obtain ⟨g, hg, rfl⟩ := List.mem_map.1 hp
    rcases hk.get g hg with hs | hb
    · rw [hs] at h0; cases h0
    exact HX.of s.sat hb hf, h a w s (fun h0 => by cases h0)⟩
end
end Go.Sy
