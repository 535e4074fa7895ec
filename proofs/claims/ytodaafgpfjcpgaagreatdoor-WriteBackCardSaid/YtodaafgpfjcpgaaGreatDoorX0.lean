/- Joined of my own texts: FwA, FwB. -/
import Derived.WalkKit
import Derived.TacticsIn
import Derived.OrdersIn
namespace Go.Sy
open Go Go.RowKit
abbrev H := Nat → Nat → Option Value
def H.le (h h' : H) : Prop := ∀ b o v, h b o = some v → h' b o = some v
theorem H.le.refl (h : H) : H.le h h := fun _ _ _ e => e
theorem H.le.trans {a b c : H} (h : H.le a b) (k : H.le b c) : H.le a c := fun _ _ _ e => k _ _ _ (h _ _ _ e)
inductive D where
  | val (v : Value)
  | slc (sz : Nat) (rows : List (List D))
inductive CR (h : H) : Value → D → Prop where
  | val (v : Value) : CR h v (.val v)
  | nil (sz : Nat) (a : Option Addr) (cap : Nat) (hn : a = none → cap = 0) : CR h (.slice a 0 cap) (.slc sz [])
  | slc (sz : Nat) (rows : List (List D)) (b o cap : Nat) (cell : Nat → Nat → Value)
      (hcap : rows.length ≤ cap) (hmax : cap ≤ maxLen)
      (hsz : ∀ (i : Nat) (r : List D), rows[i]? = some r → r.length = sz)
      (hh : ∀ (i : Nat) (r : List D) (j : Nat) (d : D), rows[i]? = some r → r[j]? = some d → h b (o + i * sz + j) = some (cell i j))
      (hc : ∀ (i : Nat) (r : List D) (j : Nat) (d : D), rows[i]? = some r → r[j]? = some d → CR h (cell i j) d) :
      CR h (.slice (some ⟨b, o, none⟩) rows.length cap) (.slc sz rows)
theorem CR.mono {h h' : H} (hl : H.le h h') {v : Value} {d : D} (c : CR h v d) : CR h' v d := by
  induction c with
  | val v => exact .val v
  | nil sz a cap hn => exact .nil sz a cap hn
  | slc sz rows b o cap cell hcap hmax hsz hh _ ih =>
    exact .slc sz rows b o cap cell hcap hmax hsz (fun i r j d hi hj => hl _ _ _ (hh i r j d hi hj)) ih
def AtR (h : H) (b o : Nat) (ds : List D) : Prop := ∀ (j : Nat) (d : D), ds[j]? = some d → ∃ v, h b (o + j) = some v ∧ CR h v d
inductive Fact where
  | slc (v : Value) (sz : Nat) (rows : List (List D))
  | at_ (b o : Nat) (ds : List D)
  | held (hx : H)
def Fact.holds (h : H) : Fact → Prop
  | .slc v sz rows => CR h v (.slc sz rows)
  | .at_ b o ds => AtR h b o ds
  | .held hx => H.le hx h
theorem Fact.mono {h h' : H} (hl : H.le h h') {f : Fact} (k : f.holds h) : f.holds h' := by
  cases f with
  | slc v sz rows => exact CR.mono hl k
  | at_ b o ds => exact fun j d hj => let ⟨v, hv, hc⟩ := k j d hj; ⟨v, hl _ _ _ hv, CR.mono hl hc⟩
  | held hx => exact H.le.trans k hl
abbrev Hl := Nat → Option Obj
structure Res where
  p : H → Hl → Prop
  mono : ∀ h h' m, H.le h h' → p h m → p h' m
def one (b : Nat) (O : Obj) : Hl := fun k => if k = b then some O else none
theorem one_self (b : Nat) (O : Obj) : one b O b = some O := by simp [one]
theorem one_some {b k : Nat} {O O' : Obj} (h : one b O k = some O') : k = b ∧ O' = O := by
  unfold one at h; split at h <;> simp_all
def Res.nix : Res := ⟨fun _ m => ∀ k, m k = none, fun _ _ _ _ h => h⟩
def Res.cells (b : Nat) (cs : Array Value) (ty : TypeId) : Res := ⟨fun _ m => m = one b (.cells cs ty (0, 0)), fun _ _ _ _ h => h⟩
def Res.obj (b : Nat) (O : Obj) : Res := ⟨fun _ m => m = one b O, fun _ _ _ _ h => h⟩
structure SatX (B : Nat) (L : List Res) (F : List Fact) (w : World) (h : H) (m : Nat → Hl) : Prop where
  cell : ∀ b o v, h b o = some v → w.cell? ⟨b, o, none⟩ = some v
  fact : ∀ f ∈ F, f.holds h
  res : ∀ (i : Nat) (r : Res), L[i]? = some r → r.p h (m i)
  own : ∀ i b O, i < L.length → m i b = some O → B ≤ b ∧ w.heap[b]? = some O ∧ ∀ o, h b o = none
  apart : ∀ i j b, i < L.length → j < L.length → i ≠ j → m i b = none ∨ m j b = none
structure Sat (W0 : World) (L : List Res) (F : List Fact) (w : World) : Prop where
  below : Below W0.heap.size W0 w
  ex : ∃ h m, SatX W0.heap.size L F w h m
theorem block_lt {w : World} {b : Nat} {O : Obj} (h : w.heap[b]? = some O) : b < w.heap.size := by
  rcases Nat.lt_or_ge b w.heap.size with k | k
  · exact k
  · simp [Array.getElem?_eq_none k] at h
theorem cell_block_lt {w : World} {b o : Nat} {v : Value} (h : w.cell? ⟨b, o, none⟩ = some v) : b < w.heap.size := by
  rcases Nat.lt_or_ge b w.heap.size with k | k
  · exact k
  · simp [World.cell?, Array.getElem?_eq_none k] at h
theorem cell_of_block {w w' : World} {b o : Nat} {v : Value} (hb : w'.heap[b]? = w.heap[b]?) (h : w.cell? ⟨b, o, none⟩ = some v) : w'.cell? ⟨b, o, none⟩ = some v := by
  simpa [World.cell?, hb] using h
structure Step (w w' : World) (m : Hl) : Prop where
  os : w'.os = w.os
  tape : w'.tape = w.tape
  output : w'.output = w.output
  size : w.heap.size ≤ w'.heap.size
  block : ∀ k, k < w.heap.size → m k = none → w'.heap[k]? = w.heap[k]?
theorem Sat.below_of {W0 w w' : World} {m : Hl} (hb : Below W0.heap.size W0 w) (st : Step w w' m) (hm : ∀ b O, m b = some O → W0.heap.size ≤ b) : Below W0.heap.size W0 w' := by
  refine hb.trans ⟨st.os, st.tape, st.output, st.size, fun k hk => st.block k (Nat.lt_of_lt_of_le hk hb.size) ?_⟩
  cases h : m k with
  | none => rfl
  | some O => have := hm k O h; omega
theorem SatX.upd {B : Nat} {L : List Res} {F : List Fact} {w w' : World} {h : H} {m : Nat → Hl} (s : SatX B L F w h m) (hB : B ≤ w.heap.size) {i : Nat} (hi : i < L.length)
    (st : Step w w' (m i)) (r' : Res) (m' : Hl) (hr : r'.p h m') (hm : ∀ b O, m' b = some O → (m i b ≠ none ∨ w.heap.size ≤ b) ∧ w'.heap[b]? = some O) :
    SatX B (L.set i r') F w' h (fun j => if j = i then m' else m j) := by
  refine ⟨?_, s.fact, ?_, ?_, ?_⟩
  · intro b o v hv
    have hc := s.cell b o v hv
    refine cell_of_block (st.block b (cell_block_lt hc) ?_) hc
    cases hmb : m i b with
    | none => rfl
    | some O => have := (s.own i b O hi hmb).2.2 o; simp [this] at hv
  · intro j r hj
    by_cases hji : j = i
    · subst hji
      simp [hi] at hj
      subst hj; simpa using hr
    · have : L[j]? = some r := by rw [List.getElem?_set_ne (by omega)] at hj; exact hj
      simpa [hji] using s.res j r this
  · intro j b O hj hmb
    simp only [List.length_set] at hj
    by_cases hji : j = i
    · subst hji
      simp only [if_true] at hmb
      obtain ⟨h1, h2⟩ := hm b O hmb
      refine ⟨?_, h2, ?_⟩
      · rcases h1 with h1 | h1
        · cases hx : m j b with
          | none => exact absurd hx h1
          | some O' => exact (s.own j b O' hj hx).1
        · omega
      · intro o
        rcases h1 with h1 | h1
        · cases hx : m j b with
          | none => exact absurd hx h1
          | some O' => exact (s.own j b O' hj hx).2.2 o
        · cases hv : h b o with
          | none => rfl
          | some v => have := cell_block_lt (s.cell b o v hv); omega
    · simp only [if_neg hji] at hmb
      obtain ⟨h1, h2, h3⟩ := s.own j b O hj hmb
      refine ⟨h1, ?_, h3⟩
      rw [st.block b (block_lt h2) ?_]
      · exact h2
      · rcases s.apart j i b hj hi hji with k | k
        · simp [k] at hmb
        · exact k
  · intro j k b hj hk hjk
    simp only [List.length_set] at hj hk
    have key : ∀ j, j < L.length → j ≠ i → m' b = none ∨ m j b = none := by
      intro j hj hji
      cases hmb : m' b with
      | none => exact .inl rfl
      | some O =>
        right
        obtain ⟨h1, _⟩ := hm b O hmb
        rcases h1 with h1 | h1
        · rcases s.apart j i b hj hi hji with k | k
          · exact k
          · exact absurd k h1
        · cases hx : m j b with
          | none => rfl
          | some O' => have := block_lt (s.own j b O' hj hx).2.1; omega
    by_cases hji : j = i
    · subst hji
      have hkj : k ≠ j := fun e => hjk e.symm
      simpa [hkj] using key k hk hkj
    · by_cases hki : k = i
      · subst hki
        have := key j hj hji
        simpa [hji] using this.symm
      · simpa [hji, hki] using s.apart j k b hj hk hjk
theorem SatX.add {B : Nat} {L : List Res} {F : List Fact} {w w' : World} {h : H} {m : Nat → Hl} (s : SatX B L F w h m) (hB : B ≤ w.heap.size)
    (st : Step w w' (fun _ => none)) (r' : Res) (m' : Hl) (hr : r'.p h m') (hm : ∀ b O, m' b = some O → w.heap.size ≤ b ∧ w'.heap[b]? = some O) :
    SatX B (r' :: L) F w' h (fun j => match j with | 0 => m' | j + 1 => m j) := by
  have hne : ∀ j, j < L.length → ∀ b, m' b = none ∨ m j b = none := by
    intro j hj b
    cases hmb : m' b with
    | none => exact .inl rfl
    | some O =>
      right
      cases hx : m j b with
      | none => rfl
      | some O' => have := block_lt (s.own j b O' hj hx).2.1; have := (hm b O hmb).1; omega
  refine ⟨?_, s.fact, ?_, ?_, ?_⟩
  · intro b o v hv
    have hc := s.cell b o v hv
    exact cell_of_block (st.block b (cell_block_lt hc) rfl) hc
  · intro j r hj
    cases j with
    | zero => simp at hj; subst hj; exact hr
    | succ j => exact s.res j r (by simpa using hj)
  · intro j b O hj hmb
    cases j with
    | zero =>
      obtain ⟨h1, h2⟩ := hm b O hmb
      refine ⟨by omega, h2, fun o => ?_⟩
      cases hv : h b o with
      | none => rfl
      | some v => have := cell_block_lt (s.cell b o v hv); omega
    | succ j =>
      obtain ⟨h1, h2, h3⟩ := s.own j b O (by simpa using hj) hmb
      exact ⟨h1, by rw [st.block b (block_lt h2) rfl]; exact h2, h3⟩
  · intro j k b hj hk hjk
    cases j with
    | zero =>
      cases k with
      | zero => exact absurd rfl hjk
      | succ k => exact hne k (by simpa using hk) b
    | succ j =>
      cases k with
      | zero => exact (hne j (by simpa using hj) b).symm
      | succ k => exact s.apart j k b (by simpa using hj) (by simpa using hk) (by omega)
theorem SatX.facts {B : Nat} {L : List Res} {F F' : List Fact} {w : World} {h : H} {m : Nat → Hl} (s : SatX B L F w h m) (hf : ∀ f ∈ F', f.holds h) : SatX B L F' w h m :=
  ⟨s.cell, hf, s.res, s.own, s.apart⟩
theorem SatX.give {B : Nat} {L : List Res} {F : List Fact} {w : World} {h : H} {m : Nat → Hl} (s : SatX B L F w h m) {i : Nat} (hi : i < L.length) :
    ∃ h', H.le h h' ∧ (∀ b o v, m i b ≠ none → w.cell? ⟨b, o, none⟩ = some v → h' b o = some v) ∧ SatX B (L.set i Res.nix) F w h' (fun j => if j = i then fun _ => none else m j) := by
  let h' : H := fun b o => if m i b = none then h b o else w.cell? ⟨b, o, none⟩
  have hle : H.le h h' := by
    intro b o v hv
    show (if m i b = none then h b o else w.cell? ⟨b, o, none⟩) = some v
    split
    · exact hv
    · exact s.cell b o v hv
  refine ⟨h', hle, ?_, ?_, ?_, ?_, ?_, ?_⟩
  · intro b o v hb hv
    show (if m i b = none then h b o else w.cell? ⟨b, o, none⟩) = some v
    rw [if_neg hb]; exact hv
  · intro b o v hv
    have hv' : (if m i b = none then h b o else w.cell? ⟨b, o, none⟩) = some v := hv
    split at hv'
    · exact s.cell b o v hv'
    · exact hv'
  · intro f hf; exact Fact.mono hle (s.fact f hf)
  · intro j r hj
    by_cases hji : j = i
    · subst hji
      simp [hi] at hj
      subst hj; simp [Res.nix]
    · have : L[j]? = some r := by rw [List.getElem?_set_ne (by omega)] at hj; exact hj
      simp only [if_neg hji]
      exact r.mono h h' _ hle (s.res j r this)
  · intro j b O hj hmb
    simp only [List.length_set] at hj
    by_cases hji : j = i
    · simp [hji] at hmb
    · simp only [if_neg hji] at hmb
      obtain ⟨h1, h2, h3⟩ := s.own j b O hj hmb
      refine ⟨h1, h2, fun o => ?_⟩
      show (if m i b = none then h b o else w.cell? ⟨b, o, none⟩) = none
      rcases s.apart j i b hj hi hji with k | k
      · simp [k] at hmb
      · rw [if_pos k]; exact h3 o
  · intro j k b hj hk hjk
    simp only [List.length_set] at hj hk
    by_cases hji : j = i
    · simp [hji]
    · by_cases hki : k = i
      · simp [hki]
      · simpa [hji, hki] using s.apart j k b hj hk hjk
def Sub (L : List Res) (F : List Fact) (L' : List Res) (F' : List Fact) : Prop := ∀ W0 w, Sat W0 L F w → Sat W0 L' F' w
theorem Sub.refl (L : List Res) (F : List Fact) : Sub L F L F := fun _ _ h => h
theorem Sub.trans {L L' L'' : List Res} {F F' F'' : List Fact} (h : Sub L F L' F') (k : Sub L' F' L'' F'') : Sub L F L'' F'' := fun _ _ s => k _ _ (h _ _ s)
theorem Sub.facts {L : List Res} {F F' : List Fact} (h : ∀ f ∈ F', f ∈ F) : Sub L F L F' := fun _ _ ⟨hb, hh, m, s⟩ => ⟨hb, hh, m, s.facts fun f hf => s.fact f (h f hf)⟩
theorem Sub.drop {r : Res} {L : List Res} {F : List Fact} : Sub (r :: L) F L F := by
  intro W0 w ⟨hb, h, m, s⟩
  refine ⟨hb, h, fun i => m (i + 1), s.cell, s.fact, fun i r hi => s.res (i + 1) r (by simpa using hi), fun i b O hi => s.own (i + 1) b O (by simpa using hi), fun i j b hi hj hij => s.apart (i + 1) (j + 1) b (by simpa using hi) (by simpa using hj) (by omega)⟩
theorem Sub.pick {L L' : List Res} {F : List Fact} (g : Nat → Nat) (hg : ∀ i j, i < L'.length → j < L'.length → g i = g j → i = j) (h : ∀ (i : Nat) (r : Res), L'[i]? = some r → L[g i]? = some r) : Sub L F L' F := by
  intro W0 w ⟨hb, hh, m, s⟩
  have lt : ∀ i, i < L'.length → g i < L.length := by
    intro i hi
    have := h i _ (List.getElem?_eq_getElem hi)
    rcases Nat.lt_or_ge (g i) L.length with k | k
    · exact k
    · simp [List.getElem?_eq_none k] at this
  exact ⟨hb, hh, fun i => m (g i), s.cell, s.fact, fun i r hi => s.res (g i) r (h i r hi), fun i b O hi => s.own (g i) b O (lt i hi),
    fun i j b hi hj hij => s.apart (g i) (g j) b (lt i hi) (lt j hj) (fun e => hij (hg i j hi hj e))⟩
abbrev Rho := List (Nat × Value)
def look : Rho → Nat → Option Value
  | [], _ => none
  | (k, v) :: r, i => bif Nat.beq k i then some v else look r i
def Slots (n : Nat) (ρ : Rho) (a : Act) : Prop := a.tmps.size = n ∧ a.defers = [] ∧ ∀ (i : Nat) (v : Value), look ρ i = some v → a.tmps[i]? = some v
theorem Slots.put {n : Nat} {ρ : Rho} {a : Act} (h : Slots n ρ a) {d : Nat} (hd : d < n) (v : Value) : Slots n ((d, v) :: ρ) (a.put (some d) v) := by
  obtain ⟨h1, h2, h3⟩ := h
  refine ⟨by simp [Act.put, h1], by simp [Act.put, h2], fun i x hx => ?_⟩
  simp only [look] at hx
  simp only [Act.put]
  cases hb : Nat.beq d i with
  | true =>
    have : d = i := Nat.eq_of_beq_eq_true hb
    subst this
    rw [hb] at hx
    simp at hx
    subst hx
    simp [h1, hd]
  | false =>
    rw [hb] at hx
    have hne : d ≠ i := fun e => by subst e; simp [Nat.beq_refl] at hb
    rw [Array.getElem?_setIfInBounds_ne hne]
    exact h3 i x hx
def ev (ρ : Rho) : Operand → Option Value
  | .tmp t => look ρ t
  | .const v => some v
  | .global g => some (.pointer (some ⟨g, 0, none⟩))
  | .func f => some (.func (.func f) #[] #[])
theorem ev_eval {n : Nat} {ρ : Rho} {a : Act} (h : Slots n ρ a) {x : Operand} {v : Value} (e : ev ρ x = some v) : a.eval x = v := by
  cases x with
  | tmp t =>
    have := h.2.2 t v e
    simp [Act.eval, Array.getD_eq_getD_getElem?, this]
  | const c => simp [ev] at e; simp [Act.eval, e]
  | global g => simp [ev] at e; simp [Act.eval, e]
  | func f => simp [ev] at e; simp [Act.eval, e]
structure St (W0 : World) (n : Nat) (ρ : Rho) (L : List Res) (F : List Fact) (a : Act) (w : World) : Prop where
  slots : Slots n ρ a
  sat : Sat W0 L F w
abbrev Po := Exit → Act → World → Prop
def Wd (ro : Option Nat) : Fence := { Fence.wide with round := ro }
def wd (ds : List Deferred) (a : Act) : Act := { a with defers := ds }
def AC (ro : Option Nat) (ds : List Deferred) (P : Program) (W0 : World) (n : Nat) (c : Code) (Q : Po) (ρ : Rho) (L : List Res) (F : List Fact) : Prop := ∀ a w, St W0 n ρ L F a w → c.wpIn (Wd ro) 0 P Q (wd ds a) w
def AT (W0 : World) (n : Nat) (K : Act → World → Prop) (ρ : Rho) (L : List Res) (F : List Fact) : Prop := ∀ a w, St W0 n ρ L F a w → K a w
def WL (ro : Option Nat) (ds : List Deferred) (P : Program) (ops : Array Oper) (Q : Po) (l : List Oper) (a : Act) (w : World) : Prop := wpListIn (Wd ro) 0 P ops Q l (wd ds a) w
abbrev AL (ro : Option Nat) (ds : List Deferred) (P : Program) (W0 : World) (n : Nat) (ops : Array Oper) (l : List Oper) (Q : Po) (ρ : Rho) (L : List Res) (F : List Fact) : Prop := AT W0 n (WL ro ds P ops Q l) ρ L F
def owR (P : Program) (o : Oper) (a : Act) (K : Act → World → Prop) (Z : Po) : Result Go.Next → Prop
  | .ok (.value v) w' => K (a.put o.dst v) w'
  | .ok .skip w' => K (a.put o.dst undef) w'
  | .ok (.enter f args) w' => Calls P f args w' fun e w'' => (∃ v, e = .returned v ∧ K (a.put o.dst v) w'') ∨ (∃ ch, e = .panicked ch ∧ Z (.panic ch) a w'')
  | .ok (.row r args) w' => Rows P r args w' fun v w'' => K (a.put o.dst v) w''
  | .ok (.round l f tmps assign body) w' => RoundIn Fence.wide 0 P l f tmps assign body w' fun e w'' => ∃ v, e = .returned v ∧ K (a.put o.dst v) w''
  | .halt (.panic v) w' => Z (.panic [{ v, recovered := false }]) a w'
  | _ => False
def ow (P : Program) (o : Oper) (a : Act) (w : World) (K : Act → World → Prop) (Z : Po) : Prop := (∀ c, o.op ≠ .defer c) ∧ owR P o a K Z ((execOp a.eval o).run P w)
def AO (P : Program) (W0 : World) (n : Nat) (K : Act → World → Prop) (o : Oper) (Z : Po) (ρ : Rho) (L : List Res) (F : List Fact) : Prop :=
  ∀ a w, St W0 n ρ L F a w → ow P o a w K Z
def AK (ds : List Deferred) (W0 : World) (n : Nat) (Q : Po) (e : Exit) (ρ : Rho) (L : List Res) (F : List Fact) : Prop := ∀ a w, St W0 n ρ L F a w → Q e (wd ds a) w
def NoQ : Po := fun _ _ _ => False
def Nq (ds : List Deferred) (Q : Po) : Po := fun e a w => Q e (wd ds a) w
def Pz (Q : Po) : Po := fun e _ w => ∀ a, Q e a w
section
variable {P : Program} {W0 : World} {n : Nat} {Q : Po} {ρ : Rho} {L : List Res} {F : List Fact} {ro : Option Nat} {ds : List Deferred}
def SubR (ρ ρ' : Rho) : Prop := ∀ i v, look ρ' i = some v → look ρ i = some v
theorem SubR.refl (ρ : Rho) : SubR ρ ρ := fun _ _ h => h
theorem SubR.nil : SubR ρ [] := fun _ _ h => by simp [look] at h
theorem SubR.cons {i : Nat} {v : Value} {r : Rho} (h : look ρ i = some v) (k : SubR ρ r) : SubR ρ ((i, v) :: r) := by
  intro j x hx
  simp only [look] at hx
  cases hb : Nat.beq i j with
  | true =>
    have : i = j := Nat.eq_of_beq_eq_true hb
    subst this
    rw [hb] at hx; simp at hx; subst hx; exact h
  | false => rw [hb] at hx; exact k j x (by simpa using hx)
theorem St.weak {ρ' : Rho} {L' : List Res} {F' : List Fact} {a : Act} {w : World} (s : St W0 n ρ L F a w) (hr : SubR ρ ρ') (hs : Sub L F L' F') : St W0 n ρ' L' F' a w :=
  ⟨⟨s.slots.1, s.slots.2.1, fun i v h => s.slots.2.2 i v (hr i v h)⟩, hs _ _ s.sat⟩
theorem AC.weak {c : Code} {ρ' : Rho} {L' : List Res} {F' : List Fact} (hr : SubR ρ ρ') (hs : Sub L F L' F') (h : AC ro ds P W0 n c Q ρ' L' F') : AC ro ds P W0 n c Q ρ L F := fun a w s => h a w (s.weak hr hs)
theorem AL.weak {ops : Array Oper} {l : List Oper} {ρ' : Rho} {L' : List Res} {F' : List Fact} (hr : SubR ρ ρ') (hs : Sub L F L' F') (h : AL ro ds P W0 n ops l Q ρ' L' F') : AL ro ds P W0 n ops l Q ρ L F := fun a w s => h a w (s.weak hr hs)
theorem AK.weak {e : Exit} {ρ' : Rho} {L' : List Res} {F' : List Fact} (hr : SubR ρ ρ') (hs : Sub L F L' F') (h : AK ds W0 n Q e ρ' L' F') : AK ds W0 n Q e ρ L F := fun a w s => h a w (s.weak hr hs)
theorem callsW {n : Nat} {f : FuncId} {args : Array Value} {w : World} {R : Ending → World → Prop} : CallsIn (Wd ro) n P f args w R ↔ Calls P f args w R := callsIn_wide (n := n)
theorem rowsW {n : Nat} {row : String} {args : Array Value} {w : World} {R : Value → World → Prop} (h : Rows P row args w R) : RowsIn (Wd ro) n P row args w R := fun c cs _ => let ⟨v, w', r, s⟩ := h c cs; ⟨v, w', r, stepsIn_wide.2 s⟩
theorem put_wd (a : Act) (d : Option Tmp) (v : Value) : (wd ds a).put d v = wd ds (a.put d v) := by cases d <;> rfl
theorem owR_up {o : Oper} {a : Act} {K : Act → World → Prop} {Z : Po} {r : Result Go.Next} (h : owR P o a K NoQ r) : owR P o a K Z r := by
  cases r with
  | ok x w' =>
    cases x with
    | enter f args => exact Calls.mono h fun e w'' h => h.imp id (fun ⟨_, _, h⟩ => h.elim)
    | value v => exact h
    | skip => exact h
    | row r args => exact h
    | round l f tmps assign body => exact h
    | _ => exact h.elim
  | halt x w' => cases x <;> exact False.elim h
theorem ow_in' {o : Oper} {a : Act} {w : World} {K K' : Act → World → Prop} {Q Z : Po} (hK : ∀ x w', K (a.put o.dst x) w' → K' (wd ds (a.put o.dst x)) w') (hZ : ∀ ch w', Z (.panic ch) a w' → Q (.panic ch) (wd ds a) w') (h : ow P o a w K Z) : o.wpIn (Wd ro) 0 P (wd ds a) w K' Q := by
  refine ⟨fun _ _ => trivial, ?_⟩
  rw [Oper.semAt_eq _ _ _ h.1]
  have h2 := h.2
  change o.uponIn (Wd ro) 0 P (wd ds a) K' Q ((execOp a.eval o).run P w)
  revert h2
  generalize (execOp a.eval o).run P w = r
  intro h2
  cases r with
  | ok x w' =>
    cases x with
    | value v => simp only [owR] at h2; simp only [Oper.uponIn, put_wd]; exact hK _ _ h2
    | skip => simp only [owR] at h2; simp only [Oper.uponIn, put_wd]; exact hK _ _ h2
    | enter f args =>
      simp only [owR] at h2
      refine ⟨(fun e => by cases e), callsW.2 (Calls.mono h2 fun e w'' he => ?_)⟩
      rcases he with ⟨v, rfl, hk⟩ | ⟨ch, rfl, hz⟩
      · simp only [put_wd]; exact hK _ _ hk
      · exact hZ _ _ hz
    | row r args =>
      simp only [owR] at h2
      exact ⟨(fun e => by cases e), rowsW (Rows.mono h2 fun v w'' he => by rw [put_wd]; exact hK _ _ he)⟩
    | round l f tmps assign body =>
      simp only [owR] at h2
      refine ⟨(fun e => by cases e), RoundIn.mono (F := Wd ro) h2 fun e w'' he => ?_⟩
      obtain ⟨v, rfl, hk⟩ := he
      simp only [put_wd]; exact hK _ _ hk
    | _ => exact h2.elim
  | halt x w' =>
    cases x with
    | panic v => exact hZ _ _ h2
    | _ => exact False.elim h2
theorem ow_in {o : Oper} {a : Act} {w : World} {l : List Oper} {ops : Array Oper} {Q : Po} (h : ow P o a w (WL ro ds P ops Q l) (fun e a w => Q e (wd ds a) w)) : o.wpIn (Wd ro) 0 P (wd ds a) w (wpListIn (Wd ro) 0 P ops Q l) Q :=
  ow_in' (fun _ _ h => h) (fun _ _ h => h) h
theorem ow_noZ {o : Oper} {a : Act} {w : World} {K : Act → World → Prop} {Z : Po} (h : ow P o a w K NoQ) : ow P o a w K Z := ⟨h.1, owR_up h.2⟩
theorem owR_mono {o : Oper} {a : Act} {K K' : Act → World → Prop} {Z : Po} {r : Result Go.Next} (hk : ∀ a w, K a w → K' a w) (h : owR P o a K Z r) : owR P o a K' Z r := by
  cases r with
  | ok x w' =>
    cases x with
    | value v => exact hk _ _ h
    | skip => exact hk _ _ h
    | enter f args => exact Calls.mono h fun e w'' h => h.imp (fun ⟨v, he, h⟩ => ⟨v, he, hk _ _ h⟩) id
    | row r args => exact Rows.mono h fun v w'' h => hk _ _ h
    | round l f tmps assign body => exact RoundIn.mono h fun e w'' ⟨v, he, h⟩ => ⟨v, he, hk _ _ h⟩
    | _ => exact h.elim
  | halt x w' =>
    cases x with
    | panic v => exact h
    | _ => exact False.elim h
theorem not_defer {ev : Operand → Value} {o : Oper} {x : Next} {w w' : World} (h : (execOp ev o).run P w = .ok x w') (hx : ∀ d, x ≠ .defer d) : ∀ c, o.op ≠ .defer c := by
  intro c hc
  simp only [execOp, hc, Sem.run_bind] at h
  cases hr : (resolve ev c o.type).run P w with
  | ok d w2 => rw [hr] at h; simp only [Result.andThen, Sem.run_pure] at h; injection h with h1 h2; exact hx d h1.symm
  | halt y w2 => rw [hr] at h; simp only [Result.andThen] at h; cases h
theorem AC.skip (h : AK ds W0 n Q .normal ρ L F) : AC ro ds P W0 n .skip Q ρ L F := fun a w s => wpIn_skip (h a w s)
theorem AC.exit {id : Nat} (h : AK ds W0 n Q (.exit id) ρ L F) : AC ro ds P W0 n (.exit id) Q ρ L F := fun a w s => wpIn_exit (h a w s)
theorem AC.ret (h : AK ds W0 n Q .ret ρ L F) : AC ro ds P W0 n .ret Q ρ L F := fun a w s => wpIn_ret (h a w s)
theorem AC.label {l : Nat} (h : AK ds W0 n Q .normal ρ L F) : AC ro ds P W0 n (.label l) Q ρ L F := fun a w s => wpIn_label (h a w s)
theorem AC.seq {x y : Code} (h : AC ro ds P W0 n x (Exit.then (y.wpIn (Wd ro) 0 P Q) Q) ρ L F) : AC ro ds P W0 n (.seq x y) Q ρ L F := fun a w s => wpIn_seq (h a w s)
theorem AC.block {id : Nat} {c : Code} (h : AC ro ds P W0 n c (Exit.inBlock id Q) ρ L F) : AC ro ds P W0 n (.block id c) Q ρ L F := fun a w s => wpIn_block (h a w s)
theorem AC.condT {c : Operand} {x y : Code} (hc : ev ρ c = some (.bool true)) (h : AC ro ds P W0 n x Q ρ L F) : AC ro ds P W0 n (.cond c x y) Q ρ L F :=
  fun a w s => wpIn_cond_true (ev_eval s.slots hc) (h a w s)
theorem AC.condF {c : Operand} {x y : Code} (hc : ev ρ c = some (.bool false)) (h : AC ro ds P W0 n y Q ρ L F) : AC ro ds P W0 n (.cond c x y) Q ρ L F :=
  fun a w s => wpIn_cond_false (ev_eval s.slots hc) (h a w s)
theorem AC.cond {c : Operand} {x y : Code} {t : Bool} (hc : ev ρ c = some (.bool t)) (ht : t = true → AC ro ds P W0 n x Q ρ L F) (hf : t = false → AC ro ds P W0 n y Q ρ L F) : AC ro ds P W0 n (.cond c x y) Q ρ L F :=
  fun a w s => wpIn_cond_split (ev_eval s.slots hc) (fun e => ht e a w s) (fun e => hf e a w s)
theorem AC.region {id : Nat} {l : List Oper} (h : AL ro ds P W0 n l.toArray l Q ρ L F) : AC ro ds P W0 n (.region id l.toArray false) Q ρ L F := fun a w s => wpIn_region_lit (h a w s)
theorem AL.nil {ops : Array Oper} (h : AK ds W0 n Q .normal ρ L F) : AL ro ds P W0 n ops [] Q ρ L F := fun a w s => wpListIn_nil (h a w s)
theorem AK.seqN {y : Code} {Q : Po} (h : AC ro ds P W0 n y Q ρ L F) : AK ds W0 n (Exit.then (y.wpIn (Wd ro) 0 P Q) Q) .normal ρ L F := h
theorem AK.seqX {K : Act → World → Prop} {id : Nat} (h : AK ds W0 n Q (.exit id) ρ L F) : AK ds W0 n (Exit.then K Q) (.exit id) ρ L F := h
theorem AK.seqR {K : Act → World → Prop} (h : AK ds W0 n Q .ret ρ L F) : AK ds W0 n (Exit.then K Q) .ret ρ L F := h
theorem AK.blkN {id : Nat} (h : AK ds W0 n Q .normal ρ L F) : AK ds W0 n (Exit.inBlock id Q) .normal ρ L F := h
theorem AK.blkR {id : Nat} (h : AK ds W0 n Q .ret ρ L F) : AK ds W0 n (Exit.inBlock id Q) .ret ρ L F := h
theorem AK.blkX {id : Nat} (h : AK ds W0 n Q .normal ρ L F) : AK ds W0 n (Exit.inBlock id Q) (.exit id) ρ L F := fun a w s => by simpa [Exit.inBlock] using h a w s
theorem AK.blkY {id id' : Nat} (hne : Nat.beq id' id = false) (h : AK ds W0 n Q (.exit id') ρ L F) : AK ds W0 n (Exit.inBlock id Q) (.exit id') ρ L F := fun a w s => by
  have : id' ≠ id := fun e => by subst e; simp [Nat.beq_refl] at hne
  simpa [Exit.inBlock, this] using h a w s
def Next (ds : List Deferred) (W0 : World) (n : Nat) {ι : Type} (I : ι → Prop) (S : ι → Rho) (SL : ι → List Res) (SF : ι → List Fact) (μ : ι → Nat) (i : ι) : Act → World → Prop :=
  fun a w => ∃ j, I j ∧ μ j < μ i ∧ ∃ a0, a = wd ds a0 ∧ St W0 n (S j) (SL j) (SF j) a0 w
theorem AC.loop {ι : Type} {c : Code} (I : ι → Prop) (S : ι → Rho) (SL : ι → List Res) (SF : ι → List Fact) (μ : ι → Nat) (i0 : ι) (hI : I i0)
    (hr : SubR ρ (S i0)) (hs : Sub L F (SL i0) (SF i0))
    (round : ∀ i, I i → AC ro ds P W0 n c (Exit.then (Next ds W0 n I S SL SF μ i) Q) (S i) (SL i) (SF i)) : AC ro ds P W0 n (.loop c) Q ρ L F := by
  intro a w s
  have h0 := s.weak hr hs
  clear hr hs s
  intro b k cs hro hb hrm
  have key : ∀ N i a w, μ i = N → I i → St W0 n (S i) (SL i) (SF i) a w →
      ∃ e a' w', Q e a' w' ∧ ArrivesIn (Machine.fenced P (Wd ro)) P (lone (b.atR (wd ds a) (.code c :: .inLoop c :: k)) cs w) b k cs e a' w' := by
    intro N
    induction N using Nat.strongRecOn with
    | _ N ih =>
      intro i a w hn hi hI
      obtain ⟨e, a₁, w₁, hq, harr⟩ := round i hi a w hI b (.inLoop c :: k) cs hro hb hrm
      cases e with
      | normal =>
        obtain ⟨j, hj, hlt, a₁, rfl, hI₁⟩ := hq
        obtain ⟨e₂, a₂, w₂, hq₂, harr₂⟩ := ih (μ j) (hn ▸ hlt) j a₁ w₁ rfl hj hI₁
        exact ⟨e₂, a₂, w₂, hq₂, .of_steps (StepsIn.trans harr (.one (fenced_calm hb hrm rfl) stepR_inLoop)) harr₂⟩
      | exit id => exact ⟨_, a₁, w₁, hq, .pass (x := .inLoop c) rfl (fun _ _ => .inl (by simp)) harr⟩
      | goto l => exact ⟨_, a₁, w₁, hq, .pass (x := .inLoop c) rfl (fun _ _ => .inl (by simp)) harr⟩
      | ret => exact ⟨_, a₁, w₁, hq, .pass (x := .inLoop c) rfl (fun _ _ => .inl (by simp)) harr⟩
      | panic ch => exact ⟨_, a₁, w₁, hq, .pass (x := .inLoop c) rfl (fun _ _ => .inl (by simp)) harr⟩
      | outgrown => exact ⟨_, a₁, w₁, hq, .pass (x := .inLoop c) rfl (fun _ _ => .inl (by simp)) harr⟩
  obtain ⟨e, a', w', hq, harr⟩ := key _ i0 a w rfl hI h0
  exact ⟨e, a', w', hq, .of_steps (.one (fenced_calm hb hrm rfl) stepR_loop) harr⟩
theorem AK.next {ι : Type} {I : ι → Prop} {S : ι → Rho} {SL : ι → List Res} {SF : ι → List Fact} {μ : ι → Nat} {i : ι} (j : ι) (hI : I j) (hlt : μ j < μ i) (hr : SubR ρ (S j)) (hs : Sub L F (SL j) (SF j)) :
    AK ds W0 n (Exit.then (Next ds W0 n I S SL SF μ i) Q) .normal ρ L F := fun _ _ s => ⟨j, hI, hlt, _, rfl, s.weak hr hs⟩
end
end Go.Sy
namespace Go.Sy
abbrev Ga := @Sub.refl
abbrev Gc := @Sub.facts
abbrev Ge := @Sub.trans
abbrev Gf := @Sub.drop
abbrev GK := @ev_eval
abbrev GX := @AK.next
abbrev Hj := @AC.loop
abbrev HO := @not_defer
end Go.Sy
namespace Go.Sy
open Go Go.RowKit
abbrev S (l : List UInt8) : Value := .string ⟨l.toArray⟩
class AgT (P : Program) (t : TypeId) (k : outParam Nat) : Prop where
  agg : ∀ w, (isAgg t).run P w = .ok true w
  size : ∀ w, (sizeOf t).run P w = .ok k w
class ScT (P : Program) (t : TypeId) : Prop where
  agg : ∀ w, (isAgg t).run P w = .ok false w
  size : ∀ w, (sizeOf t).run P w = .ok 1 w
class ZeT (P : Program) (t : TypeId) (z : outParam Value) : Prop where
  zero : ∀ w, (zeroValue t).run P w = .ok z w
class SlT (P : Program) (t : TypeId) (e : outParam TypeId) (sz bytes : outParam Nat) : Prop where
  und : P.underlying t = some (.slice e)
  info : ∃ (i : TypeInfo) (z : Value), P.info? e = some i ∧ i.size = sz ∧ i.bytes = bytes ∧ i.zero = some z ∧ z.cells.size = sz
  pos : 0 < sz
class StT (P : Program) (t : TypeId) : Prop where
  und : P.underlying t = some .string
class FdT (P : Program) (t : TypeId) (i : Nat) (off : outParam Nat) : Prop where
  run : ∀ (a : Addr) w, (Instr.fieldAt t (.pointer (some a)) i).run P w = .ok (.pointer (some (a.add off))) w
class FnT (P : Program) (f : FuncId) : Prop where
  call : ∀ args w, (callFunc f args).run P w = .ok (.enter f args) w
theorem AgT.of {P : Program} {t : TypeId} {k : Nat} {fs : Array Field} (h : P.underlying t = some (.struct fs)) (hs : (P.info? t).map (·.size) = some k) : AgT P t k := by
  refine ⟨fun w => by simp [isAgg, run_underlying h], fun w => ?_⟩
  cases hi : P.info? t with
  | none => simp [hi] at hs
  | some i => simp [hi] at hs; simp [sizeOf, typeInfo, hi, hs]
theorem ScT.of {P : Program} {t : TypeId} {d : TypeDesc} (h : P.underlying t = some d) (hd : (match d with | .struct _ | .array _ _ => true | _ => false) = false) (hs : (P.info? t).map (·.size) = some 1) : ScT P t := by
  refine ⟨fun w => ?_, fun w => ?_⟩
  · cases d <;> simp_all [isAgg, run_underlying h]
  · cases hi : P.info? t with
    | none => simp [hi] at hs
    | some i => simp [hi] at hs; simp [sizeOf, typeInfo, hi, hs]
theorem ZeT.of {P : Program} {t : TypeId} {z : Value} (h : (P.info? t).bind (·.zero) = some z) : ZeT P t z := by
  refine ⟨fun w => ?_⟩
  cases hi : P.info? t with
  | none => simp [hi] at h
  | some i => simp [hi] at h; simp [zeroValue, typeInfo, hi, h]
theorem SlT.of {P : Program} {t e : TypeId} {sz bytes : Nat} (h : P.underlying t = some (.slice e)) (hs : (P.info? e).map (fun i => (i.size, i.bytes, i.zero.map (·.cells.size))) = some (sz, bytes, some sz)) (hp : Nat.blt 0 sz = true) : SlT P t e sz bytes := by
  refine ⟨h, ?_, Nat.le_of_ble_eq_true hp⟩
  cases hi : P.info? e with
  | none => simp [hi] at hs
  | some i =>
    simp [hi] at hs
    obtain ⟨h1, h2, z, h3, h4⟩ := hs
    exact ⟨i, z, rfl, h1, h2, h3, h4⟩
theorem FdT.of {P : Program} {t : TypeId} {i off : Nat} {fs : Array Field} {f : Field} {k : Nat} (h : P.underlying t = some (.struct fs)) (hf : fs[i]? = some f) (ho : f.offset = off) (hs : (P.info? f.type).map (·.size) = some k) (hk : Nat.beq k 0 = false) : FdT P t i off := by
  subst ho
  refine ⟨fun a w => ?_⟩
  have hk' : k ≠ 0 := fun e => by subst e; simp [Nat.beq] at hk
  cases hi : P.info? f.type with
  | none => simp [hi] at hs
  | some j => simp [hi] at hs; simp [Instr.fieldAt, run_underlying h, hf, Instr.sureAddr, fieldPlace, sizeOf, typeInfo, hi, hs, hk']
theorem FnT.of {P : Program} {f : FuncId} {fn : Func} (h : P.funcs[f]? = some fn) (hn : (fn.name == "runtime.NumGoroutine") = false) (hb : fn.body.isNone = false) : FnT P f := by
  refine ⟨fun args w => ?_⟩
  have hn' : fn.name ≠ "runtime.NumGoroutine" := by simpa using hn
  have hb' : fn.body ≠ none := fun e => by simp [e] at hb
  simp [callFunc, h, hn', hb']
theorem has0 {r : Res} {L : List Res} : (r :: L)[0]? = some r := rfl
theorem hasS {r r' : Res} {L : List Res} {i : Nat} (h : L[i]? = some r) : (r' :: L)[i + 1]? = some r := by simpa using h
theorem mem0 {f : Fact} {F : List Fact} : f ∈ f :: F := List.Mem.head _
theorem memS {f f' : Fact} {F : List Fact} (h : f ∈ F) : f ∈ f' :: F := List.Mem.tail _ h
section
variable {P : Program} {W0 : World} {n : Nat} {Q : Po} {ρ : Rho} {L : List Res} {F : List Fact} {ops : Array Oper} {l : List Oper} {K : Act → World → Prop} {ro : Option Nat} {ds : List Deferred}
variable {d : Tmp} {ty t : TypeId} {pos : String} {af : Array Edge} {g : Option (Nat × Bool)}
theorem AL.goX {dd : Option Tmp} {op : Op} (h : AO P W0 n (WL ro ds P ops Q l) ⟨dd, op, ty, pos, af, none⟩ (fun e a w => Q e (wd ds a) w) ρ L F) : AL ro ds P W0 n ops (⟨dd, op, ty, pos, af, none⟩ :: l) Q ρ L F := by
  intro a w s
  have hw : Region.wanted (⟨dd, op, ty, pos, af, none⟩ : Oper) (yielded ops (wd ds a).tmps) = true := rfl
  unfold WL wpListIn
  rw [if_pos hw]
  exact ow_in (h a w s)
theorem AL.go {dd : Option Tmp} {op : Op} (h : AO P W0 n (WL ro ds P ops Q l) ⟨dd, op, ty, pos, af, none⟩ NoQ ρ L F) : AL ro ds P W0 n ops (⟨dd, op, ty, pos, af, none⟩ :: l) Q ρ L F := by
  intro a w s
  have hw : Region.wanted (⟨dd, op, ty, pos, af, none⟩ : Oper) (yielded ops (wd ds a).tmps) = true := rfl
  unfold WL wpListIn
  rw [if_pos hw]
  exact ow_in (ow_noZ (h a w s))
theorem yielded_of {ρ : Rho} {a : Act} (h : Slots n ρ a) {j dj : Nat} {b : Bool} (hj : (ops[j]?).bind (·.dst) = some dj) (hv : look ρ dj = some (.bool b)) : yielded ops a.tmps j = some b := by
  simp [yielded, hj, h.2.2 _ _ hv]
theorem AL.yes {dd : Option Tmp} {op : Op} {j : Nat} {b : Bool} {dj : Nat} (hj : (ops[j]?).bind (·.dst) = some dj) (hv : look ρ dj = some (.bool b))
    (h : AO P W0 n (WL ro ds P ops Q l) ⟨dd, op, ty, pos, af, some (j, b)⟩ NoQ ρ L F) : AL ro ds P W0 n ops (⟨dd, op, ty, pos, af, some (j, b)⟩ :: l) Q ρ L F := by
  intro a w s
  have hw : Region.wanted (⟨dd, op, ty, pos, af, some (j, b)⟩ : Oper) (yielded ops (wd ds a).tmps) = true := by
    show Region.wanted (⟨dd, op, ty, pos, af, some (j, b)⟩ : Oper) (yielded ops a.tmps) = true
    simp [Region.wanted, yielded_of s.slots hj hv]
  unfold WL wpListIn
  rw [if_pos hw]
  exact ow_in (ow_noZ (h a w s))
def nobool : Value → Bool → Bool
  | .bool c, b => c != b
  | _, _ => true
theorem AL.no {op : Op} {j : Nat} {b : Bool} {dj : Nat} {v : Value} (hj : (ops[j]?).bind (·.dst) = some dj) (hv : look ρ dj = some v) (hne : nobool v b = true) (hd : Nat.blt d n = true)
    (h : AL ro ds P W0 n ops l Q ((d, undef) :: ρ) L F) : AL ro ds P W0 n ops (⟨some d, op, ty, pos, af, some (j, b)⟩ :: l) Q ρ L F := by
  intro a w s
  have hw : Region.wanted (⟨some d, op, ty, pos, af, some (j, b)⟩ : Oper) (yielded ops (wd ds a).tmps) = false := by
    show Region.wanted (⟨some d, op, ty, pos, af, some (j, b)⟩ : Oper) (yielded ops a.tmps) = false
    have := s.slots.2.2 _ _ hv
    cases v <;> simp_all [Region.wanted, yielded, nobool]
  unfold WL wpListIn
  rw [if_neg (by rw [hw]; decide)]
  exact ⟨fun _ _ => trivial, h (a.put _ _) _ ⟨s.slots.put (Nat.le_of_ble_eq_true hd) _, s.sat⟩⟩
theorem AO.val {op : Op} {v : Value} (hd : Nat.blt d n = true) (hr : ∀ a w, St W0 n ρ L F a w → (execOp a.eval ⟨some d, op, ty, pos, af, g⟩).run P w = .ok (.value v) w)
    (h : AT W0 n K ((d, v) :: ρ) L F) : AO P W0 n K ⟨some d, op, ty, pos, af, g⟩ Q ρ L F := by
  intro a w s
  refine ⟨not_defer (hr a w s) (fun _ e => by cases e), ?_⟩
  simp only [hr a w s, owR]
  exact h _ _ ⟨s.slots.put (Nat.le_of_ble_eq_true hd) _, s.sat⟩
theorem AO.move {x : Operand} {v : Value} (hx : ev ρ x = some v) (hd : Nat.blt d n = true) (h : AT W0 n K ((d, v) :: ρ) L F) : AO P W0 n K ⟨some d, .move x, ty, pos, af, g⟩ Q ρ L F :=
  AO.val hd (fun a w s => by simp [execOp, ev_eval s.slots hx]) h
theorem AO.assign {x : Operand} {v : Value} (hx : ev ρ x = some v) (hd : Nat.blt d n = true) (h : AT W0 n K ((d, v) :: ρ) L F) : AO P W0 n K ⟨some d, .assign x, ty, pos, af, g⟩ Q ρ L F :=
  AO.val hd (fun a w s => by simp [execOp, ev_eval s.slots hx]) h
theorem AO.pickT {c x y : Operand} {v : Value} (hc : ev ρ c = some (.bool true)) (hx : ev ρ x = some v) (hd : Nat.blt d n = true) (h : AT W0 n K ((d, v) :: ρ) L F) : AO P W0 n K ⟨some d, .pick c x y, ty, pos, af, g⟩ Q ρ L F :=
  AO.val hd (fun a w s => by simp [execOp, ev_eval s.slots hc, ev_eval s.slots hx, asBool]) h
theorem AO.pickF {c x y : Operand} {v : Value} (hc : ev ρ c = some (.bool false)) (hy : ev ρ y = some v) (hd : Nat.blt d n = true) (h : AT W0 n K ((d, v) :: ρ) L F) : AO P W0 n K ⟨some d, .pick c x y, ty, pos, af, g⟩ Q ρ L F :=
  AO.val hd (fun a w s => by simp [execOp, ev_eval s.slots hc, ev_eval s.slots hy, asBool]) h
theorem AO.not {x : Operand} {b : Bool} (hx : ev ρ x = some (.bool b)) (hd : Nat.blt d n = true) (h : AT W0 n K ((d, .bool (!b)) :: ρ) L F) : AO P W0 n K ⟨some d, .unOp .not t x, ty, pos, af, g⟩ Q ρ L F :=
  AO.val hd (fun a w s => by simp [execOp, ev_eval s.slots hx, Op.unary]) h
theorem AO.extract {x : Operand} {i : Nat} {vs : Array Value} {v : Value} (hx : ev ρ x = some (.tuple vs)) (hv : vs[i]? = some v) (hd : Nat.blt d n = true) (h : AT W0 n K ((d, v) :: ρ) L F) : AO P W0 n K ⟨some d, .extract x i, ty, pos, af, g⟩ Q ρ L F :=
  AO.val hd (fun a w s => by simp [execOp, ev_eval s.slots hx, Instr.extract, hv]) h
theorem AO.nilCheckP {x : Operand} {p : Addr} (hx : ev ρ x = some (.pointer (some p))) (hd : Nat.blt d n = true) (h : AT W0 n K ((d, .pointer (some p)) :: ρ) L F) : AO P W0 n K ⟨some d, .nilCheck x, ty, pos, af, g⟩ Q ρ L F :=
  AO.val hd (fun a w s => by simp [execOp, ev_eval s.slots hx]) h
section
variable {x y : Operand} {yt : TypeId} {a b : Int} {k : IntKind}
theorem wrap_i64 {c : Int} (h1 : -9223372036854775808 ≤ c) (h2 : c ≤ 9223372036854775807) : IntKind.i64.wrap c = c := IntWalk.i64_in _ ⟨h1, h2⟩
theorem AO.add (hx : ev ρ x = some (.int .i64 a)) (hy : ev ρ y = some (.int .i64 b)) (hd : Nat.blt d n = true) (h1 : -9223372036854775808 ≤ a + b) (h2 : a + b ≤ 9223372036854775807)
    (h : AT W0 n K ((d, .int .i64 (a + b)) :: ρ) L F) : AO P W0 n K ⟨some d, .binOp .add t x y yt, ty, pos, af, g⟩ Q ρ L F :=
  AO.val hd (fun s w st => by simp [execOp, ev_eval st.slots hx, ev_eval st.slots hy, eqGuard_add, binOp_add, Op.intArith, wrap_i64 h1 h2]) h
theorem AO.sub (hx : ev ρ x = some (.int .i64 a)) (hy : ev ρ y = some (.int .i64 b)) (hd : Nat.blt d n = true) (h1 : -9223372036854775808 ≤ a - b) (h2 : a - b ≤ 9223372036854775807)
    (h : AT W0 n K ((d, .int .i64 (a - b)) :: ρ) L F) : AO P W0 n K ⟨some d, .binOp .sub t x y yt, ty, pos, af, g⟩ Q ρ L F :=
  AO.val hd (fun s w st => by simp [execOp, ev_eval st.slots hx, ev_eval st.slots hy, eqGuard_sub, binOp_sub, Op.intArith, wrap_i64 h1 h2]) h
theorem AO.cmp {op : BinOp} {c : Bool} (hd : Nat.blt d n = true) (hr : ∀ s w, St W0 n ρ L F s w → (execOp s.eval ⟨some d, .binOp op t x y yt, ty, pos, af, g⟩).run P w = .ok (.value (.bool c)) w)
    (ht : c = true → AT W0 n K ((d, .bool true) :: ρ) L F) (hf : c = false → AT W0 n K ((d, .bool false) :: ρ) L F) : AO P W0 n K ⟨some d, .binOp op t x y yt, ty, pos, af, g⟩ Q ρ L F := by
  cases c
  · exact AO.val hd hr (hf rfl)
  · exact AO.val hd hr (ht rfl)
theorem AO.eql (hx : ev ρ x = some (.int k a)) (hy : ev ρ y = some (.int k b)) (hd : Nat.blt d n = true) (ht : a = b → AT W0 n K ((d, .bool true) :: ρ) L F) (hf : a ≠ b → AT W0 n K ((d, .bool false) :: ρ) L F) :
    AO P W0 n K ⟨some d, .binOp .eql t x y yt, ty, pos, af, g⟩ Q ρ L F :=
  AO.cmp (c := a == b) hd (fun s w st => by simp [execOp, ev_eval st.slots hx, ev_eval st.slots hy, eqGuard_at_int, binOp_eql]) (fun e => ht (by simpa using e)) (fun e => hf (by simpa using e))
theorem AO.neq (hx : ev ρ x = some (.int k a)) (hy : ev ρ y = some (.int k b)) (hd : Nat.blt d n = true) (ht : a ≠ b → AT W0 n K ((d, .bool true) :: ρ) L F) (hf : a = b → AT W0 n K ((d, .bool false) :: ρ) L F) :
    AO P W0 n K ⟨some d, .binOp .neq t x y yt, ty, pos, af, g⟩ Q ρ L F :=
  AO.cmp (c := a != b) hd (fun s w st => by simp [execOp, ev_eval st.slots hx, ev_eval st.slots hy, eqGuard_at_int, binOp_neq]) (fun e => ht (by simpa using e)) (fun e => hf (by simpa using e))
theorem AO.lss (hx : ev ρ x = some (.int k a)) (hy : ev ρ y = some (.int k b)) (hd : Nat.blt d n = true) (ht : a < b → AT W0 n K ((d, .bool true) :: ρ) L F) (hf : b ≤ a → AT W0 n K ((d, .bool false) :: ρ) L F) :
    AO P W0 n K ⟨some d, .binOp .lss t x y yt, ty, pos, af, g⟩ Q ρ L F :=
  AO.cmp (c := decide (a < b)) hd (fun s w st => by simp [execOp, ev_eval st.slots hx, ev_eval st.slots hy, eqGuard_at_int, binOp_lss]) (fun e => ht (by simpa using e)) (fun e => hf (by simpa using e))
theorem AO.leq (hx : ev ρ x = some (.int k a)) (hy : ev ρ y = some (.int k b)) (hd : Nat.blt d n = true) (ht : a ≤ b → AT W0 n K ((d, .bool true) :: ρ) L F) (hf : b < a → AT W0 n K ((d, .bool false) :: ρ) L F) :
    AO P W0 n K ⟨some d, .binOp .leq t x y yt, ty, pos, af, g⟩ Q ρ L F :=
  AO.cmp (c := decide (a ≤ b)) hd (fun s w st => by simp [execOp, ev_eval st.slots hx, ev_eval st.slots hy, eqGuard_at_int, binOp_leq]) (fun e => ht (by simpa using e)) (fun e => hf (by simpa using e))
theorem AO.gtr (hx : ev ρ x = some (.int k a)) (hy : ev ρ y = some (.int k b)) (hd : Nat.blt d n = true) (ht : b < a → AT W0 n K ((d, .bool true) :: ρ) L F) (hf : a ≤ b → AT W0 n K ((d, .bool false) :: ρ) L F) :
    AO P W0 n K ⟨some d, .binOp .gtr t x y yt, ty, pos, af, g⟩ Q ρ L F :=
  AO.cmp (c := decide (b < a)) hd (fun s w st => by simp [execOp, ev_eval st.slots hx, ev_eval st.slots hy, eqGuard_at_int, binOp_gtr]) (fun e => ht (by simpa using e)) (fun e => hf (by simpa using e))
theorem AO.geq (hx : ev ρ x = some (.int k a)) (hy : ev ρ y = some (.int k b)) (hd : Nat.blt d n = true) (ht : b ≤ a → AT W0 n K ((d, .bool true) :: ρ) L F) (hf : a < b → AT W0 n K ((d, .bool false) :: ρ) L F) :
    AO P W0 n K ⟨some d, .binOp .geq t x y yt, ty, pos, af, g⟩ Q ρ L F :=
  AO.cmp (c := decide (b ≤ a)) hd (fun s w st => by simp [execOp, ev_eval st.slots hx, ev_eval st.slots hy, eqGuard_at_int, binOp_geq]) (fun e => ht (by simpa using e)) (fun e => hf (by simpa using e))
end
end
end Go.Sy
namespace Go.Sy
abbrev Gb := @AL.go
abbrev Gl := @AL.goX
abbrev Gr := @AL.yes
abbrev Gu := @AO.nilCheckP
abbrev GA := @AO.eql
abbrev Hq := @AO.lss
abbrev Hw := @AO.neq
abbrev HG := @AO.val
end Go.Sy
