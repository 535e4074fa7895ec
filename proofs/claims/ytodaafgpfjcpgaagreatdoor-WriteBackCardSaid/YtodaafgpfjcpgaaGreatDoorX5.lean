/- Joined of my own texts: FwM. -/
import Derived.Test.YtodaafgpfjcpgaaGreatDoorX4
import Derived.Laws.StructEq
namespace Go.Sy
open Go Go.RowKit
class KyT (P : Program) (k : TypeId) {κ : Type} (kenc : κ → Value) : Prop where
  check : ∀ (em : Bool) (x : κ) w, (Instr.checkKey em 10000 k (kenc x)).run P w = .ok () w
  inj : ∀ x y, kenc x = kenc y → x = y
  find : ∀ (x : κ) (es : List MapEntry) w, (∀ e ∈ es, ∃ y, e.key = kenc y) →
    ((Instr.findKey k (kenc x) es).run P w = .ok none w ∧ ∀ e ∈ es, e.key ≠ kenc x) ∨ ∃ j e, (Instr.findKey k (kenc x) es).run P w = .ok (some (j, e.val)) w ∧ es[j]? = some e ∧ e.key = kenc x
  stays : ∀ x w, (Instr.keyThatStays (kenc x) (kenc x)).run P w = .ok (kenc x) w
theorem findNow_of {κ : Type} {kenc : κ → Value} {d : TypeDesc} (hd : ∀ x y, ∃ b, Instr.sameNow d (kenc x) (kenc y) = some b ∧ (b = true ↔ x = y)) (hinj : ∀ x y, kenc x = kenc y → x = y) (x : κ) : ∀ (es : List MapEntry) (i : Nat), (∀ e ∈ es, ∃ y, e.key = kenc y) →
    (Instr.findNow d (kenc x) es i = some none ∧ ∀ e ∈ es, e.key ≠ kenc x) ∨ ∃ j e, Instr.findNow d (kenc x) es i = some (some (i + j, e.val)) ∧ es[j]? = some e ∧ e.key = kenc x
  | [], i, _ => .inl ⟨rfl, by simp⟩
  | e :: es, i, h => by
    obtain ⟨y, hy⟩ := h e (by simp)
    obtain ⟨b, hb, hbx⟩ := hd x y
    cases b with
    | true =>
      have := hbx.1 rfl
      subst this
      exact .inr ⟨0, e, by simp [Instr.findNow, hy, hb], rfl, hy⟩
    | false =>
      have hne : x ≠ y := fun e => by have := hbx.2 e; cases this
      rcases findNow_of hd hinj x es (i + 1) (fun e he => h e (by simp [he])) with ⟨h1, h2⟩ | ⟨j, e', h1, h2, h3⟩
      · refine .inl ⟨by simp [Instr.findNow, hy, hb, h1], ?_⟩
        intro e' he'
        rcases List.mem_cons.1 he' with rfl | he'
        · rw [hy]; exact fun e => hne (hinj _ _ e).symm
        exact h2 e' he'
      exact .inr ⟨j + 1, e', by simp [Instr.findNow, hy, hb, h1]; omega, by simpa using h2, h3⟩
theorem KyT.now {P : Program} {k : TypeId} {κ : Type} {kenc : κ → Value} {d : TypeDesc} (hu : P.underlying k = some d) (hd : ∀ x y, ∃ b, Instr.sameNow d (kenc x) (kenc y) = some b ∧ (b = true ↔ x = y)) (hinj : ∀ x y, kenc x = kenc y → x = y)
    (hc : ∀ em x w, (Instr.checkKey em 10000 k (kenc x)).run P w = .ok () w) (hs : ∀ x, Instr.sameBits 10000 (kenc x) (kenc x) = true) : KyT P k kenc := by
  refine ⟨hc, hinj, fun x es w h => ?_, fun x w => by simp [Instr.keyThatStays, hs]⟩
  rcases findNow_of hd hinj x es 0 h with ⟨h1, h2⟩ | ⟨j, e, h1, h2, h3⟩
  · exact .inl ⟨by simp [Instr.findKey, run_underlying hu, h1], h2⟩
  exact .inr ⟨j, e, by simp [Instr.findKey, run_underlying hu, h1], h2, h3⟩
theorem KyT.int {P : Program} {k : TypeId} {q : IntKind} (hu : P.underlying k = some (.int q)) : KyT P k (fun i : Int => .int .i64 i) := by
  refine KyT.now hu (fun x y => ⟨x == y, by simp [Instr.sameNow], by simp⟩) (fun x y h => by simpa using h) (fun em x w => ?_) (fun x => ?_)
  · rw [show (10000 : Nat) = 9999 + 1 from rfl, Instr.checkKey]; simp [run_underlying hu]
  show (IntKind.i64 == IntKind.i64 && x == x) = true
  simp
class MpT (P : Program) (t : TypeId) (k e : outParam TypeId) : Prop where
  und : P.underlying t = some (.map k e)
structure MapIs {κ β : Type} (kenc : κ → Value) (venc : β → Value) (m : κ → Option β) (es : Array MapEntry) : Prop where
  keys : ∀ e ∈ es.toList, ∃ x y, e.key = kenc x ∧ e.val = venc y ∧ m x = some y
  has : ∀ x y, m x = some y → ∃ e ∈ es.toList, e.key = kenc x
  once : ∀ (i j : Nat) (a b : MapEntry), es[i]? = some a → es[j]? = some b → a.key = b.key → i = j
def Res.map {κ β : Type} (b : Nat) (kenc : κ → Value) (venc : β → Value) (m : κ → Option β) : Res :=
  ⟨fun _ hl => ∃ es clock, hl = one b (.map es clock) ∧ MapIs kenc venc m es, fun _ _ _ _ h => h⟩
section
variable {P : Program} {W0 : World} {n : Nat} {Q : Po} {ρ : Rho} {L : List Res} {F : List Fact} {K : Act → World → Prop}
variable {d : Tmp} {ty t : TypeId} {pos : String} {af : Array Edge} {g : Option (Nat × Bool)} {κ β : Type} {kenc : κ → Value} {venc : β → Value} {m : κ → Option β}
theorem Sat.mapAt {w : World} (s : Sat W0 L F w) {i b : Nat} (hi : L[i]? = some (Res.map b kenc venc m)) : ∃ es clock, w.heap[b]? = some (.map es clock) ∧ MapIs kenc venc m es := by
  obtain ⟨hb, h, mm, sx⟩ := s
  obtain ⟨es, clock, hp, hm⟩ := sx.res i _ hi
  exact ⟨es, clock, (sx.own i b _ (has_lt hi) (by rw [hp]; exact one_self _ _)).2.1, hm⟩
theorem AO.makeMap {κ β : Type} (kenc : κ → Value) (venc : β → Value) (hd : Nat.blt d n = true) (h : ∀ b, AT W0 n K ((d, .map (some b)) :: ρ) (Res.map b kenc venc (fun _ => none) :: L) F) :
    AO P W0 n K ⟨some d, .makeMap t none, ty, pos, af, g⟩ Q ρ L F := by
  intro a w s
  have hr : (execOp a.eval ⟨some d, .makeMap t none, ty, pos, af, g⟩).run P w = .ok (.value (.map (some w.heap.size))) (w.alloc (.map #[] 0)) := by
    simp [execOp, Instr.makeMap]
  refine ⟨HO hr (fun _ e => by cases e), ?_⟩
  simp only [hr, owR]
  refine h _ _ _ ⟨s.slots.put (Nat.le_of_ble_eq_true hd) _, ?_⟩
  obtain ⟨hb, h0, mm, sx⟩ := s.sat
  refine ⟨Sat.below_of hb (Step.alloc w _ (fun _ => none)) (fun _ _ e => by simp at e), h0, _, sx.add hb.size (Step.alloc w _ _) _ (one w.heap.size (.map #[] 0)) ⟨#[], 0, rfl, ⟨by simp, by simp, by simp⟩⟩ ?_⟩
  intro b O hm
  obtain ⟨rfl, rfl⟩ := one_some hm
  exact ⟨Nat.le_refl _, by show (w.heap.push _)[w.heap.size]? = _; simp⟩
theorem run_look {k e : TypeId} {z : Value} [hk : KyT P k kenc] [ht : MpT P t k e] [hz : ZeT P e z] {w : World} {b clock : Nat} {es : Array MapEntry} (hb : w.heap[b]? = some (.map es clock)) (hm : MapIs kenc venc m es) (x : κ) (c : Bool) :
    (Instr.lookup t (.map (some b)) (kenc x) c).run P w = .ok (match m x with
      | some y => if c then .tuple #[venc y, .bool true] else venc y
      | none => if c then .tuple #[z, .bool false] else z) w := by
  have hget : (getObj b).run P w = .ok (.map es clock) w := MapKept.run_getObj_map hb
  rcases hk.find x es.toList w (fun e he => by obtain ⟨x, _, h, _⟩ := hm.keys e he; exact ⟨x, h⟩) with ⟨h1, h2⟩ | ⟨j, e0, h1, h2, h3⟩
  · have hmx : m x = none := by
      cases hx : m x with
      | none => rfl
      | some y => obtain ⟨e, he, hek⟩ := hm.has x y hx; exact absurd hek (h2 e he)
    simp [Instr.lookup, run_underlying ht.und, hget, hk.check, h1, hz.zero, hmx, Result.andThen]
  obtain ⟨x', y, hx', hy, hmx⟩ := hm.keys e0 (List.mem_of_getElem? h2)
  have : x' = x := hk.inj _ _ (hx'.symm.trans h3)
  subst this
  simp [Instr.lookup, run_underlying ht.und, hget, hk.check, h1, hmx, hy, Result.andThen]
theorem AO.lookup {k e : TypeId} {z : Value} {x y : Operand} {b i : Nat} (q : κ) (hx : ev ρ x = some (.map (some b))) (hy : ev ρ y = some (kenc q)) (hd : Nat.blt d n = true) [hk : KyT P k kenc] [ht : MpT P t k e] [hz : ZeT P e z] (hi : L[i]? = some (Res.map b kenc venc m))
    (h : AT W0 n K ((d, match m q with | some y => venc y | none => z) :: ρ) L F) : AO P W0 n K ⟨some d, .lookup t x y false, ty, pos, af, g⟩ Q ρ L F :=
  HG hd (fun a w s => by
    obtain ⟨es, clock, hb, hm⟩ := s.sat.mapAt hi
    have hl := run_look (P := P) (t := t) (k := k) (e := e) (z := z) hb hm q false
    simp only [execOp, GK s.slots hx, GK s.slots hy, Sem.run_bind, hl, Result.andThen]
    cases m q <;> simp) h
open Classical in
noncomputable def upd (m : κ → Option β) (x : κ) (y : β) : κ → Option β := fun k => if k = x then some y else m k
theorem upd_self (x : κ) (y : β) : upd m x y x = some y := by simp [upd]
theorem upd_ne {x k : κ} (y : β) (h : k ≠ x) : upd m x y k = m k := by simp [upd, h]
theorem run_setObj_map {w : World} {b clock clock' : Nat} {es es' : Array MapEntry} (hb : w.heap[b]? = some (.map es clock)) : (setObj b (.map es' clock')).run P w = .ok () { w with heap := w.heap.setIfInBounds b (.map es' clock') } := by
  simp [setObj, Sem.run, hb]
theorem AO.mapUpdate {k e : TypeId} {x y z : Operand} {b i : Nat} (q : κ) (r : β) (hx : ev ρ x = some (.map (some b))) (hy : ev ρ y = some (kenc q)) (hz : ev ρ z = some (venc r)) [hk : KyT P k kenc] [ht : MpT P t k e] (hi : L[i]? = some (Res.map b kenc venc m))
    (h : AT W0 n K ρ (L.set i (Res.map b kenc venc (upd m q r))) F) : AO P W0 n K ⟨none, .mapUpdate t x y z, ty, pos, af, g⟩ Q ρ L F := by
  intro a w s
  obtain ⟨es, clock, hb, hm⟩ := s.sat.mapAt hi
  have hget : (getObj b).run P w = .ok (.map es clock) w := MapKept.run_getObj_map hb
  have fin : ∀ (es' : Array MapEntry) (clock' : Nat), MapIs kenc venc (upd m q r) es' → (execOp a.eval ⟨none, .mapUpdate t x y z, ty, pos, af, g⟩).run P w = .ok .skip { w with heap := w.heap.setIfInBounds b (.map es' clock') } →
      ow P ⟨none, .mapUpdate t x y z, ty, pos, af, g⟩ a w K Q := by
    intro es' clock' hm' hr
    refine ⟨HO hr (fun _ e => by cases e), ?_⟩
    simp only [hr, owR]
    refine h _ _ ⟨s.slots, ?_⟩
    obtain ⟨hbel, h0, mm, sx⟩ := s.sat
    have hl := has_lt hi
    obtain ⟨es2, clock2, hp, _⟩ := sx.res i _ hi
    have st : Step w { w with heap := w.heap.setIfInBounds b (.map es' clock') } (mm i) := ⟨rfl, rfl, rfl, by simp, fun k hk hmk => by
      have hne : k ≠ b := fun e => by subst e; rw [hp, one_self] at hmk; simp at hmk
      show (w.heap.setIfInBounds b _)[k]? = _
      rw [Array.getElem?_setIfInBounds_ne (Ne.symm hne)]⟩
    refine ⟨Sat.below_of hbel st (fun b' O hm => (sx.own i b' O hl hm).1), h0, _, sx.upd hbel.size hl st _ (one b (.map es' clock')) ⟨es', clock', rfl, hm'⟩ ?_⟩
    intro b' O hmo
    obtain ⟨rfl, rfl⟩ := one_some hmo
    refine ⟨.inl (by rw [hp, one_self]; simp), ?_⟩
    show (w.heap.setIfInBounds b' _)[b']? = _
    have := block_lt hb
    simp [this]
  rcases hk.find q es.toList w (fun e he => by obtain ⟨x, _, h, _⟩ := hm.keys e he; exact ⟨x, h⟩) with ⟨h1, h2⟩ | ⟨j, e0, h1, h2, h3⟩
  · refine fin (es.push { key := kenc q, val := venc r, born := clock }) (clock + 1) ⟨?_, ?_, ?_⟩ ?_
    · intro e he
      simp at he
      rcases he with he | rfl
      · obtain ⟨x', y', hx', hy', hm'⟩ := hm.keys e (by simpa using he)
        have hne : x' ≠ q := fun e' => h2 e (by simpa using he) (by rw [hx', e'])
        exact ⟨x', y', hx', hy', by rw [upd_ne _ hne]; exact hm'⟩
      exact ⟨q, r, rfl, rfl, upd_self _ _⟩
    · intro x' y' hxy
      by_cases hq : x' = q
      · subst hq; exact ⟨{ key := kenc x', val := venc r, born := clock }, by simp, rfl⟩
      rw [upd_ne _ hq] at hxy
      obtain ⟨e, he, hk'⟩ := hm.has x' y' hxy
      exact ⟨e, by simp; exact .inl (by simpa using he), hk'⟩
    · intro i' j' a' b' ha hb' hab
      rw [Array.getElem?_push] at ha hb'
      split at ha <;> split at hb'
      · omega
      · rename_i hi' hj'
        simp at ha; subst ha
        exact absurd hab.symm (h2 b' (by simpa using Array.mem_of_getElem? hb'))
      · rename_i hi' hj'
        simp at hb'; subst hb'
        exact absurd hab (h2 a' (by simpa using Array.mem_of_getElem? ha))
      exact hm.once i' j' a' b' ha hb' hab
    simp [execOp, GK s.slots hx, GK s.slots hy, GK s.slots hz, Instr.mapUpdate, run_underlying ht.und, hget, hk.check, h1, run_setObj_map hb, Result.andThen]
  have hj : es[j]? = some e0 := by simpa using h2
  refine fin (es.modify j fun e => { e with key := kenc q, val := venc r }) clock ⟨?_, ?_, ?_⟩ ?_
  · intro e he
    obtain ⟨i', hi2⟩ := Array.getElem?_of_mem (Array.mem_toList_iff.1 he)
    rw [Array.getElem?_modify] at hi2
    split at hi2
    · rename_i hji
      subst hji
      rw [hj] at hi2
      simp at hi2; subst hi2
      exact ⟨q, r, rfl, rfl, upd_self _ _⟩
    rename_i hji
    obtain ⟨x', y', hx', hy', hm'⟩ := hm.keys e (Array.mem_toList_iff.2 (Array.mem_of_getElem? hi2))
    have hne : x' ≠ q := fun e' => hji (hm.once _ _ _ _ hj hi2 (by rw [h3, hx', e']))
    exact ⟨x', y', hx', hy', by rw [upd_ne _ hne]; exact hm'⟩
  · intro x' y' hxy
    by_cases hq : x' = q
    · subst hq
      refine ⟨{ e0 with key := kenc x', val := venc r }, ?_, rfl⟩
      have : (es.modify j fun e => { e with key := kenc x', val := venc r })[j]? = some { e0 with key := kenc x', val := venc r } := by simp [Array.getElem?_modify, hj]
      exact Array.mem_toList_iff.2 (Array.mem_of_getElem? this)
    rw [upd_ne _ hq] at hxy
    obtain ⟨e, he, hk'⟩ := hm.has x' y' hxy
    obtain ⟨i', hi'⟩ := List.getElem?_of_mem he
    have hi2 : es[i']? = some e := by simpa using hi'
    have hji : j ≠ i' := fun e' => by
      subst e'; rw [hj] at hi2; simp at hi2; subst hi2
      exact hq (hk.inj _ _ (hk'.symm.trans h3))
    have : (es.modify j fun e => { e with key := kenc q, val := venc r })[i']? = some e := by simp [Array.getElem?_modify, hji, hi2]
    exact ⟨e, Array.mem_toList_iff.2 (Array.mem_of_getElem? this), hk'⟩
  · intro i' j' a' b' ha hb' hab
    have key : ∀ (i' : Nat) (a' : MapEntry), (es.modify j fun e => { e with key := kenc q, val := venc r })[i']? = some a' → ∃ a0, es[i']? = some a0 ∧ a0.key = a'.key := by
      intro i' a' ha
      rw [Array.getElem?_modify] at ha
      split at ha
      · rename_i hji; subst hji
        rw [hj] at ha; simp at ha; subst ha
        exact ⟨e0, hj, h3⟩
      exact ⟨a', ha, rfl⟩
    obtain ⟨a0, ha0, hka⟩ := key i' a' ha
    obtain ⟨b0, hb0, hkb⟩ := key j' b' hb'
    exact hm.once i' j' a0 b0 ha0 hb0 (by rw [hka, hkb, hab])
  have he0 : ((es[j]?).map (·.key)).getD (kenc q) = kenc q := by simp [hj, h3]
  simp only [execOp, GK s.slots hx, GK s.slots hy, GK s.slots hz, Instr.mapUpdate, Sem.run_bind, run_underlying ht.und, hget, hk.check, h1, Result.andThen, he0, hk.stays, run_setObj_map hb]
  simp
end
end Go.Sy
