/- Joined of my own texts: FwM. -/
import Derived.Test.YtodaafgpfjcpgaaDoorV4
import Derived.Laws.StructEq
namespace Go.Sy
open Go Go.RowKit
class KyT (P : Program) (k : TypeId) {κ : Type} (kenc : κ → Value) : Prop where
  check : ∀ (em : Bool) (x : κ) w, (Instr.checkKey em 10000 k (kenc x)).run P w = .ok () w
  inj : ∀ x y, kenc x = kenc y → x = y
  find : ∀ (x : κ) (es : List MapEntry) w, (∀ e ∈ es, ∃ y, e.key = kenc y) →
    ((Instr.findKey k (kenc x) es).run P w = .ok none w ∧ ∀ e ∈ es, e.key ≠ kenc x) ∨ ∃ j e, (Instr.findKey k (kenc x) es).run P w = .ok (some (j, e.val)) w ∧ es[j]? = some e ∧ e.key = kenc x
  stays : ∀ x w, (Instr.keyThatStays (kenc x) (kenc x)).run P w = .ok (kenc x) w
theorem findNow_of {κ : Type} {kenc : κ → Value} {d : TypeDesc} (hd : ∀ x y, ∃ b, Instr.sameNow d (kenc x) (kenc y) = some b ∧ (b = true ↔ x = y)) (hinj : ∀ x y, kenc x = kenc y → x = y) (x : κ) : ∀ (es : List MapEntry) (i : Nat), (∀ e ∈ es, ∃ y, e.key = kenc y) →
    (Instr.findNow d (kenc x) es i = some none ∧ ∀ e ∈ es, e.key ≠ kenc x) ∨ ∃ j e, Instr.findNow d (kenc x) es i = some (some (i + j, e.val)) ∧ es[j]? = some e ∧ e.key = kenc x
  | [], i, _ => .inl ⟨rfl, by simp⟩
  | e :: es, i, h => by
    obtain ⟨y, hy⟩ := h e (by simp)
    obtain ⟨b, hb, hbx⟩ := hd x y
    cases b with
    | true =>
      have := hbx.1 rfl
      subst this
      exact .inr ⟨0, e, by simp [Instr.findNow, hy, hb], rfl, hy⟩
    | false =>
      have hne : x ≠ y := fun e => by have := hbx.2 e; cases this
      rcases findNow_of hd hinj x es (i + 1) (fun e he => h e (by simp [he])) with ⟨h1, h2⟩ | ⟨j, e', h1, h2, h3⟩
      · refine .inl ⟨by simp [Instr.findNow, hy, hb, h1], ?_⟩
        intro e' he'
        rcases List.mem_cons.1 he' with rfl | he'
        · rw [hy]; exact fun e => hne (hinj _ _ e).symm
        exact h2 e' he'
      exact .inr ⟨j + 1, e', by simp [Instr.findNow, hy, hb, h1]; omega, by simpa using h2, h3⟩
theorem KyT.now {P : Program} {k : TypeId} {κ : Type} {kenc : κ → Value} {d : TypeDesc} (hu : P.underlying k = some d) (hd : ∀ x y, ∃ b, Instr.sameNow d (kenc x) (kenc y) = some b ∧ (b = true ↔ x = y)) (hinj : ∀ x y, kenc x = kenc y → x = y)
    (hc : ∀ em x w, (Instr.checkKey em 10000 k (kenc x)).run P w = .ok () w) (hs : ∀ x, Instr.sameBits 10000 (kenc x) (kenc x) = true) : KyT P k kenc := by
  refine ⟨hc, hinj, fun x es w h => ?_, fun x w => by simp [Instr.keyThatStays, hs]⟩
  rcases findNow_of hd hinj x es 0 h with ⟨h1, h2⟩ | ⟨j, e, h1, h2, h3⟩
  · exact .inl ⟨by simp [Instr.findKey, run_underlying hu, h1], h2⟩
  exact .inr ⟨j, e, by simp [Instr.findKey, run_underlying hu, h1], h2, h3⟩
theorem KyT.int {P : Program} {k : TypeId} {q : IntKind} (hu : P.underlying k = some (.int q)) : KyT P k (fun i : Int => .int .i64 i) := by
  refine KyT.now hu (fun x y => ⟨x == y, by simp [Instr.sameNow], by simp⟩) (fun x y h => by simpa using h) (fun em x w => ?_) (fun x => ?_)
  · rw [show (10000 : Nat) = 9999 + 1 from rfl, Instr.checkKey]; simp [run_underlying hu]
  show (IntKind.i64 == IntKind.i64 && x == x) = true
  simp
structure MapIs {κ β : Type} (kenc : κ → Value) (venc : β → Value) (m : κ → Option β) (es : Array MapEntry) : Prop where
  keys : ∀ e ∈ es.toList, ∃ x y, e.key = kenc x ∧ e.val = venc y ∧ m x = some y
  has : ∀ x y, m x = some y → ∃ e ∈ es.toList, e.key = kenc x
  once : ∀ (i j : Nat) (a b : MapEntry), es[i]? = some a → es[j]? = some b → a.key = b.key → i = j
def Res.map {κ β : Type} (b : Nat) (kenc : κ → Value) (venc : β → Value) (m : κ → Option β) : Res :=
  ⟨fun _ hl => ∃ es clock, hl = one b (.map es clock) ∧ MapIs kenc venc m es, fun _ _ _ _ h => h⟩
section
variable {P : Program} {W0 : World} {n : Nat} {Q : Po} {ρ : Rho} {L : List Res} {F : List Fact} {K : Act → World → Prop}
variable {d : Tmp} {ty t : TypeId} {pos : String} {af : Array Edge} {g : Option (Nat × Bool)} {κ β : Type} {kenc : κ → Value} {venc : β → Value} {m : κ → Option β}
open Classical in
noncomputable def upd (m : κ → Option β) (x : κ) (y : β) : κ → Option β := fun k => if k = x then some y else m k
end
end Go.Sy
