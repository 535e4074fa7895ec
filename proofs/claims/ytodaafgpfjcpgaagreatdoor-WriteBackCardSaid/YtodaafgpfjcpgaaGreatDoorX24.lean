/- Joined of my own texts: FwR. -/
import Derived.Test.YtodaafgpfjcpgaaGreatDoorX23
import Derived.Carry
import Derived.SliceStrings
import Derived.Lib.SmallJoins
import Derived.Deep.DeepHandedRow
import Derived.Lib.LaidTab
import Derived.Stop.LaidErr
import Derived.Shelf.Vars
namespace Go.Sy
open Go Go.Proofs Go.RowKit Go.ChangeShapes Go.WideShapes Go.Joins Go.Deep
section
variable {H : Type} {enc : TypeId × Value → H} {P : Program} {w : World} {base : Nat} {spare : Nat → Bool} {held : Bool}
end
def cellsOfW (W : World) : H := fun b o => W.cell? ⟨b, o, none⟩
section
variable {Ht : Type} {enc : TypeId × Value → Ht} {P : Program} {W : World}
theorem sat_first {F : List Fact} (hF : ∀ f ∈ F, f.holds (cellsOfW W)) : Sat W [] F W :=
  ⟨Below.refl _ _, cellsOfW W, fun _ _ => none, ⟨fun _ _ _ h => h, hF, fun _ _ h => by simp at h, fun _ _ _ h => by simp at h, fun _ _ _ h => by simp at h⟩⟩
theorem post_true {f : Func} {s : ChangeSpec} {apart fresh handsOn : Bool} {W' : World} {args : Array Value} {ds gs : List (DataW Ht)} {before : List MemPlace} {tb : TypeId}
    (hl : laidOutB P = true) (hr : f.params.toList.all (fun t => P.readableRec t && decide (t < P.types.size)) = true)
    (hW : DataW.Whole enc P f.params.toList s.vars apart W args.toList ds gs before) (hb : Below W.heap.size W W')
    (hvars : s.vars = []) (hres : f.resultTypes = #[tb]) (htb : P.underlying tb = some .bool)
    (hfn : s.fn Ht (ds ++ gs) = { results := [.lit (.bool true)], args := ds }) :
    s.post enc P f apart fresh handsOn false W args (.bool true) W' := by
  have hW' := hW
  obtain ⟨p, q, hA, hV, rfl, hfz, hn⟩ := hW'
  rw [hvars] at hV
  have hgs : gs = [] ∧ q = [] := by
    have := trodVars_none (enc := enc) (P := P) (w := W) hV
    exact this
  obtain ⟨rfl, rfl⟩ := hgs
  have hlt : ∀ x ∈ p, x.block < W.heap.size := fun x hx => by simpa using hW.lt x (by simpa using hx)
  refine ⟨ds, [], p ++ [], [], p, [], hW, ?_, ?_, ?_, ?_, fun h => by cases h⟩
  · rw [hres, hfn]
    exact trodAll_cons_mk (shut_bool htb true) trodAll_mk0
  · rw [hfn]
    have all : ∀ (ts : List TypeId) (vs : List Value) (ds : List (DataW Ht)) (p : List MemPlace), (ts.all (fun t => P.readableRec t && decide (t < P.types.size)) = true) → (∀ x ∈ p, x.block < W.heap.size) →
        DataW.TrodAll enc P W 0 (fun _ => true) true ts vs ds p → DataW.TrodAll enc P W' 0 (fun b => decide (b < W.heap.size)) true ts vs ds p := by
      intro ts
      induction ts with
      | nil => intro vs ds p _ _ h; obtain ⟨rfl, rfl, rfl⟩ := trodAll_nil h; exact h
      | cons t ts ih =>
        intro vs ds p ha hp h
        obtain ⟨v, vs1, d, ds1, a, b, rfl, rfl, rfl, h1, h2⟩ := trodAll_cons h
        simp only [List.all_cons, Bool.and_eq_true, decide_eq_true_eq] at ha
        refine ⟨a, b, Below.trod hl ha.1.1 ha.1.2 h1 hb (fun x hx => hp x (by simp [hx])), ih vs1 ds1 b ?_ (fun x hx => hp x (by simp [hx])) h2, rfl⟩
        simpa using ha.2
    exact all _ _ _ _ hr hlt hA
  · rw [hvars, hfn]; exact hV
  exact hb.frame _
end
end Go.Sy
