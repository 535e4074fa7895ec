/- A slice of ints, cloned: the walk. -/
import Derived.Test.YthbngbiodamndaaDoorTyH
import Derived.Test.YthbngbiodamndaaDoorFwU
namespace Go.Sy
open Go Go.Proofs Go.RowKit

theorem eI_set (ks : List Int) {q : Nat} (hq : q < ks.length) : (ks.map eI).set q [.val (.int .i64 ks[q])] = ks.map eI := by
  have : [D.val (.int .i64 ks[q])] = (ks.map eI)[q]'(by simpa using hq) := by simp
  rw [this]; exact List.set_getElem_self _

theorem Sub.ownNone {L : List Res} {F : List Fact} {e : TypeId} {sz k c : Nat} {rows : List (List D)} (hm : Fact.slc (.slice none k c) sz rows ∈ F) : Sub L F (Res.own (.slice none 0 0) e sz rows :: L) F := by
  intro W0 w s
  have hk : rows = [] := by
    obtain ⟨hh, hf, _⟩ := s.fact hm
    have hf' : CR hh (.slice none k c) (.slc sz rows) := hf
    generalize hd : D.slc sz rows = dd at hf'
    cases hf' with
    | val => simp at hd
    | nil => simp at hd; exact hd.2
  subst hk
  exact Sub.ownNil W0 w s

attribute [local irreducible] AC AT AO AK AH ACalls Sub Res.cells Res.obj Res.nix Res.own Res.map Exit.then Exit.inBlock bodyPost Code.wp Next Post Kont
section
variable {W0 : World} {L : List Res} {F : List Fact} {R : Value → List Res → List Fact → Prop}
set_option maxRecDepth 100000
set_option maxHeartbeats 4000000
theorem clone_c (ks : List Int) (hl : ks.length ≤ 1000) {a : Option Addr} {k c : Nat} (m1 : Fact.slc (.slice a k c) 1 (ks.map eI) ∈ F) (h : ∀ a k c, R (.slice a k c) (Res.own (.slice a k c) 3 1 (ks.map eI) :: L) F) : ACalls Tryd.prog W0 32 #[.slice a k c] L F R := by
  refine ACalls.body Tryd.func32 rfl Tryd.ntmps32 rfl ?_
  refine AC.seq (AC.region (AL.go (AO.assign rfl rfl (AL.nil (AK.seqN (AC.seq ?_))))))
  refine AC.seq (AC.region (AL.go (AO.move rfl rfl ?_)))
  refine AL.go (AO.eqlSN Tryd.underlying29 rfl rfl rfl (fun c4 => ?_) (fun b4 c4 => ?_))
  · refine AL.nil (AK.seqN (AC.condT rfl (AC.seq (AC.region (AL.go (AO.assign rfl rfl ?_))))))
    refine AL.nil (AK.seqN (AC.ret (AK.seqR ?_)))
    first
    | exact AK.ret Tryd.results32 rfl (Sub.refl _ _) (h a7 k7 z7)
    | (subst c4; exact AK.ret (F' := F) Tryd.results32 rfl (Sub.ownNone m1) (h none 0 0))
  · refine AL.nil (AK.seqN (AC.condF rfl (AC.skip (AK.seqN (AC.seq ?_)))))
    refine AC.region ?_
    refine AL.go (AO.buildSlice0 rfl (fun b5 => ?_))
    refine AT.sub (Sub.toOwn (i := 0) (k := 0) (sz := 1) (enc := eI) [] rfl .nil (fun _ => rfl) rfl (by decide)) ?_
    refine AL.go (AO.move rfl rfl ?_)
    refine AL.go (AO.appendF (i := 0) (enc := eI) (lst := []) (lst2 := ks) rfl rfl rfl rfl (by repeat (first | exact mem0 | assumption | refine memS ?_)) (fun x d hd v hv => by subst hv; simp at hd; subst hd; rfl) (fun _ => rfl) (by simp only [maxLen, List.length_nil]; omega) (by simp only [List.length_nil]; omega) (fun a7 k7 z7 => ?_))
    refine AL.go (AO.assign rfl rfl (AL.nil (AK.seqN (AC.ret ?_))))
    first
    | exact AK.ret Tryd.results32 rfl (Sub.refl _ _) (h a7 k7 z7)
    | (subst c4; exact AK.ret (F' := F) Tryd.results32 rfl (Sub.ownNone m1) (h none 0 0))
end
end Go.Sy
