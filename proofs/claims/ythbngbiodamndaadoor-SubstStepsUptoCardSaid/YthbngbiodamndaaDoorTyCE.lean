/- SubstSteps: for every input that the row admits the statement's function returns true and each argument reads as it did: the row, and the card that ties its listed variables to the program's text. -/
import Derived.Test.YthbngbiodamndaaDoorTyQ
import Derived.Test.YthbngbiodamndaaDoorSubW
import Derived.Test.YthbngbiodamndaaDoorTyR
import Derived.Test.YthbngbiodamndaaDoorCards
import Derived.Test.YthbngbiodamndaaDoorTie
namespace Go.Proofs.YthbngbiodamndaaDoor
open Go Go.Sy Go.RowKit Go.ChangeShapes Go.WideShapes
set_option maxRecDepth 100000

theorem steps_contract (H : Type) (enc : TypeId × Value → H) (W : World) (base : Nat) (args : Array Value) (ds gs : List (DataW H)) (before : List MemPlace)
    (hval : ∀ (j : Nat) t v, Tryd.f6.params[j]? = some t → args[j]? = some v → Value.okWide Tryd.prog W .any base t v)
    (hW : DataW.Whole enc Tryd.prog Tryd.f6.params.toList Rows.substStepsSpec.vars false W args.toList ds gs before) (hL : laidMetH Tryd.prog laidL W) (hsh : W.ShapedOpen Tryd.prog) (hB0 : Rows.uptoSmall H (ds ++ gs) = true) :
    Calls Tryd.prog 6 args W fun e W' => ∃ v, e = .returned v ∧ Rows.substStepsSpec.post enc Tryd.prog Tryd.f6 false true false false W args v W' := by
  have hW' := hW
  obtain ⟨p, q, hA0, hV, rfl, hfz, hnd⟩ := hW
  have hA : DataW.TrodAll enc Tryd.prog W 0 (fun _ => true) true Tryd.f6.params.toList args.toList ds p := hA0
  rw [Tryd.params6] at hA hval
  obtain ⟨x0, xs0, d0, ds0, p0, q0, hargs, rfl, rfl, h0, t0⟩ := trodAll_cons hA
  obtain ⟨x1, xs1, d1, ds1, p1, q1, rfl, rfl, rfl, h1, t1⟩ := trodAll_cons t0
  obtain ⟨x2, xs2, d2, ds2, p2, q2, rfl, rfl, rfl, h2, t2⟩ := trodAll_cons t1
  obtain ⟨x3, xs3, d3, ds3, p3, q3, rfl, rfl, rfl, h3, t3⟩ := trodAll_cons t2
  obtain ⟨rfl, rfl, rfl⟩ := trodAll_nil t3
  obtain rfl : args = #[x0, x1, x2, x3] := by cases args; simp_all
  obtain ⟨rfl, rfl⟩ := trodVars_none hV
  have hB := of_decide_eq_true hB0
  rw [List.append_nil] at hB
  obtain ⟨a0, k0, c0, v0, rfl, f0, r0⟩ := open_tysB (hval 0 22 x0 rfl rfl) h0 (Nat.le_trans (bulk_part (by simp)) hB)
  obtain ⟨n1, rfl, _, _, w1⟩ := open_int Tryd.underlying3 (hval 1 3 x1 rfl rfl) h1
  obtain ⟨a2, k2, c2, v2, rfl, f2, r2⟩ := open_ilist (hval 2 29 x2 rfl rfl) h2
  obtain ⟨a3, k3, c3, v3, rfl, f3, r3⟩ := open_ilist (hval 3 29 x3 rfl rfl) h3
  have sat : Sat W [] [fL v0 a0 k0 c0, Fact.slc (.slice a2 k2 c2) 1 (v2.map eI), Fact.slc (.slice a3 k3 c3) 1 (v3.map eI)] W := sat_first (by
    intro f hf
    simp only [List.mem_cons, List.mem_nil_iff, or_false] at hf
    rcases hf with rfl | rfl | rfl
    · exact f0
    · exact f2
    · exact f3)
  refine (steps_c (R := fun v _ _ => v = .bool true) (glob_of hL hsh) v0 r0 n1 v2 v3 (by repeat (first | exact mem0 | assumption | refine memS ?_)) (by repeat (first | exact mem0 | assumption | refine memS ?_)) (by repeat (first | exact mem0 | assumption | refine memS ?_)) rfl W sat).mono fun e W' hE => ?_
  obtain ⟨v, L', F', rfl, rfl, s'⟩ := hE
  exact ⟨_, rfl, post_true laidOut (by kernel_rfl) hW' s'.below rfl (by kernel_rfl) Tryd.underlying4 rfl⟩

theorem steps_lifted (os : Os) (started : os.Started) (H : Type) (enc : TypeId × Value → H) (F : Stop.Interp) :
    ReturnsInHanded {} Tryd.checked os 6 .any ((Rows.OpenSpec.upto Rows.substStepsSpec).preRow enc Tryd.prog Tryd.f6 Rows.substStepsUptoRow.domain false Rows.substStepsUptoRow.laid) (((Rows.OpenSpec.upto Rows.substStepsSpec).at F).post enc Tryd.prog Tryd.f6 false true false false) := by
  have hx : ∃ places, DataW.whole enc Tryd.prog ((laidWorld os).forCall (fun _ _ => 0) ⟨#[], #[.slice none 0 0, .int .i64 0, .slice none 0 0, .slice none 0 0], []⟩).memory Tryd.f6.params.toList Rows.substStepsSpec.vars false
      [.slice none 0 0, .int .i64 0, .slice none 0 0, .slice none 0 0] 8 = some ([.nil, .lit (.int .i64 0), .nil, .nil], [], places) := ⟨[], by kernel_rfl⟩
  obtain ⟨places, hx⟩ := hx
  refine returnsInHanded_of_row (C := Tryd.checked) (s := (Rows.OpenSpec.upto Rows.substStepsSpec)) own started (by kernel_rfl) Tryd.func6
    (witness_row_at (enc := enc) (C := Tryd.checked) false (laidWorld os) #[.slice none 0 0, .int .i64 0, .slice none 0 0, .slice none 0 0] rfl (by kernel_rfl) (by kernel_rfl) (by kernel_rfl)
      (OpenSpec.preRow_of_cond 8 hx (by kernel_rfl) (fun k hk => by cases hk; kernel_rfl) (by kernel_rfl) (laid_met os _))) ?_
  intro W base args ds gs before hval hW _ hC _ hL hsh _
  exact steps_contract H enc W base args ds gs before hval hW hL hsh (hC _ rfl)

theorem steps_said : Rows.SubstStepsUptoSaid :=
  OpenClaim.holds_of_cond 6 Tryd.f6 rfl rfl rfl rfl rfl rfl rfl ⟨rfl, rfl, rfl, rfl, rfl⟩ rfl rfl rfl rfl rfl (by kernel_rfl) Tryd.func6 (by kernel_rfl)
    (of_decide_eq_true (by kernel_rfl)) (by unfold Func.isWrapper; first | (rw [if_pos (by decide +kernel)]; kernel_rfl) | (rw [if_neg (by decide +kernel)]; exact ⟨rfl, rfl⟩))
    (fun os started H enc _ F => by rw [OpenClaim.pre_eq_preRow]; exact steps_lifted os started H enc F)

theorem steps_plain (f : FuncId) (fn : Func) (hf : Tryd.pinned.checked.prog.funcNamed "indenture/indenturelaw11.SubstSteps" = some f) (hfn : Tryd.pinned.checked.prog.funcs[f]? = some fn) :
    false = Tryd.pinned.checked.prog.looks [] ∧ ∀ (j : Nat) t, fn.params[j]? = some t → Tryd.pinned.checked.prog.wantsStandIn t = false := by
  obtain rfl : f = 6 := Option.some.inj ((show Tryd.prog.funcNamed "indenture/indenturelaw11.SubstSteps" = some 6 by kernel_rfl).symm.trans hf) |>.symm
  obtain rfl : fn = Tryd.f6 := (Option.some.inj (Tryd.func6.symm.trans hfn)).symm
  refine ⟨by kernel_rfl, fun j t ht => ?_⟩
  rw [Tryd.params6] at ht
  have hm := Array.mem_of_getElem? ht
  simp only [List.mem_toArray, List.mem_cons, List.mem_nil_iff, or_false] at hm
  rcases hm with rfl | rfl | rfl | rfl
  · exact (show Tryd.prog.wantsStandIn 22 = false by kernel_rfl)
  · exact (show Tryd.prog.wantsStandIn 3 = false by kernel_rfl)
  · exact (show Tryd.prog.wantsStandIn 29 = false by kernel_rfl)
  · exact (show Tryd.prog.wantsStandIn 29 = false by kernel_rfl)

theorem substStepsUpto_holds : Rows.SubstStepsUptoCardSaid :=
  Claim7.holds_tied_plain_at .later [] _ _ _ _ steps_said (fun _ h => by cases h) (by kernel_rfl) (fun _ h => by cases h) substStepsUpto_row_tie rfl ⟨rfl, rfl⟩ (by kernel_rfl) rfl steps_plain (by kernel_rfl)
end Go.Proofs.YthbngbiodamndaaDoor
