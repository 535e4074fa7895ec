/- Joined of my own texts: UnCA. -/
import Derived.Test.YtinolpaapcpijaaGreatDoorJ21
import Derived.Test.YtinolpaapcpijaaGreatDoorCards
import Derived.Test.YtinolpaapcpijaaGreatDoorTie
namespace Go.Proofs.YtinolpaapcpijaaGreatDoor
open Go Go.Sy Go.RowKit Go.ChangeShapes Go.WideShapes
set_option maxRecDepth 100000
theorem uright_contract (H : Type) (enc : TypeId × Value → H) (W : World) (base : Nat) (args : Array Value) (ds gs : List (DataW H)) (before : List MemPlace)
    (hval : ∀ (j : Nat) t v, Tryz.f5.params[j]? = some t → args[j]? = some v → Value.okWide Tryz.prog W .any base t v)
    (hW : DataW.Whole enc Tryz.prog Tryz.f5.params.toList Rows.unitRightSpec.vars false W args.toList ds gs before) (hL : laidMetH Tryz.prog laidL W) (hsh : W.ShapedOpen Tryz.prog) (hB0 : Rows.uptoSmall H (ds ++ gs) = true) :
    Calls Tryz.prog 5 args W fun e W' => ∃ v, e = .returned v ∧ Rows.unitRightSpec.post enc Tryz.prog Tryz.f5 false true false false W args v W' := by
  have hW' := hW
  obtain ⟨p, q, hA0, hV, rfl, hfz, hnd⟩ := hW
  have hA : DataW.TrodAll enc Tryz.prog W 0 (fun _ => true) true Tryz.f5.params.toList args.toList ds p := hA0
  rw [Tryz.params5] at hA hval
  obtain ⟨x0, xs0, d0, ds0, p0, q0, hargs, rfl, rfl, h0, t0⟩ := trodAll_cons hA
  obtain ⟨x1, xs1, d1, ds1, p1, q1, rfl, rfl, rfl, h1, t1⟩ := trodAll_cons t0
  obtain ⟨x2, xs2, d2, ds2, p2, q2, rfl, rfl, rfl, h2, t2⟩ := trodAll_cons t1
  obtain ⟨rfl, rfl, rfl⟩ := trodAll_nil t2
  obtain rfl : args = #[x0, x1, x2] := by cases args; simp_all
  obtain ⟨rfl, rfl⟩ := trodVars_none hV
  have hB := of_decide_eq_true hB0
  rw [List.append_nil] at hB
  obtain ⟨a0, k0, c0, b0, l0, e0, v0, u0, rfl, f0, g0, r0, q0u⟩ := open_unit (hval 0 25 x0 rfl rfl) h0 (Nat.le_trans (bulk_part (by simp)) hB)
  obtain ⟨a1, k1, c1, b1, l1, e1, v1, u1, rfl, f1, g1, r1, q1u⟩ := open_unit (hval 1 25 x1 rfl rfl) h1 (Nat.le_trans (bulk_part (by simp)) hB)
  obtain ⟨s2, rfl, z2⟩ := open_text (hval 2 9 x2 rfl rfl) h2
  have sat : Sat W [] [fL v0 a0 k0 c0, fN u0 b0 l0 e0, fL v1 a1 k1 c1, fN u1 b1 l1 e1] W := sat_first (by
    intro f hf
    simp only [List.mem_cons, List.mem_nil_iff, or_false] at hf
    rcases hf with rfl | rfl | rfl | rfl
    · exact f0
    · exact g0
    · exact f1
    · exact g1)
  refine (unitRight_c (R := fun v _ _ => v = .bool true) (glob_of hL hsh) v0 v1 u0 u1 s2 r0 q0u memA memA memA memA rfl W sat).mono fun e W' hE => ?_
  obtain ⟨v, L', F', rfl, rfl, s'⟩ := hE
  exact ⟨_, rfl, post_true laidOut (by kernel_rfl) hW' s'.below rfl (by kernel_rfl) Tryz.underlying4 rfl⟩
theorem uright_lifted (os : Os) (started : os.Started) (H : Type) (enc : TypeId × Value → H) (F : Stop.Interp) :
    ReturnsInHanded {} Tryz.checked os 5 .any ((Rows.OpenSpec.upto Rows.unitRightSpec).preRow enc Tryz.prog Tryz.f5 Rows.unitRightUptoRow.domain false Rows.unitRightUptoRow.laid) (((Rows.OpenSpec.upto Rows.unitRightSpec).at F).post enc Tryz.prog Tryz.f5 false true false false) := by
  have hx : ∃ places, DataW.whole enc Tryz.prog ((laidWorld os).forCall (fun _ _ => 0) ⟨#[], #[.agg #[.slice none 0 0, .slice none 0 0], .agg #[.slice none 0 0, .slice none 0 0], .string ⟨#[]⟩], []⟩).memory Tryz.f5.params.toList Rows.unitRightSpec.vars false
      [.agg #[.slice none 0 0, .slice none 0 0], .agg #[.slice none 0 0, .slice none 0 0], .string ⟨#[]⟩] 8 = some ([.agg [.nil, .nil], .agg [.nil, .nil], .lit (.string [])], [], places) := ⟨[], by kernel_rfl⟩
  obtain ⟨places, hx⟩ := hx
  refine returnsInHanded_of_row (C := Tryz.checked) (s := (Rows.OpenSpec.upto Rows.unitRightSpec)) own started (by kernel_rfl) Tryz.func5
    (witness_row_at (enc := enc) (C := Tryz.checked) false (laidWorld os) #[.agg #[.slice none 0 0, .slice none 0 0], .agg #[.slice none 0 0, .slice none 0 0], .string ⟨#[]⟩] rfl (by kernel_rfl) (by kernel_rfl) (by kernel_rfl)
      (OpenSpec.preRow_of_cond 8 hx (by kernel_rfl) (fun k hk => by cases hk; kernel_rfl) (by kernel_rfl) (laid_met os _))) ?_
  intro W base args ds gs before hval hW _ hC _ hL hsh _
  exact uright_contract H enc W base args ds gs before hval hW hL hsh (hC _ rfl)
theorem uright_said : Rows.UnitRightUptoSaid :=
  OpenClaim.holds_of_cond 5 Tryz.f5 rfl rfl rfl rfl rfl rfl rfl ⟨rfl, rfl, rfl, rfl, rfl⟩ rfl rfl rfl rfl rfl (by kernel_rfl) Tryz.func5 (by kernel_rfl)
    (of_decide_eq_true (by kernel_rfl)) (by unfold Func.isWrapper; first | (rw [if_pos (by decide +kernel)]; kernel_rfl) | (rw [if_neg (by decide +kernel)]; exact ⟨rfl, rfl⟩))
    (fun os started H enc _ F => by rw [OpenClaim.pre_eq_preRow]; exact uright_lifted os started H enc F)
theorem uright_plain (f : FuncId) (fn : Func) (hf : Tryz.pinned.checked.prog.funcNamed "indenture/indenturelaw12.UnitRight" = some f) (hfn : Tryz.pinned.checked.prog.funcs[f]? = some fn) :
    false = Tryz.pinned.checked.prog.looks [] ∧ ∀ (j : Nat) t, fn.params[j]? = some t → Tryz.pinned.checked.prog.wantsStandIn t = false := by
  obtain rfl : f = 5 := Option.some.inj ((show Tryz.prog.funcNamed "indenture/indenturelaw12.UnitRight" = some 5 by kernel_rfl).symm.trans hf) |>.symm
  obtain rfl : fn = Tryz.f5 := (Option.some.inj (Tryz.func5.symm.trans hfn)).symm
  refine ⟨by kernel_rfl, fun j t ht => ?_⟩
  rw [Tryz.params5] at ht
  have hm := Array.mem_of_getElem? ht
  simp only [List.mem_toArray, List.mem_cons, List.mem_nil_iff, or_false] at hm
  rcases hm with rfl | rfl | rfl
  · exact (show Tryz.prog.wantsStandIn 25 = false by kernel_rfl)
  · exact (show Tryz.prog.wantsStandIn 25 = false by kernel_rfl)
  · exact (show Tryz.prog.wantsStandIn 9 = false by kernel_rfl)
theorem unitRightUpto_holds : Rows.UnitRightUptoCardSaid :=
  Claim7.holds_tied_plain_at .later [] _ _ _ _ uright_said (fun _ h => by cases h) (by kernel_rfl) (fun _ h => by cases h) unitRightUpto_row_tie rfl ⟨rfl, rfl⟩ (by kernel_rfl) rfl uright_plain (by kernel_rfl)
end Go.Proofs.YtinolpaapcpijaaGreatDoor
