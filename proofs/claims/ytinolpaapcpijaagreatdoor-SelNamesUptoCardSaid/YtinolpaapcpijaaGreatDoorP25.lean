/- Joined of my own texts: SeCB. -/
import Derived.Test.YtinolpaapcpijaaGreatDoorP24
import Derived.Test.YtinolpaapcpijaaGreatDoorCards
import Derived.Test.YtinolpaapcpijaaGreatDoorTie
namespace Go.Proofs.YtinolpaapcpijaaGreatDoor
open Go Go.Sy Go.RowKit Go.ChangeShapes Go.WideShapes
set_option maxRecDepth 100000
theorem snames_contract (H : Type) (enc : TypeId × Value → H) (W : World) (base : Nat) (args : Array Value) (ds gs : List (DataW H)) (before : List MemPlace)
    (hval : ∀ (j : Nat) t v, Tryz.f8.params[j]? = some t → args[j]? = some v → Value.okWide Tryz.prog W .any base t v)
    (hW : DataW.Whole enc Tryz.prog Tryz.f8.params.toList Rows.selNamesSpec.vars false W args.toList ds gs before) (hL : laidMetH Tryz.prog laidL W) (hsh : W.ShapedOpen Tryz.prog) (hB0 : Rows.uptoSmall H (ds ++ gs) = true) :
    Calls Tryz.prog 8 args W fun e W' => ∃ v, e = .returned v ∧ Rows.selNamesSpec.post enc Tryz.prog Tryz.f8 false true false false W args v W' := by
  have hW' := hW
  obtain ⟨p, q, hA0, hV, rfl, hfz, hnd⟩ := hW
  have hA : DataW.TrodAll enc Tryz.prog W 0 (fun _ => true) true Tryz.f8.params.toList args.toList ds p := hA0
  rw [Tryz.params8] at hA hval
  obtain ⟨x0, xs0, d0, ds0, p0, q0, hargs, rfl, rfl, h0, t0⟩ := trodAll_cons hA
  obtain ⟨x1, xs1, d1, ds1, p1, q1, rfl, rfl, rfl, h1, t1⟩ := trodAll_cons t0
  obtain ⟨x2, xs2, d2, ds2, p2, q2, rfl, rfl, rfl, h2, t2⟩ := trodAll_cons t1
  obtain ⟨x3, xs3, d3, ds3, p3, q3, rfl, rfl, rfl, h3, t3⟩ := trodAll_cons t2
  obtain ⟨rfl, rfl, rfl⟩ := trodAll_nil t3
  obtain rfl : args = #[x0, x1, x2, x3] := by cases args; simp_all
  obtain ⟨rfl, rfl⟩ := trodVars_none hV
  have hB := of_decide_eq_true hB0
  rw [List.append_nil] at hB
  obtain ⟨a0, k0, c0, b0, l0, e0, v0, u0, rfl, f0, g0, r0, q0u⟩ := open_unit (hval 0 25 x0 rfl rfl) h0 (Nat.le_trans (bulk_part (by simp)) hB)
  obtain ⟨n1, rfl, _, _, w1⟩ := open_int Tryz.underlying3 (hval 1 3 x1 rfl rfl) h1
  obtain ⟨s2, rfl, z2⟩ := open_text (hval 2 9 x2 rfl rfl) h2
  obtain ⟨n3, rfl, _, _, w3⟩ := open_int Tryz.underlying3 (hval 3 3 x3 rfl rfl) h3
  have sat : Sat W [] [fL v0 a0 k0 c0, fN u0 b0 l0 e0] W := sat_first (by
    intro f hf
    simp only [List.mem_cons, List.mem_nil_iff, or_false] at hf
    rcases hf with rfl | rfl
    · exact f0
    exact g0)
  refine (selNames_c (R := fun v _ _ => v = .bool true) (glob_of hL hsh) v0 u0 n1 s2 n3 r0 q0u memA memA HV W sat).mono fun e W' hE => ?_
  obtain ⟨v, L', F', rfl, rfl, s'⟩ := hE
  exact ⟨_, rfl, post_true laidOut HW hW' s'.below rfl HW Tryz.underlying4 rfl⟩
theorem snames_lifted (os : Os) (started : os.Started) (H : Type) (enc : TypeId × Value → H) (F : Stop.Interp) :
    ReturnsInHanded {} Tryz.checked os 8 .any ((Rows.OpenSpec.upto Rows.selNamesSpec).preRow enc Tryz.prog Tryz.f8 Rows.selNamesUptoRow.domain false Rows.selNamesUptoRow.laid) (((Rows.OpenSpec.upto Rows.selNamesSpec).at F).post enc Tryz.prog Tryz.f8 false true false false) := by
  have hx : ∃ places, DataW.whole enc Tryz.prog ((laidWorld os).forCall (fun _ _ => 0) ⟨#[], #[.agg #[.slice none 0 0, .slice none 0 0], .int .i64 0, .string ⟨#[]⟩, .int .i64 0], []⟩).memory Tryz.f8.params.toList Rows.selNamesSpec.vars false
      [.agg #[.slice none 0 0, .slice none 0 0], .int .i64 0, .string ⟨#[]⟩, .int .i64 0] 8 = some ([.agg [.nil, .nil], .lit (.int .i64 0), .lit (.string []), .lit (.int .i64 0)], [], places) := ⟨[], by kernel_rfl⟩
  obtain ⟨places, hx⟩ := hx
  refine returnsInHanded_of_row (C := Tryz.checked) (s := (Rows.OpenSpec.upto Rows.selNamesSpec)) own started HW Tryz.func8
    (witness_row_at (enc := enc) (C := Tryz.checked) false (laidWorld os) #[.agg #[.slice none 0 0, .slice none 0 0], .int .i64 0, .string ⟨#[]⟩, .int .i64 0] rfl HW HW HW
      (OpenSpec.preRow_of_cond 8 hx HW (fun k hk => by cases hk; kernel_rfl) HW (laid_met os _))) ?_
  intro W base args ds gs before hval hW _ hC _ hL hsh _
  exact snames_contract H enc W base args ds gs before hval hW hL hsh (hC _ rfl)
theorem snames_said : Rows.SelNamesUptoSaid :=
  OpenClaim.holds_of_cond 8 Tryz.f8 rfl rfl rfl rfl rfl rfl rfl ⟨rfl, rfl, rfl, rfl, rfl⟩ rfl rfl rfl rfl rfl HW Tryz.func8 HW
    (of_decide_eq_true HW) (by unfold Func.isWrapper; first | (rw [if_pos (by decide +kernel)]; kernel_rfl) | (rw [if_neg (by decide +kernel)]; exact ⟨rfl, rfl⟩))
    (fun os started H enc _ F => by rw [OpenClaim.pre_eq_preRow]; exact snames_lifted os started H enc F)
theorem snames_plain (f : FuncId) (fn : Func) (hf : Tryz.pinned.checked.prog.funcNamed "indenture/indenturelaw13.SelNames" = some f) (hfn : Tryz.pinned.checked.prog.funcs[f]? = some fn) :
    false = Tryz.pinned.checked.prog.looks [] ∧ ∀ (j : Nat) t, fn.params[j]? = some t → Tryz.pinned.checked.prog.wantsStandIn t = false := by
  obtain rfl : f = 8 := Option.some.inj ((show Tryz.prog.funcNamed "indenture/indenturelaw13.SelNames" = some 8 by kernel_rfl).symm.trans hf) |>.symm
  obtain rfl : fn = Tryz.f8 := (Option.some.inj (Tryz.func8.symm.trans hfn)).symm
  refine ⟨by kernel_rfl, fun j t ht => ?_⟩
  rw [Tryz.params8] at ht
  have hm := Array.mem_of_getElem? ht
  simp only [List.mem_toArray, List.mem_cons, List.mem_nil_iff, or_false] at hm
  rcases hm with rfl | rfl | rfl | rfl
  · exact (show Tryz.prog.wantsStandIn 25 = false by kernel_rfl)
  · exact (show Tryz.prog.wantsStandIn 3 = false by kernel_rfl)
  · exact (show Tryz.prog.wantsStandIn 9 = false by kernel_rfl)
  exact (show Tryz.prog.wantsStandIn 3 = false by kernel_rfl)
theorem selNamesUpto_holds : Rows.SelNamesUptoCardSaid :=
  Claim7.holds_tied_plain_at .later [] _ _ _ _ snames_said (fun _ h => by cases h) HW (fun _ h => by cases h) selNamesUpto_row_tie rfl ⟨rfl, rfl⟩ HW rfl snames_plain HW
end Go.Proofs.YtinolpaapcpijaaGreatDoor
