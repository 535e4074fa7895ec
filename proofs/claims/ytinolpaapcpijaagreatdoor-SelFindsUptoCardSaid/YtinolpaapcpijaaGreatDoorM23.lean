/- Joined of my own texts: SeCA. -/
import Derived.Test.YtinolpaapcpijaaGreatDoorM22
import Derived.Test.YtinolpaapcpijaaGreatDoorCards
import Derived.Test.YtinolpaapcpijaaGreatDoorTie
namespace Go.Proofs.YtinolpaapcpijaaGreatDoor
open Go Go.Sy Go.RowKit Go.ChangeShapes Go.WideShapes
set_option maxRecDepth 100000
theorem sfinds_contract (H : Type) (enc : TypeId × Value → H) (W : World) (base : Nat) (args : Array Value) (ds gs : List (DataW H)) (before : List MemPlace)
    (hval : ∀ (j : Nat) t v, Tryz.f4.params[j]? = some t → args[j]? = some v → Value.okWide Tryz.prog W .any base t v)
    (hW : DataW.Whole enc Tryz.prog Tryz.f4.params.toList Rows.selFindsSpec.vars false W args.toList ds gs before) (hL : laidMetH Tryz.prog laidL W) (hsh : W.ShapedOpen Tryz.prog) (hB0 : Rows.uptoSmall H (ds ++ gs) = true) :
    Calls Tryz.prog 4 args W fun e W' => ∃ v, e = .returned v ∧ Rows.selFindsSpec.post enc Tryz.prog Tryz.f4 false true false false W args v W' := by
  have hW' := hW
  obtain ⟨p, q, hA0, hV, rfl, hfz, hnd⟩ := hW
  have hA : DataW.TrodAll enc Tryz.prog W 0 (fun _ => true) true Tryz.f4.params.toList args.toList ds p := hA0
  rw [Tryz.params4] at hA hval
  obtain ⟨x0, xs0, d0, ds0, p0, q0, hargs, rfl, rfl, h0, t0⟩ := trodAll_cons hA
  obtain ⟨x1, xs1, d1, ds1, p1, q1, rfl, rfl, rfl, h1, t1⟩ := trodAll_cons t0
  obtain ⟨x2, xs2, d2, ds2, p2, q2, rfl, rfl, rfl, h2, t2⟩ := trodAll_cons t1
  obtain ⟨x3, xs3, d3, ds3, p3, q3, rfl, rfl, rfl, h3, t3⟩ := trodAll_cons t2
  obtain ⟨x4, xs4, d4, ds4, p4, q4, rfl, rfl, rfl, h4, t4⟩ := trodAll_cons t3
  obtain ⟨rfl, rfl, rfl⟩ := trodAll_nil t4
  obtain rfl : args = #[x0, x1, x2, x3, x4] := by cases args; simp_all
  obtain ⟨rfl, rfl⟩ := trodVars_none hV
  have hB := of_decide_eq_true hB0
  rw [List.append_nil] at hB
  obtain ⟨a0, k0, c0, b0, l0, e0, v0, u0, rfl, f0, g0, r0, q0u⟩ := open_unit (hval 0 25 x0 rfl rfl) h0 (Nat.le_trans (bulk_part (by simp)) hB)
  obtain ⟨n1, rfl, _, _, w1⟩ := open_int Tryz.underlying3 (hval 1 3 x1 rfl rfl) h1
  obtain ⟨s2, rfl, z2⟩ := open_text (hval 2 9 x2 rfl rfl) h2
  obtain ⟨v3, a3, k3, c3, rfl, f3⟩ := open_sel (hval 3 47 x3 rfl rfl) h3
  obtain ⟨v4, a4, k4, c4, rfl, f4⟩ := open_sel (hval 4 47 x4 rfl rfl) h4
  have sat : Sat W [] [fL v0 a0 k0 c0, fN u0 b0 l0 e0, fI v3.path a3 k3 c3, fI v4.path a4 k4 c4] W := sat_first (by
    intro f hf
    simp only [List.mem_cons, List.mem_nil_iff, or_false] at hf
    rcases hf with rfl | rfl | rfl | rfl
    · exact f0
    · exact g0
    · exact f3
    exact f4)
  refine (selFinds_c (R := fun v _ _ => v = .bool true) (glob_of hL hsh) v0 u0 n1 s2 v3 v4 r0 q0u memA memA memA memA HW W sat).mono fun e W' hE => ?_
  obtain ⟨v, L', F', rfl, rfl, s'⟩ := hE
  exact ⟨_, rfl, post_true laidOut HY hW' s'.below rfl HY Tryz.underlying4 rfl⟩
theorem sfinds_lifted (os : Os) (started : os.Started) (H : Type) (enc : TypeId × Value → H) (F : Stop.Interp) :
    ReturnsInHanded {} Tryz.checked os 4 .any ((Rows.OpenSpec.upto Rows.selFindsSpec).preRow enc Tryz.prog Tryz.f4 Rows.selFindsUptoRow.domain false Rows.selFindsUptoRow.laid) (((Rows.OpenSpec.upto Rows.selFindsSpec).at F).post enc Tryz.prog Tryz.f4 false true false false) := by
  have hx : ∃ places, DataW.whole enc Tryz.prog ((laidWorld os).forCall (fun _ _ => 0) ⟨#[], #[.agg #[.slice none 0 0, .slice none 0 0], .int .i64 0, .string ⟨#[]⟩, .agg #[.bool false, .int .i64 0, .bool false, .bool false, .slice none 0 0], .agg #[.bool false, .int .i64 0, .bool false, .bool false, .slice none 0 0]], []⟩).memory Tryz.f4.params.toList Rows.selFindsSpec.vars false
      [.agg #[.slice none 0 0, .slice none 0 0], .int .i64 0, .string ⟨#[]⟩, .agg #[.bool false, .int .i64 0, .bool false, .bool false, .slice none 0 0], .agg #[.bool false, .int .i64 0, .bool false, .bool false, .slice none 0 0]] 8 = some ([.agg [.nil, .nil], .lit (.int .i64 0), .lit (.string []), .agg [.lit (.bool false), .lit (.int .i64 0), .lit (.bool false), .lit (.bool false), .nil], .agg [.lit (.bool false), .lit (.int .i64 0), .lit (.bool false), .lit (.bool false), .nil]], [], places) := ⟨[], by kernel_rfl⟩
  obtain ⟨places, hx⟩ := hx
  refine returnsInHanded_of_row (C := Tryz.checked) (s := (Rows.OpenSpec.upto Rows.selFindsSpec)) own started HY Tryz.func4
    (witness_row_at (enc := enc) (C := Tryz.checked) false (laidWorld os) #[.agg #[.slice none 0 0, .slice none 0 0], .int .i64 0, .string ⟨#[]⟩, .agg #[.bool false, .int .i64 0, .bool false, .bool false, .slice none 0 0], .agg #[.bool false, .int .i64 0, .bool false, .bool false, .slice none 0 0]] rfl HY HY HY
      (OpenSpec.preRow_of_cond 8 hx HY (fun k hk => by cases hk; kernel_rfl) HY (laid_met os _))) ?_
  intro W base args ds gs before hval hW _ hC _ hL hsh _
  exact sfinds_contract H enc W base args ds gs before hval hW hL hsh (hC _ rfl)
theorem sfinds_said : Rows.SelFindsUptoSaid :=
  OpenClaim.holds_of_cond 4 Tryz.f4 rfl rfl rfl rfl rfl rfl rfl ⟨rfl, rfl, rfl, rfl, rfl⟩ rfl rfl rfl rfl rfl HY Tryz.func4 HY
    (of_decide_eq_true HY) (by unfold Func.isWrapper; first | (rw [if_pos (by decide +kernel)]; kernel_rfl) | (rw [if_neg (by decide +kernel)]; exact ⟨rfl, rfl⟩))
    (fun os started H enc _ F => by rw [OpenClaim.pre_eq_preRow]; exact sfinds_lifted os started H enc F)
theorem sfinds_plain (f : FuncId) (fn : Func) (hf : Tryz.pinned.checked.prog.funcNamed "indenture/indenturelaw13.SelFinds" = some f) (hfn : Tryz.pinned.checked.prog.funcs[f]? = some fn) :
    false = Tryz.pinned.checked.prog.looks [] ∧ ∀ (j : Nat) t, fn.params[j]? = some t → Tryz.pinned.checked.prog.wantsStandIn t = false := by
  obtain rfl : f = 4 := Option.some.inj ((show Tryz.prog.funcNamed "indenture/indenturelaw13.SelFinds" = some 4 by kernel_rfl).symm.trans hf) |>.symm
  obtain rfl : fn = Tryz.f4 := (Option.some.inj (Tryz.func4.symm.trans hfn)).symm
  refine ⟨by kernel_rfl, fun j t ht => ?_⟩
  rw [Tryz.params4] at ht
  have hm := Array.mem_of_getElem? ht
  simp only [List.mem_toArray, List.mem_cons, List.mem_nil_iff, or_false] at hm
  rcases hm with rfl | rfl | rfl | rfl | rfl
  · exact (show Tryz.prog.wantsStandIn 25 = false by kernel_rfl)
  · exact (show Tryz.prog.wantsStandIn 3 = false by kernel_rfl)
  · exact (show Tryz.prog.wantsStandIn 9 = false by kernel_rfl)
  · exact (show Tryz.prog.wantsStandIn 47 = false by kernel_rfl)
  exact (show Tryz.prog.wantsStandIn 47 = false by kernel_rfl)
theorem selFindsUpto_holds : Rows.SelFindsUptoCardSaid :=
  Claim7.holds_tied_plain_at .later [] _ _ _ _ sfinds_said (fun _ h => by cases h) HY (fun _ h => by cases h) selFindsUpto_row_tie rfl ⟨rfl, rfl⟩ HY rfl sfinds_plain HY
end Go.Proofs.YtinolpaapcpijaaGreatDoor
