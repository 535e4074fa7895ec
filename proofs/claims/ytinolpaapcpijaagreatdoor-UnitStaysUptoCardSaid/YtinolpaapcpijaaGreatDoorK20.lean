/- Joined of my own texts: UnCB. -/
import Derived.Test.YtinolpaapcpijaaGreatDoorK19
import Derived.Test.YtinolpaapcpijaaGreatDoorCards
import Derived.Test.YtinolpaapcpijaaGreatDoorTie
namespace Go.Proofs.YtinolpaapcpijaaGreatDoor
open Go Go.Sy Go.RowKit Go.ChangeShapes Go.WideShapes
set_option maxRecDepth 100000
theorem ustays_contract (H : Type) (enc : TypeId × Value → H) (W : World) (base : Nat) (args : Array Value) (ds gs : List (DataW H)) (before : List MemPlace)
    (hval : ∀ (j : Nat) t v, Tryz.f3.params[j]? = some t → args[j]? = some v → Value.okWide Tryz.prog W .any base t v)
    (hW : DataW.Whole enc Tryz.prog Tryz.f3.params.toList Rows.unitStaysSpec.vars false W args.toList ds gs before) (hL : laidMetH Tryz.prog laidL W) (hsh : W.ShapedOpen Tryz.prog) (hB0 : Rows.uptoSmall H (ds ++ gs) = true) :
    Calls Tryz.prog 3 args W fun e W' => ∃ v, e = .returned v ∧ Rows.unitStaysSpec.post enc Tryz.prog Tryz.f3 false true false false W args v W' := by
  have hW' := hW
  obtain ⟨p, q, hA0, hV, rfl, hfz, hnd⟩ := hW
  have hA : DataW.TrodAll enc Tryz.prog W 0 (fun _ => true) true Tryz.f3.params.toList args.toList ds p := hA0
  rw [Tryz.params3] at hA hval
  obtain ⟨x0, xs0, d0, ds0, p0, q0, hargs, rfl, rfl, h0, t0⟩ := trodAll_cons hA
  obtain ⟨x1, xs1, d1, ds1, p1, q1, rfl, rfl, rfl, h1, t1⟩ := trodAll_cons t0
  obtain ⟨x2, xs2, d2, ds2, p2, q2, rfl, rfl, rfl, h2, t2⟩ := trodAll_cons t1
  obtain ⟨rfl, rfl, rfl⟩ := trodAll_nil t2
  obtain rfl : args = #[x0, x1, x2] := by cases args; simp_all
  obtain ⟨rfl, rfl⟩ := trodVars_none hV
  have hB := of_decide_eq_true hB0
  rw [List.append_nil] at hB
  obtain ⟨a0, k0, c0, b0, l0, e0, v0, u0, rfl, f0, g0, r0, q0u⟩ := open_unit (hval 0 25 x0 rfl rfl) h0 (Nat.le_trans (bulk_part (by simp)) hB)
  obtain ⟨v1, a1, k1, c1, b1, l1, e1, rfl, r1, f1, g1⟩ := open_tyB (hval 1 29 x1 rfl rfl) h1 (Nat.le_trans (bulk_part (by simp)) hB)
  obtain ⟨n2, rfl, _, _, w2⟩ := open_int Tryz.underlying3 (hval 2 3 x2 rfl rfl) h2
  have sat : Sat W [] [fL v0 a0 k0 c0, fN u0 b0 l0 e0, fW v1 a1 k1 c1, fK v1 b1 l1 e1] W := sat_first (by
    intro f hf
    simp only [List.mem_cons, List.mem_nil_iff, or_false] at hf
    rcases hf with rfl | rfl | rfl | rfl
    · exact f0
    · exact g0
    · exact f1
    · exact g1)
  refine (unitStays_c (R := fun v _ _ => v = .bool true) (glob_of hL hsh) v0 u0 v1 n2 r0 q0u r1 memA memA memA memA rfl W sat).mono fun e W' hE => ?_
  obtain ⟨v, L', F', rfl, rfl, s'⟩ := hE
  exact ⟨_, rfl, post_true laidOut (by kernel_rfl) hW' s'.below rfl (by kernel_rfl) Tryz.underlying4 rfl⟩
theorem ustays_lifted (os : Os) (started : os.Started) (H : Type) (enc : TypeId × Value → H) (F : Stop.Interp) :
    ReturnsInHanded {} Tryz.checked os 3 .any ((Rows.OpenSpec.upto Rows.unitStaysSpec).preRow enc Tryz.prog Tryz.f3 Rows.unitStaysUptoRow.domain false Rows.unitStaysUptoRow.laid) (((Rows.OpenSpec.upto Rows.unitStaysSpec).at F).post enc Tryz.prog Tryz.f3 false true false false) := by
  have hx : ∃ places, DataW.whole enc Tryz.prog ((laidWorld os).forCall (fun _ _ => 0) ⟨#[], #[.agg #[.slice none 0 0, .slice none 0 0], .agg #[.int .i64 0, .string ⟨#[]⟩, .int .i64 0, .slice none 0 0, .slice none 0 0], .int .i64 0], []⟩).memory Tryz.f3.params.toList Rows.unitStaysSpec.vars false
      [.agg #[.slice none 0 0, .slice none 0 0], .agg #[.int .i64 0, .string ⟨#[]⟩, .int .i64 0, .slice none 0 0, .slice none 0 0], .int .i64 0] 8 = some ([.agg [.nil, .nil], .agg [.lit (.int .i64 0), .lit (.string []), .lit (.int .i64 0), .nil, .nil], .lit (.int .i64 0)], [], places) := ⟨[], by kernel_rfl⟩
  obtain ⟨places, hx⟩ := hx
  refine returnsInHanded_of_row (C := Tryz.checked) (s := (Rows.OpenSpec.upto Rows.unitStaysSpec)) own started (by kernel_rfl) Tryz.func3
    (witness_row_at (enc := enc) (C := Tryz.checked) false (laidWorld os) #[.agg #[.slice none 0 0, .slice none 0 0], .agg #[.int .i64 0, .string ⟨#[]⟩, .int .i64 0, .slice none 0 0, .slice none 0 0], .int .i64 0] rfl (by kernel_rfl) (by kernel_rfl) (by kernel_rfl)
      (OpenSpec.preRow_of_cond 8 hx (by kernel_rfl) (fun k hk => by cases hk; kernel_rfl) (by kernel_rfl) (laid_met os _))) ?_
  intro W base args ds gs before hval hW _ hC _ hL hsh _
  exact ustays_contract H enc W base args ds gs before hval hW hL hsh (hC _ rfl)
theorem ustays_said : Rows.UnitStaysUptoSaid :=
  OpenClaim.holds_of_cond 3 Tryz.f3 rfl rfl rfl rfl rfl rfl rfl ⟨rfl, rfl, rfl, rfl, rfl⟩ rfl rfl rfl rfl rfl (by kernel_rfl) Tryz.func3 (by kernel_rfl)
    (of_decide_eq_true (by kernel_rfl)) (by unfold Func.isWrapper; first | (rw [if_pos (by decide +kernel)]; kernel_rfl) | (rw [if_neg (by decide +kernel)]; exact ⟨rfl, rfl⟩))
    (fun os started H enc _ F => by rw [OpenClaim.pre_eq_preRow]; exact ustays_lifted os started H enc F)
theorem ustays_plain (f : FuncId) (fn : Func) (hf : Tryz.pinned.checked.prog.funcNamed "indenture/indenturelaw12.UnitStays" = some f) (hfn : Tryz.pinned.checked.prog.funcs[f]? = some fn) :
    false = Tryz.pinned.checked.prog.looks [] ∧ ∀ (j : Nat) t, fn.params[j]? = some t → Tryz.pinned.checked.prog.wantsStandIn t = false := by
  obtain rfl : f = 3 := Option.some.inj ((show Tryz.prog.funcNamed "indenture/indenturelaw12.UnitStays" = some 3 by kernel_rfl).symm.trans hf) |>.symm
  obtain rfl : fn = Tryz.f3 := (Option.some.inj (Tryz.func3.symm.trans hfn)).symm
  refine ⟨by kernel_rfl, fun j t ht => ?_⟩
  rw [Tryz.params3] at ht
  have hm := Array.mem_of_getElem? ht
  simp only [List.mem_toArray, List.mem_cons, List.mem_nil_iff, or_false] at hm
  rcases hm with rfl | rfl | rfl
  · exact (show Tryz.prog.wantsStandIn 25 = false by kernel_rfl)
  · exact (show Tryz.prog.wantsStandIn 29 = false by kernel_rfl)
  · exact (show Tryz.prog.wantsStandIn 3 = false by kernel_rfl)
theorem unitStaysUpto_holds : Rows.UnitStaysUptoCardSaid :=
  Claim7.holds_tied_plain_at .later [] _ _ _ _ ustays_said (fun _ h => by cases h) (by kernel_rfl) (fun _ h => by cases h) unitStaysUpto_row_tie rfl ⟨rfl, rfl⟩ (by kernel_rfl) rfl ustays_plain (by kernel_rfl)
end Go.Proofs.YtinolpaapcpijaaGreatDoor
