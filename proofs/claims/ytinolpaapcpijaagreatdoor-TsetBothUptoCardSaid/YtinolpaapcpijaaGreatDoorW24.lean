/- Joined of my own texts: TbCA0. -/
import Derived.Test.YtinolpaapcpijaaGreatDoorW23
import Derived.Test.YtinolpaapcpijaaGreatDoorCards
import Derived.Test.YtinolpaapcpijaaGreatDoorTie
namespace Go.Proofs.YtinolpaapcpijaaGreatDoor
open Go Go.Sy Go.RowKit Go.ChangeShapes Go.WideShapes
set_option maxRecDepth 100000
theorem tboth_contract (H : Type) (enc : TypeId × Value → H) (W : World) (base : Nat) (args : Array Value) (ds gs : List (DataW H)) (before : List MemPlace)
    (hval : ∀ (j : Nat) t v, Tryz.f7.params[j]? = some t → args[j]? = some v → Value.okWide Tryz.prog W .any base t v)
    (hW : DataW.Whole enc Tryz.prog Tryz.f7.params.toList Rows.tsetBothSpec.vars false W args.toList ds gs before) (hL : laidMetH Tryz.prog laidL W) (hsh : W.ShapedOpen Tryz.prog) (hB0 : Rows.uptoSmall H (ds ++ gs) = true) :
    Calls Tryz.prog 7 args W fun e W' => ∃ v, e = .returned v ∧ Rows.tsetBothSpec.post enc Tryz.prog Tryz.f7 false true false false W args v W' := by
  have hW' := hW
  obtain ⟨p, q, hA0, hV, rfl, hfz, hnd⟩ := hW
  have hA : DataW.TrodAll enc Tryz.prog W 0 (fun _ => true) true Tryz.f7.params.toList args.toList ds p := hA0
  rw [Tryz.params7] at hA hval
  obtain ⟨x0, xs0, d0, ds0, p0, q0, hargs, rfl, rfl, h0, t0⟩ := trodAll_cons hA
  obtain ⟨x1, xs1, d1, ds1, p1, q1, rfl, rfl, rfl, h1, t1⟩ := trodAll_cons t0
  obtain ⟨x2, xs2, d2, ds2, p2, q2, rfl, rfl, rfl, h2, t2⟩ := trodAll_cons t1
  obtain ⟨x3, xs3, d3, ds3, p3, q3, rfl, rfl, rfl, h3, t3⟩ := trodAll_cons t2
  obtain ⟨rfl, rfl, rfl⟩ := trodAll_nil t3
  obtain rfl : args = #[x0, x1, x2, x3] := by cases args; simp_all
  obtain ⟨rfl, rfl⟩ := trodVars_none hV
  have hB := of_decide_eq_true hB0
  rw [List.append_nil] at hB
  obtain ⟨a0, k0, c0, b0, l0, e0, v0, u0, rfl, f0, g0, r0, q0u⟩ := open_unit (hval 0 25 x0 rfl rfl) h0 (Nat.le_trans (bulk_part (by simp)) hB)
  obtain ⟨n1, rfl, _, _, w1⟩ := open_int Tryz.underlying3 (hval 1 3 x1 rfl rfl) h1
  obtain ⟨n2, rfl, _, _, w2⟩ := open_int Tryz.underlying3 (hval 2 3 x2 rfl rfl) h2
  obtain ⟨n3, rfl, _, _, w3⟩ := open_int Tryz.underlying3 (hval 3 3 x3 rfl rfl) h3
  have sat : Sat W [] [fL v0 a0 k0 c0, fN u0 b0 l0 e0] W := sat_first (by
    intro f hf
    simp only [List.mem_cons, List.mem_nil_iff, or_false] at hf
    rcases hf with rfl | rfl
    · exact f0
    exact g0)
  refine (tsetBoth_c (R := fun v _ _ => v = .bool true) (glob_of hL hsh) v0 u0 n1 n2 n3 r0 q0u memA memA HU W sat).mono fun e W' hE => ?_
  obtain ⟨v, L', F', rfl, rfl, s'⟩ := hE
  exact ⟨_, rfl, post_true laidOut HV hW' s'.below rfl HV Tryz.underlying4 rfl⟩
theorem tboth_lifted (os : Os) (started : os.Started) (H : Type) (enc : TypeId × Value → H) (F : Stop.Interp) :
    ReturnsInHanded {} Tryz.checked os 7 .any ((Rows.OpenSpec.upto Rows.tsetBothSpec).preRow enc Tryz.prog Tryz.f7 Rows.tsetBothUptoRow.domain false Rows.tsetBothUptoRow.laid) (((Rows.OpenSpec.upto Rows.tsetBothSpec).at F).post enc Tryz.prog Tryz.f7 false true false false) := by
  have hx : ∃ places, DataW.whole enc Tryz.prog ((laidWorld os).forCall (fun _ _ => 0) ⟨#[], #[.agg #[.slice none 0 0, .slice none 0 0], .int .i64 0, .int .i64 0, .int .i64 0], []⟩).memory Tryz.f7.params.toList Rows.tsetBothSpec.vars false
      [.agg #[.slice none 0 0, .slice none 0 0], .int .i64 0, .int .i64 0, .int .i64 0] 8 = some ([.agg [.nil, .nil], .lit (.int .i64 0), .lit (.int .i64 0), .lit (.int .i64 0)], [], places) := ⟨[], by kernel_rfl⟩
  obtain ⟨places, hx⟩ := hx
  refine returnsInHanded_of_row (C := Tryz.checked) (s := (Rows.OpenSpec.upto Rows.tsetBothSpec)) own started HV Tryz.func7
    (witness_row_at (enc := enc) (C := Tryz.checked) false (laidWorld os) #[.agg #[.slice none 0 0, .slice none 0 0], .int .i64 0, .int .i64 0, .int .i64 0] rfl HV HV HV
      (OpenSpec.preRow_of_cond 8 hx HV (fun k hk => by cases hk; kernel_rfl) HV (laid_met os _))) ?_
  intro W base args ds gs before hval hW _ hC _ hL hsh _
  exact tboth_contract H enc W base args ds gs before hval hW hL hsh (hC _ rfl)
end Go.Proofs.YtinolpaapcpijaaGreatDoor
