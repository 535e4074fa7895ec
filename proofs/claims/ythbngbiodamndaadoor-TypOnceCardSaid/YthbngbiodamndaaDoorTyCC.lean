/- TypOnce: for every input that the row admits the statement's function returns true and each argument reads as it did: the row, and the card that ties its listed variables to the program's text. -/
import Derived.Test.YthbngbiodamndaaDoorTyY
import Derived.Test.YthbngbiodamndaaDoorTyR
import Derived.Test.YthbngbiodamndaaDoorCards
import Derived.Test.YthbngbiodamndaaDoorTie
namespace Go.Proofs.YthbngbiodamndaaDoor
open Go Go.Sy Go.RowKit Go.ChangeShapes Go.WideShapes
set_option maxRecDepth 100000

theorem once_contract (H : Type) (enc : TypeId × Value → H) (W : World) (base : Nat) (args : Array Value) (ds gs : List (DataW H)) (before : List MemPlace)
    (hval : ∀ (j : Nat) t v, Tryd.f5.params[j]? = some t → args[j]? = some v → Value.okWide Tryd.prog W .any base t v)
    (hW : DataW.Whole enc Tryd.prog Tryd.f5.params.toList Rows.typOnceSpec.vars false W args.toList ds gs before) (hL : laidMetH Tryd.prog laidL W) (hsh : W.ShapedOpen Tryd.prog) :
    Calls Tryd.prog 5 args W fun e W' => ∃ v, e = .returned v ∧ Rows.typOnceSpec.post enc Tryd.prog Tryd.f5 false true false false W args v W' := by
  have hW' := hW
  obtain ⟨p, q, hA0, hV, rfl, hfz, hnd⟩ := hW
  have hA : DataW.TrodAll enc Tryd.prog W 0 (fun _ => true) true Tryd.f5.params.toList args.toList ds p := hA0
  rw [Tryd.params5] at hA hval
  obtain ⟨x0, xs0, d0, ds0, p0, q0, hargs, rfl, rfl, h0, t0⟩ := trodAll_cons hA
  obtain ⟨x1, xs1, d1, ds1, p1, q1, rfl, rfl, rfl, h1, t1⟩ := trodAll_cons t0
  obtain ⟨x2, xs2, d2, ds2, p2, q2, rfl, rfl, rfl, h2, t2⟩ := trodAll_cons t1
  obtain ⟨x3, xs3, d3, ds3, p3, q3, rfl, rfl, rfl, h3, t3⟩ := trodAll_cons t2
  obtain ⟨rfl, rfl, rfl⟩ := trodAll_nil t3
  obtain rfl : args = #[x0, x1, x2, x3] := by cases args; simp_all
  obtain ⟨rfl, rfl⟩ := trodVars_none hV
  obtain ⟨a0, k0, c0, v0, rfl, f0, r0⟩ := open_tys (hval 0 22 x0 rfl rfl) h0
  obtain ⟨v1, a1, k1, c1, b1, l1, e1, rfl, r1, f1, g1⟩ := open_ty (hval 1 31 x1 rfl rfl) h1
  obtain ⟨n2, rfl, _, _, w2⟩ := open_int Tryd.underlying3 (hval 2 3 x2 rfl rfl) h2
  obtain ⟨n3, rfl, _, _, w3⟩ := open_int Tryd.underlying3 (hval 3 3 x3 rfl rfl) h3
  have sat : Sat W [] [fL v0 a0 k0 c0, fW v1 a1 k1 c1, fK v1 b1 l1 e1] W := sat_first (by
    intro f hf
    simp only [List.mem_cons, List.mem_nil_iff, or_false] at hf
    rcases hf with rfl | rfl | rfl
    · exact f0
    · exact f1
    · exact g1)
  refine (once_c (R := fun v _ _ => v = .bool true) (glob_of hL hsh) v0 r0 v1 r1 n2 n3 (by repeat (first | exact mem0 | assumption | refine memS ?_)) (by repeat (first | exact mem0 | assumption | refine memS ?_)) (by repeat (first | exact mem0 | assumption | refine memS ?_)) rfl W sat).mono fun e W' hE => ?_
  obtain ⟨v, L', F', rfl, rfl, s'⟩ := hE
  exact ⟨_, rfl, post_true laidOut (by kernel_rfl) hW' s'.below rfl (by kernel_rfl) Tryd.underlying4 rfl⟩

theorem once_lifted (os : Os) (started : os.Started) (H : Type) (enc : TypeId × Value → H) (F : Stop.Interp) :
    ReturnsInHanded {} Tryd.checked os 5 .any ((OpenSpec.ofChange Rows.typOnceSpec).preRow enc Tryd.prog Tryd.f5 Rows.typOnceRow.domain false Rows.typOnceRow.laid) (((OpenSpec.ofChange Rows.typOnceSpec).at F).post enc Tryd.prog Tryd.f5 false true false false) := by
  have hx : ∃ places, DataW.whole enc Tryd.prog ((laidWorld os).forCall (fun _ _ => 0) ⟨#[], #[.slice none 0 0, .agg #[.int .i64 0, .string ⟨#[]⟩, .int .i64 0, .slice none 0 0, .slice none 0 0], .int .i64 0, .int .i64 0], []⟩).memory Tryd.f5.params.toList Rows.typOnceSpec.vars false
      [.slice none 0 0, .agg #[.int .i64 0, .string ⟨#[]⟩, .int .i64 0, .slice none 0 0, .slice none 0 0], .int .i64 0, .int .i64 0] 8 = some ([.nil, .agg [.lit (.int .i64 0), .lit (.string []), .lit (.int .i64 0), .nil, .nil], .lit (.int .i64 0), .lit (.int .i64 0)], [], places) := ⟨[], by kernel_rfl⟩
  obtain ⟨places, hx⟩ := hx
  refine returnsInHanded_of_row (C := Tryd.checked) (s := OpenSpec.ofChange Rows.typOnceSpec) own started (by kernel_rfl) Tryd.func5
    (witness_row_at (enc := enc) (C := Tryd.checked) false (laidWorld os) #[.slice none 0 0, .agg #[.int .i64 0, .string ⟨#[]⟩, .int .i64 0, .slice none 0 0, .slice none 0 0], .int .i64 0, .int .i64 0] rfl (by kernel_rfl) (by kernel_rfl) (by kernel_rfl)
      (OpenSpec.preRow_of_cond 8 hx (by kernel_rfl) (fun k hk => by cases hk) (by kernel_rfl) (laid_met os _))) ?_
  intro W base args ds gs before hval hW _ _ _ hL hsh _
  exact once_contract H enc W base args ds gs before hval hW hL hsh

theorem once_said : Rows.TypOnceSaid :=
  OpenClaim.holds_of_cond 5 Tryd.f5 rfl rfl rfl rfl rfl rfl rfl ⟨rfl, rfl, rfl, rfl, rfl⟩ rfl rfl rfl rfl rfl (by kernel_rfl) Tryd.func5 (by kernel_rfl)
    (of_decide_eq_true (by kernel_rfl)) (by unfold Func.isWrapper; first | (rw [if_pos (by decide +kernel)]; kernel_rfl) | (rw [if_neg (by decide +kernel)]; exact ⟨rfl, rfl⟩))
    (fun os started H enc _ F => by rw [OpenClaim.pre_eq_preRow]; exact once_lifted os started H enc F)

theorem once_plain (f : FuncId) (fn : Func) (hf : Tryd.pinned.checked.prog.funcNamed "indenture/indenturelaw10.TypOnce" = some f) (hfn : Tryd.pinned.checked.prog.funcs[f]? = some fn) :
    false = Tryd.pinned.checked.prog.looks [] ∧ ∀ (j : Nat) t, fn.params[j]? = some t → Tryd.pinned.checked.prog.wantsStandIn t = false := by
  obtain rfl : f = 5 := Option.some.inj ((show Tryd.prog.funcNamed "indenture/indenturelaw10.TypOnce" = some 5 by kernel_rfl).symm.trans hf) |>.symm
  obtain rfl : fn = Tryd.f5 := (Option.some.inj (Tryd.func5.symm.trans hfn)).symm
  refine ⟨by kernel_rfl, fun j t ht => ?_⟩
  rw [Tryd.params5] at ht
  have hm := Array.mem_of_getElem? ht
  simp only [List.mem_toArray, List.mem_cons, List.mem_nil_iff, or_false] at hm
  rcases hm with rfl | rfl | rfl | rfl
  · exact (show Tryd.prog.wantsStandIn 22 = false by kernel_rfl)
  · exact (show Tryd.prog.wantsStandIn 31 = false by kernel_rfl)
  · exact (show Tryd.prog.wantsStandIn 3 = false by kernel_rfl)
  · exact (show Tryd.prog.wantsStandIn 3 = false by kernel_rfl)

theorem typOnce_holds : Rows.TypOnceCardSaid :=
  Claim7.holds_tied_plain_at .later [] _ _ _ _ once_said (fun _ h => by cases h) (by kernel_rfl) (fun _ h => by cases h) typOnce_row_tie rfl ⟨rfl, rfl⟩ (by kernel_rfl) rfl once_plain (by kernel_rfl)
end Go.Proofs.YthbngbiodamndaaDoor
