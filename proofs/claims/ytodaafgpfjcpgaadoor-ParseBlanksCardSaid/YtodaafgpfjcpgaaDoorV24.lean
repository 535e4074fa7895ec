/- Joined of my own texts: PaCB. -/
import Derived.Test.YtodaafgpfjcpgaaDoorV23
import Derived.Test.YtodaafgpfjcpgaaDoorCards
import Derived.Test.YtodaafgpfjcpgaaDoorTie
namespace Go.Proofs.YtodaafgpfjcpgaaDoor
open Go Go.Sy Go.RowKit Go.ChangeShapes Go.WideShapes
set_option maxRecDepth 100000
theorem pblanks_contract (H : Type) (enc : TypeId × Value → H) (W : World) (base : Nat) (args : Array Value) (ds gs : List (DataW H)) (before : List MemPlace)
    (hval : ∀ (j : Nat) t v, Tryd.f3.params[j]? = some t → args[j]? = some v → Value.okWide Tryd.prog W .any base t v)
    (hW : DataW.Whole enc Tryd.prog Tryd.f3.params.toList Rows.parseBlanksSpec.vars false W args.toList ds gs before) (hL : laidMetH Tryd.prog laidL W) (hsh : W.ShapedOpen Tryd.prog) :
    Calls Tryd.prog 3 args W fun e W' => ∃ v, e = .returned v ∧ Rows.parseBlanksSpec.post enc Tryd.prog Tryd.f3 false true false false W args v W' := by
  have hW' := hW
  obtain ⟨p, q, hA0, hV, rfl, hfz, hnd⟩ := hW
  have hA : DataW.TrodAll enc Tryd.prog W 0 (fun _ => true) true Tryd.f3.params.toList args.toList ds p := hA0
  rw [Tryd.params3] at hA hval
  obtain ⟨x0, xs0, d0, ds0, p0, q0, hargs, rfl, rfl, h0, t0⟩ := trodAll_cons hA
  obtain ⟨rfl, rfl, rfl⟩ := trodAll_nil t0
  obtain rfl : args = #[x0] := by cases args; simp_all
  obtain ⟨rfl, rfl⟩ := trodVars_none hV
  obtain ⟨s0, rfl, z0⟩ := open_text (hval 0 9 x0 rfl rfl) h0
  have gf := globF hL
  have sat : Sat W [] [opsF, keysF] W := sat_first (by
    intro f hf
    simp only [List.mem_cons, List.mem_nil_iff, or_false] at hf
    rcases hf with rfl | rfl
    · exact gf.1
    exact gf.2)
  refine (parseBlanks_c (R := fun v _ _ => v = .bool true) (glob_of hsh) s0 He W sat).mono fun e W' hE => ?_
  obtain ⟨v, L', F', rfl, rfl, s'⟩ := hE
  exact ⟨_, rfl, post_true laidOut Hf hW' s'.below rfl Hf Tryd.underlying4 rfl⟩
theorem pblanks_lifted (os : Os) (started : os.Started) (H : Type) (enc : TypeId × Value → H) (F : Stop.Interp) :
    ReturnsInHanded {} Tryd.checked os 3 .any ((OpenSpec.ofChange Rows.parseBlanksSpec).preRow enc Tryd.prog Tryd.f3 Rows.parseBlanksRow.domain false Rows.parseBlanksRow.laid) (((OpenSpec.ofChange Rows.parseBlanksSpec).at F).post enc Tryd.prog Tryd.f3 false true false false) := by
  have hx : ∃ places, DataW.whole enc Tryd.prog ((laidWorld os).forCall (fun _ _ => 0) ⟨#[], #[.string ⟨#[]⟩], []⟩).memory Tryd.f3.params.toList Rows.parseBlanksSpec.vars false
      [.string ⟨#[]⟩] 8 = some ([.lit (.string [])], [], places) := ⟨[], by kernel_rfl⟩
  obtain ⟨places, hx⟩ := hx
  refine returnsInHanded_of_row (C := Tryd.checked) (s := (OpenSpec.ofChange Rows.parseBlanksSpec)) own started Hf Tryd.func3
    (witness_row_at (enc := enc) (C := Tryd.checked) false (laidWorld os) #[.string ⟨#[]⟩] rfl Hf Hf Hf
      (OpenSpec.preRow_of_cond 8 hx Hf (fun k hk => by cases hk) Hf (laid_met os _))) ?_
  intro W base args ds gs before hval hW _ _ _ hL hsh _
  exact pblanks_contract H enc W base args ds gs before hval hW hL hsh
theorem pblanks_said : Rows.ParseBlanksSaid :=
  OpenClaim.holds_of_cond 3 Tryd.f3 rfl rfl rfl rfl rfl rfl rfl ⟨rfl, rfl, rfl, rfl, rfl⟩ rfl rfl rfl rfl rfl Hf Tryd.func3 Hf
    (of_decide_eq_true Hf) (by unfold Func.isWrapper; first | (rw [if_pos (by decide +kernel)]; kernel_rfl) | (rw [if_neg (by decide +kernel)]; exact ⟨rfl, rfl⟩))
    (fun os started H enc _ F => by rw [OpenClaim.pre_eq_preRow]; exact pblanks_lifted os started H enc F)
theorem pblanks_plain (f : FuncId) (fn : Func) (hf : Tryd.pinned.checked.prog.funcNamed "indenture/indenturelaw08.ParseBlanks" = some f) (hfn : Tryd.pinned.checked.prog.funcs[f]? = some fn) :
    true = Tryd.pinned.checked.prog.looks [] ∧ ∀ (j : Nat) t, fn.params[j]? = some t → Tryd.pinned.checked.prog.wantsStandIn t = false := by
  obtain rfl : f = 3 := Option.some.inj ((show Tryd.prog.funcNamed "indenture/indenturelaw08.ParseBlanks" = some 3 by kernel_rfl).symm.trans hf) |>.symm
  obtain rfl : fn = Tryd.f3 := (Option.some.inj (Tryd.func3.symm.trans hfn)).symm
  refine ⟨by kernel_rfl, fun j t ht => ?_⟩
  rw [Tryd.params3] at ht
  have hm := Array.mem_of_getElem? ht
  simp only [List.mem_toArray, List.mem_cons, List.mem_nil_iff, or_false] at hm
  subst hm
  exact (show Tryd.prog.wantsStandIn 9 = false by kernel_rfl)
theorem parseBlanks_holds : Rows.ParseBlanksCardSaid :=
  Claim7.holds_tied_plain_at .later [] _ _ _ _ pblanks_said (fun _ h => by cases h) Hf (fun _ h => by cases h) parseBlanks_row_tie rfl ⟨rfl, rfl⟩ Hf rfl pblanks_plain Hf
end Go.Proofs.YtodaafgpfjcpgaaDoor
