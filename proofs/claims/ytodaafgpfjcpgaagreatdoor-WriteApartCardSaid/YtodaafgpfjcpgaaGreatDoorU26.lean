/- Joined of my own texts: WrCA. -/
import Derived.Test.YtodaafgpfjcpgaaGreatDoorU25
import Derived.Test.YtodaafgpfjcpgaaGreatDoorCards
import Derived.Test.YtodaafgpfjcpgaaGreatDoorTie
namespace Go.Proofs.YtodaafgpfjcpgaaGreatDoor
open Go Go.Sy Go.RowKit Go.ChangeShapes Go.WideShapes
set_option maxRecDepth 100000
theorem wapart_contract (H : Type) (enc : TypeId × Value → H) (W : World) (base : Nat) (args : Array Value) (ds gs : List (DataW H)) (before : List MemPlace)
    (hval : ∀ (j : Nat) t v, Tryz.f4.params[j]? = some t → args[j]? = some v → Value.okWide Tryz.prog W .any base t v)
    (hW : DataW.Whole enc Tryz.prog Tryz.f4.params.toList Rows.writeApartSpec.vars false W args.toList ds gs before) (hL : laidMetH Tryz.prog laidL W) (hsh : W.ShapedOpen Tryz.prog) :
    Calls Tryz.prog 4 args W fun e W' => ∃ v, e = .returned v ∧ Rows.writeApartSpec.post enc Tryz.prog Tryz.f4 false true false false W args v W' := by
  have hW' := hW
  obtain ⟨p, q, hA0, hV, rfl, hfz, hnd⟩ := hW
  have hA : DataW.TrodAll enc Tryz.prog W 0 (fun _ => true) true Tryz.f4.params.toList args.toList ds p := hA0
  rw [Tryz.params4] at hA hval
  obtain ⟨x0, xs0, d0, ds0, p0, q0, hargs, rfl, rfl, h0, t0⟩ := trodAll_cons hA
  obtain ⟨x1, xs1, d1, ds1, p1, q1, rfl, rfl, rfl, h1, t1⟩ := trodAll_cons t0
  obtain ⟨rfl, rfl, rfl⟩ := trodAll_nil t1
  obtain rfl : args = #[x0, x1] := by cases args; simp_all
  obtain ⟨rfl, rfl⟩ := trodVars_none hV
  obtain ⟨a0, k0, c0, v0, rfl, f0, r0⟩ := open_nods (hval 0 22 x0 rfl rfl) h0
  obtain ⟨a1, k1, c1, v1, rfl, f1, r1⟩ := open_nods (hval 1 22 x1 rfl rfl) h1
  have gf := globF hL
  have sat : Sat W [] [fNod v0 a0 k0 c0, fNod v1 a1 k1 c1, opsF, keysF] W := sat_first (by
    intro f hf
    simp only [List.mem_cons, List.mem_nil_iff, or_false] at hf
    rcases hf with rfl | rfl | rfl | rfl
    · exact f0
    · exact f1
    · exact gf.1
    exact gf.2)
  refine (writeApart_c (R := fun v _ _ => v = .bool true) ((glob_of hsh).more (fun x hx => by repeat (first | exact hx | refine List.mem_cons_of_mem _ ?_))) v0 v1 memA memA HD W sat).mono fun e W' hE => ?_
  obtain ⟨v, L', F', rfl, rfl, s'⟩ := hE
  exact ⟨_, rfl, post_true laidOut HE hW' s'.below rfl HE Tryz.underlying4 rfl⟩
theorem wapart_lifted (os : Os) (started : os.Started) (H : Type) (enc : TypeId × Value → H) (F : Stop.Interp) :
    ReturnsInHanded {} Tryz.checked os 4 .any ((OpenSpec.ofChange Rows.writeApartSpec).preRow enc Tryz.prog Tryz.f4 Rows.writeApartRow.domain false Rows.writeApartRow.laid) (((OpenSpec.ofChange Rows.writeApartSpec).at F).post enc Tryz.prog Tryz.f4 false true false false) := by
  have hx : ∃ places, DataW.whole enc Tryz.prog ((laidWorld os).forCall (fun _ _ => 0) ⟨#[], #[.slice none 0 0, .slice none 0 0], []⟩).memory Tryz.f4.params.toList Rows.writeApartSpec.vars false
      [.slice none 0 0, .slice none 0 0] 8 = some ([.nil, .nil], [], places) := ⟨[], by kernel_rfl⟩
  obtain ⟨places, hx⟩ := hx
  refine returnsInHanded_of_row (C := Tryz.checked) (s := (OpenSpec.ofChange Rows.writeApartSpec)) own started HE Tryz.func4
    (witness_row_at (enc := enc) (C := Tryz.checked) false (laidWorld os) #[.slice none 0 0, .slice none 0 0] rfl HE HE HE
      (OpenSpec.preRow_of_cond 8 hx HE (fun k hk => by cases hk) HE (laid_met os _))) ?_
  intro W base args ds gs before hval hW _ _ _ hL hsh _
  exact wapart_contract H enc W base args ds gs before hval hW hL hsh
theorem wapart_said : Rows.WriteApartSaid :=
  OpenClaim.holds_of_cond 4 Tryz.f4 rfl rfl rfl rfl rfl rfl rfl ⟨rfl, rfl, rfl, rfl, rfl⟩ rfl rfl rfl rfl rfl HE Tryz.func4 HE
    (of_decide_eq_true HE) (by unfold Func.isWrapper; first | (rw [if_pos (by decide +kernel)]; kernel_rfl) | (rw [if_neg (by decide +kernel)]; exact ⟨rfl, rfl⟩))
    (fun os started H enc _ F => by rw [OpenClaim.pre_eq_preRow]; exact wapart_lifted os started H enc F)
theorem wapart_plain (f : FuncId) (fn : Func) (hf : Tryz.pinned.checked.prog.funcNamed "indenture/indenturelaw09.WriteApart" = some f) (hfn : Tryz.pinned.checked.prog.funcs[f]? = some fn) :
    true = Tryz.pinned.checked.prog.looks [] ∧ ∀ (j : Nat) t, fn.params[j]? = some t → Tryz.pinned.checked.prog.wantsStandIn t = false := by
  obtain rfl : f = 4 := Option.some.inj ((show Tryz.prog.funcNamed "indenture/indenturelaw09.WriteApart" = some 4 by kernel_rfl).symm.trans hf) |>.symm
  obtain rfl : fn = Tryz.f4 := (Option.some.inj (Tryz.func4.symm.trans hfn)).symm
  refine ⟨by kernel_rfl, fun j t ht => ?_⟩
  rw [Tryz.params4] at ht
  have hm := Array.mem_of_getElem? ht
  simp only [List.mem_toArray, List.mem_cons, List.mem_nil_iff, or_false] at hm
  rcases hm with rfl | rfl
  · exact (show Tryz.prog.wantsStandIn 22 = false by kernel_rfl)
  exact (show Tryz.prog.wantsStandIn 22 = false by kernel_rfl)
theorem writeApart_holds : Rows.WriteApartCardSaid :=
  Claim7.holds_tied_plain_at .later [] _ _ _ _ wapart_said (fun _ h => by cases h) HE (fun _ h => by cases h) writeApart_row_tie rfl ⟨rfl, rfl⟩ HE rfl wapart_plain HE
end Go.Proofs.YtodaafgpfjcpgaaGreatDoor
