/- TypArenas: for every input that the row admits the statement's function returns true and each argument reads as it did: the row, and the card that ties its listed variables to the program's text. -/
import Derived.Test.YthbngbiodamndaaDoorTyF
import Derived.Test.YthbngbiodamndaaDoorTyR
import Derived.Test.YthbngbiodamndaaDoorCards
import Derived.Test.YthbngbiodamndaaDoorTie
namespace Go.Proofs.YthbngbiodamndaaDoor
open Go Go.Sy Go.RowKit Go.ChangeShapes Go.WideShapes
set_option maxRecDepth 100000

theorem arenas_contract (H : Type) (enc : TypeId × Value → H) (W : World) (base : Nat) (args : Array Value) (ds gs : List (DataW H)) (before : List MemPlace)
    (hval : ∀ (j : Nat) t v, Tryd.f3.params[j]? = some t → args[j]? = some v → Value.okWide Tryd.prog W .any base t v)
    (hW : DataW.Whole enc Tryd.prog Tryd.f3.params.toList Rows.typArenasSpec.vars false W args.toList ds gs before) (hL : laidMetH Tryd.prog laidL W) (hsh : W.ShapedOpen Tryd.prog) :
    Calls Tryd.prog 3 args W fun e W' => ∃ v, e = .returned v ∧ Rows.typArenasSpec.post enc Tryd.prog Tryd.f3 false true false false W args v W' := by
  have hW' := hW
  obtain ⟨p, q, hA0, hV, rfl, hfz, hnd⟩ := hW
  have hA : DataW.TrodAll enc Tryd.prog W 0 (fun _ => true) true Tryd.f3.params.toList args.toList ds p := hA0
  rw [Tryd.params3] at hA hval
  obtain ⟨x0, xs0, d0, ds0, p0, q0, hargs, rfl, rfl, h0, t0⟩ := trodAll_cons hA
  obtain ⟨rfl, rfl, rfl⟩ := trodAll_nil t0
  obtain rfl : args = #[x0] := by cases args; simp_all
  obtain ⟨rfl, rfl⟩ := trodVars_none hV
  obtain ⟨a0, k0, c0, v0, rfl, f0, r0⟩ := open_tys (hval 0 22 x0 rfl rfl) h0
  have sat : Sat W [] [fL v0 a0 k0 c0] W := sat_first (by
    intro f hf
    simp only [List.mem_cons, List.mem_nil_iff, or_false] at hf
    rcases hf with rfl
    · exact f0)
  refine (arenas_c (R := fun v _ _ => v = .bool true) (glob_of hL hsh) v0 r0 (by repeat (first | exact mem0 | assumption | refine memS ?_)) rfl W sat).mono fun e W' hE => ?_
  obtain ⟨v, L', F', rfl, rfl, s'⟩ := hE
  exact ⟨_, rfl, post_true laidOut (by kernel_rfl) hW' s'.below rfl (by kernel_rfl) Tryd.underlying4 rfl⟩

theorem arenas_lifted (os : Os) (started : os.Started) (H : Type) (enc : TypeId × Value → H) (F : Stop.Interp) :
    ReturnsInHanded {} Tryd.checked os 3 .any ((OpenSpec.ofChange Rows.typArenasSpec).preRow enc Tryd.prog Tryd.f3 Rows.typArenasRow.domain false Rows.typArenasRow.laid) (((OpenSpec.ofChange Rows.typArenasSpec).at F).post enc Tryd.prog Tryd.f3 false true false false) := by
  have hx : ∃ places, DataW.whole enc Tryd.prog ((laidWorld os).forCall (fun _ _ => 0) ⟨#[], #[.slice none 0 0], []⟩).memory Tryd.f3.params.toList Rows.typArenasSpec.vars false
      [.slice none 0 0] 8 = some ([.nil], [], places) := ⟨[], by kernel_rfl⟩
  obtain ⟨places, hx⟩ := hx
  refine returnsInHanded_of_row (C := Tryd.checked) (s := OpenSpec.ofChange Rows.typArenasSpec) own started (by kernel_rfl) Tryd.func3
    (witness_row_at (enc := enc) (C := Tryd.checked) false (laidWorld os) #[.slice none 0 0] rfl (by kernel_rfl) (by kernel_rfl) (by kernel_rfl)
      (OpenSpec.preRow_of_cond 8 hx (by kernel_rfl) (fun k hk => by cases hk) (by kernel_rfl) (laid_met os _))) ?_
  intro W base args ds gs before hval hW _ _ _ hL hsh _
  exact arenas_contract H enc W base args ds gs before hval hW hL hsh

theorem arenas_said : Rows.TypArenasSaid :=
  OpenClaim.holds_of_cond 3 Tryd.f3 rfl rfl rfl rfl rfl rfl rfl ⟨rfl, rfl, rfl, rfl, rfl⟩ rfl rfl rfl rfl rfl (by kernel_rfl) Tryd.func3 (by kernel_rfl)
    (of_decide_eq_true (by kernel_rfl)) (by unfold Func.isWrapper; first | (rw [if_pos (by decide +kernel)]; kernel_rfl) | (rw [if_neg (by decide +kernel)]; exact ⟨rfl, rfl⟩))
    (fun os started H enc _ F => by rw [OpenClaim.pre_eq_preRow]; exact arenas_lifted os started H enc F)

theorem arenas_plain (f : FuncId) (fn : Func) (hf : Tryd.pinned.checked.prog.funcNamed "indenture/indenturelaw10.TypArenas" = some f) (hfn : Tryd.pinned.checked.prog.funcs[f]? = some fn) :
    false = Tryd.pinned.checked.prog.looks [] ∧ ∀ (j : Nat) t, fn.params[j]? = some t → Tryd.pinned.checked.prog.wantsStandIn t = false := by
  obtain rfl : f = 3 := Option.some.inj ((show Tryd.prog.funcNamed "indenture/indenturelaw10.TypArenas" = some 3 by kernel_rfl).symm.trans hf) |>.symm
  obtain rfl : fn = Tryd.f3 := (Option.some.inj (Tryd.func3.symm.trans hfn)).symm
  refine ⟨by kernel_rfl, fun j t ht => ?_⟩
  rw [Tryd.params3] at ht
  have hm := Array.mem_of_getElem? ht
  simp only [List.mem_toArray, List.mem_cons, List.mem_nil_iff, or_false] at hm
  subst hm
  exact (show Tryd.prog.wantsStandIn 22 = false by kernel_rfl)

theorem typArenas_holds : Rows.TypArenasCardSaid :=
  Claim7.holds_tied_plain_at .later [] _ _ _ _ arenas_said (fun _ h => by cases h) (by kernel_rfl) (fun _ h => by cases h) typArenas_row_tie rfl ⟨rfl, rfl⟩ (by kernel_rfl) rfl arenas_plain (by kernel_rfl)
end Go.Proofs.YthbngbiodamndaaDoor
