/- Joined of my own texts: PaR. -/
import Derived.Test.YtodaafgpfjcpgaaGreatDoorX25
import Derived.Test.YtodaafgpfjcpgaaGreatDoorRows
import Derived.Lib.LaidIn
import Derived.ChangeMaps5
namespace Go.Sy
open Go Go.Proofs Go.RowKit Go.ChangeShapes Go.WideShapes Go.Joins Go.Deep Go.Proofs.YtodaafgpfjcpgaaGreatDoor
set_option maxRecDepth 100000
theorem own : ownKnob Tryz.prog.godebug = none := by kernel_rfl
theorem laidOut : laidOutB Tryz.prog = true := by kernel_rfl
def laidL : List (String × DataW Unit) := [("indenture/scan.keys", Rows.laid_indenture_scan_keys), ("indenture/scan.ops", Rows.laid_indenture_scan_ops)]
def textData (zs : List Bs) : DataW Unit := .agg (zs.map fun z => .lit (.string z))
theorem keys_eq : (Rows.laid_indenture_scan_keys : DataW Unit) = textData keysB := by kernel_rfl
theorem ops_eq : (Rows.laid_indenture_scan_ops : DataW Unit) = textData opsB := by kernel_rfl
theorem texts_of_head {P : Program} {W : World} {name : String} {zs : List Bs} {rest : List (String × DataW Unit)} {g : Nat} {t e : TypeId} {n : Nat}
    (hg : P.globalNamed name = some g) (hty : (P.globals[g]?).map (·.type) = some t) (ht : P.underlying t = some (.array n e)) (he : P.underlying e = some .string) (hce : P.cellsOf e = 1)
    (h : laidMet P ((name, textData zs) :: rest) W) (i : Nat) (z : Bs) (hz : zs[i]? = some z) : W.cell? ⟨g, i, none⟩ = some (S z) := by
  obtain ⟨ps, ⟨g', t', cs, fuel, p, q, hg', ht', hvar, hd, _, _⟩, _⟩ := h
  obtain rfl := Option.some.inj (hg.symm.trans hg')
  obtain rfl := Option.some.inj (hty.symm.trans ht')
  obtain ⟨xs, m, _, hx, hl, hn, hi⟩ := DataW.trod_array ht hd
  have hxs : xs.map (·.1) = zs.map fun z => (DataW.lit (.string z) : DataW Unit) := by
    have := congrArg Prod.fst hx
    simpa [textData] using this.symm
  have hzl : zs.length = n := by
    have := congrArg List.length hxs
    simp at this; omega
  have hin : i < n := by rw [← hzl]; exact (List.getElem?_eq_some_iff.1 hz).1
  have h1 := hi i hin
  rw [hce, Nat.mul_one] at h1
  have hb : xs[i]? = some (xs[i]'HS) := List.getElem?_eq_getElem HS
  rw [hb] at h1
  obtain ⟨s, hc, hs, _⟩ := DataW.trod_string he h1
  have h2 : cs.toList[i]? = some (.string s) := by
    have := congrArg (·[0]?) hc
    simpa [List.getElem?_take, List.getElem?_drop] using this
  have h3 : (xs.map (·.1))[i]? = some (DataW.lit (.string z) : DataW Unit) := by rw [hxs]; simp [hz]
  rw [List.getElem?_map, hb, hs] at h3
  simp only [Option.map_some, Option.some.injEq, DataW.lit.injEq, Lit.string.injEq] at h3
  have := World.var?_cell hg hvar i
  rw [this]
  have h4 : S z = Value.string s := by rw [← h3]
  rw [h4]
  simpa using h2
abbrev opsF : Fact := Fact.at_ 0 0 (opsB.map fun x => D.val (S x))
abbrev keysF : Fact := Fact.slc (.slice (some ⟨1, 0, none⟩) 25 25) 1 (keysB.map eStr)
theorem globF {W : World} (hL : laidMetH Tryz.prog laidL W) : opsF.holds (cellsOfW W) ∧ keysF.holds (cellsOfW W) := by
  have h1 : laidMet Tryz.prog laidL W := hL
  have h2 : laidMet Tryz.prog (("indenture/scan.keys", textData keysB) :: laidL.drop 1) W := by rw [← keys_eq]; exact h1
  have h3 : laidMet Tryz.prog (("indenture/scan.ops", textData opsB) :: laidL.drop 2) W := by rw [← ops_eq]; exact laidMet.tail h1
  have kk := texts_of_head (g := 1) (t := 113) (e := 9) (n := 25) HR HR Tryz.underlying113 Tryz.underlying9 HR h2
  have oo := texts_of_head (g := 0) (t := 107) (e := 9) (n := 33) HR HR Tryz.underlying107 Tryz.underlying9 HR h3
  refine ⟨fun j d hj => ?_, ?_⟩
  · rw [List.getElem?_map] at hj
    obtain ⟨z, hz, rfl⟩ := Option.map_eq_some_iff.1 hj
    exact ⟨S z, by rw [Nat.zero_add]; exact oo j z hz, .val _⟩
  have := CR.slc (h := cellsOfW W) 1 (keysB.map eStr) 1 0 25 (fun i j => S (keysB.getD i [])) (by decide) (by decide)
    (fun i r hi => by
      rw [List.getElem?_map] at hi
      obtain ⟨z, _, rfl⟩ := Option.map_eq_some_iff.1 hi; rfl)
    (fun i r j d hi hj => by
      rw [List.getElem?_map] at hi
      obtain ⟨z, hz, rfl⟩ := Option.map_eq_some_iff.1 hi
      have hj0 : j = 0 := by
        have := (List.getElem?_eq_some_iff.1 hj).1
        simp at this; exact this
      subst hj0
      have := kk i z hz
      show W.cell? ⟨_, 0 + i * 1 + 0, none⟩ = _
      rw [Nat.zero_add, Nat.mul_one, Nat.add_zero, this, List.getD_eq_getElem?_getD, hz]; rfl)
    (fun i r j d hi hj => by
      rw [List.getElem?_map] at hi
      obtain ⟨z, hz, rfl⟩ := Option.map_eq_some_iff.1 hi
      have hj0 : j = 0 := by
        have := (List.getElem?_eq_some_iff.1 hj).1
        simp at this; exact this
      subst hj0
      simp at hj; subst hj
      rw [List.getD_eq_getElem?_getD, hz]; exact .val _)
  exact this
theorem glob_of {W : World} (hsh : W.ShapedOpen Tryz.prog) : ScanG W [opsF, keysF] := by
  refine ⟨?_, mem0, memS mem0⟩
  exact cell_of_shapedOpen_int (P := Tryz.prog) (g := 2) (t := 3) (zero := #[.int .i64 0]) hsh (of_decide_eq_true HR) HR rfl HR HR Tryz.underlying3
section
variable {Ht : Type} {enc : TypeId × Value → Ht} {W : World} {r : Reach} {b0 : Nat} {v : Value} {d : DataW Ht} {p : List MemPlace}
theorem open_text (hv : Value.okWide Tryz.prog W r b0 9 v) (h : DataW.Trod enc Tryz.prog W 0 (fun _ => true) true 9 v d p) : ∃ s : List UInt8, v = S s ∧ s.length ≤ maxLen := by
  obtain ⟨s, rfl, _, _, ws⟩ := Go.ChangeMaps.open_string Tryz.underlying9 hv h
  exact ⟨s.data.toList, by cases s; simp [S], by rw [Array.length_toList]; exact ws⟩
end
def flatS : DataW Unit → List Value
  | .agg xs => xs.map fun | .lit (.string s) => S s | _ => .nilIface
  | _ => []
noncomputable def laidWorld (os : Os) : World :=
  let w0 := World.holding Tryz.prog os ⟨#[], #[], []⟩
  let put (h : Array Obj) (g : Nat) (cs : Array Value) : Array Obj := h.modify g fun
    | .cells _ t frozen => .cells cs t frozen
    | o => o
  let h1 := put w0.heap 1 (flatS Rows.laid_indenture_scan_keys).toArray
  let h2 := put h1 0 (flatS Rows.laid_indenture_scan_ops).toArray
  { w0 with heap := h2 }
set_option maxRecDepth 1000000 in
theorem laid_met (os : Os) (args : Array Value) : laidMet Tryz.prog laidL ((laidWorld os).forCall (fun _ _ => 0) ⟨#[], args, []⟩).memory :=
  laidMet_of_run' 10 HR HR
end Go.Sy
