/- The arena of the basic types; a type's key as a map's key: the walks. -/
import Derived.Test.YthbngbiodamndaaDoorTyp5
namespace Go.Sy
open Go Go.Proofs Go.RowKit

/-! ### Keys -/
theorem isAgg_int {P : Program} {t : TypeId} {k : IntKind} (w : World) (h : P.underlying t = some (.int k)) : (isAgg t).run P w = .ok false w := by simp [isAgg, run_underlying h]
theorem isAgg_str {P : Program} {t : TypeId} (w : World) (h : P.underlying t = some .string) : (isAgg t).run P w = .ok false w := by simp [isAgg, run_underlying h]
theorem part_get {P : Program} {t : TypeId} {cs : Array Value} {off : Nat} {v : Value} (w : World) (h : (isAgg t).run P w = .ok false w) (hv : cs[off]? = some v) : (part t cs off).run P w = .ok v w := by
  simp [part, h, hv, Result.andThen]
theorem S_eq (x y : List UInt8) : ((⟨x.toArray⟩ : ByteArray).toList == (⟨y.toArray⟩ : ByteArray).toList) = (x == y) := by rw [S_toList, S_toList]
def keyB (x y : Key) : Bool := x.kind == y.kind && (x.n == y.n && (x.name == y.name && (x.words == y.words && (x.kids == y.kids && x.lengths == y.lengths))))
theorem keyB_iff (x y : Key) : keyB x y = true ↔ x = y := by
  cases x; cases y; simp [keyB]
theorem eqF_step {P : Program} {w : World} {d : Nat} {xs ys : Array Value} {f : Field} {fs : List Field} {a b : Value} {r s : Bool} (hn : (f.name != "_") = true) (ha : (part f.type xs f.offset).run P w = .ok a w) (hb : (part f.type ys f.offset).run P w = .ok b w)
    (hr : (Op.equalIn d f.type a b).run P w = .ok r w) (hs : (Op.eqFields d xs ys fs).run P w = .ok s w) : (Op.eqFields d xs ys (f :: fs)).run P w = .ok (r && s) w := by
  have hn' : f.name ≠ "_" := by simpa using hn
  rw [Op.eqFields, if_pos hn']
  simp only [Sem.run_bind, ha, hb, hr, Result.andThen]
  cases r
  · simp
  · simpa using hs
theorem key_equalIn (x y : Key) (w : World) : (Op.equalIn 10000 53 (vKey x) (vKey y)).run Tryd.prog w = .ok (keyB x y) w := by
  have hu : Tryd.prog.underlying 53 = some (.struct (Tryd.prog.fieldsOf 53)) := by rw [Program.fieldsOf, Tryd.underlying53]
  have hp : Tryd.prog.stoodInHeld 53 = false := by decide +kernel
  rw [show (10000 : Nat) = 9998 + 1 + 1 from rfl, run_equalIn_struct w (9998 + 1) _ _ _ hu hp]
  rw [Program.fieldsOf, Tryd.underlying53]
  have hi := Tryd.underlying3
  have hs := Tryd.underlying9
  refine eqF_step rfl (part_get w (isAgg_int w hi) rfl) (part_get w (isAgg_int w hi) rfl) (run_equalIn_int w _ _ _ _ _ _ hi) ?_
  refine eqF_step rfl (part_get w (isAgg_int w hi) rfl) (part_get w (isAgg_int w hi) rfl) (run_equalIn_int w _ _ _ _ _ _ hi) ?_
  refine eqF_step rfl (part_get w (isAgg_str w hs) rfl) (part_get w (isAgg_str w hs) rfl) ((run_equalIn_string w _ _ _ _ hs).trans (by rw [S_eq])) ?_
  refine eqF_step rfl (part_get w (isAgg_str w hs) rfl) (part_get w (isAgg_str w hs) rfl) ((run_equalIn_string w _ _ _ _ hs).trans (by rw [S_eq])) ?_
  refine eqF_step rfl (part_get w (isAgg_str w hs) rfl) (part_get w (isAgg_str w hs) rfl) ((run_equalIn_string w _ _ _ _ hs).trans (by rw [S_eq])) ?_
  have := eqF_step (P := Tryd.prog) (w := w) (d := 9998 + 1) (xs := #[.int .i64 x.kind, .int .i64 x.n, S x.name, S x.words, S x.kids, S x.lengths]) (ys := #[.int .i64 y.kind, .int .i64 y.n, S y.name, S y.words, S y.kids, S y.lengths]) (fs := []) (f := ⟨ "lengths", 9, 5, false, "", "indenture/typ", 72⟩) rfl (part_get w (isAgg_str w hs) rfl) (part_get w (isAgg_str w hs) rfl) ((run_equalIn_string w _ _ _ _ hs).trans (by rw [S_eq])) (s := true) (by rw [Op.eqFields]; rfl)
  rw [Bool.and_true] at this
  exact this
theorem vKey_inj (x y : Key) (h : vKey x = vKey y) : x = y := by
  cases x; cases y
  injection h with h
  have h := congrArg Array.toList h
  simp only [List.cons.injEq, Value.int.injEq, true_and, and_true] at h
  obtain ⟨h1, h2, h3, h4, h5, h6⟩ := h
  injection h3 with h3; injection h4 with h4; injection h5 with h5; injection h6 with h6
  rw [h1, h2, S_inj h3, S_inj h4, S_inj h5, S_inj h6]
theorem same_str (n : Nat) (x : List UInt8) : Instr.sameBits (n + 1) (S x) (S x) = true := by
  show ((⟨x.toArray⟩ : ByteArray) == ⟨x.toArray⟩) = true
  rw [S_beq]; simp
theorem same_int (n : Nat) (x : Int) : Instr.sameBits (n + 1) (.int .i64 x) (.int .i64 x) = true := by
  show (IntKind.i64 == IntKind.i64 && x == x) = true
  simp
instance : KyT Tryd.prog 53 vKey := by
  refine KyT.ask Tryd.underlying53 (fun x y w => ⟨keyB x y, ?_, keyB_iff x y⟩) vKey_inj (fun em x w => ?_) (fun x => ?_)
  · exact key_equalIn x y w
  · have hi := Tryd.underlying3
    have hs := Tryd.underlying9
    rw [show (10000 : Nat) = 9998 + 1 + 1 from rfl, Instr.checkKey]
    have p1 := fun (off : Nat) (v : Value) (hv : (#[Value.int .i64 x.kind, .int .i64 x.n, S x.name, S x.words, S x.kids, S x.lengths])[off]? = some v) => part_get (P := Tryd.prog) w (isAgg_int w hi) hv
    have p2 := fun (off : Nat) (v : Value) (hv : (#[Value.int .i64 x.kind, .int .i64 x.n, S x.name, S x.words, S x.kids, S x.lengths])[off]? = some v) => part_get (P := Tryd.prog) w (isAgg_str w hs) hv
    have c1 : ∀ v, (Instr.checkKey em (9998 + 1) 3 v).run Tryd.prog w = .ok () w := by intro v; rw [Instr.checkKey]; simp [run_underlying hi]
    have c2 : ∀ v, (Instr.checkKey em (9998 + 1) 9 v).run Tryd.prog w = .ok () w := by intro v; rw [Instr.checkKey]; simp [run_underlying hs]
    simp only [Sem.run_bind, run_underlying Tryd.underlying53, Result.andThen_ok]
    simp [p1 0 _ rfl, p1 1 _ rfl, p2 2 _ rfl, p2 3 _ rfl, p2 4 _ rfl, p2 5 _ rfl, c1, c2, Result.andThen]
  · rw [show (10000 : Nat) = 9998 + 1 + 1 from rfl, Instr.sameBits]
    simp [same_str, same_int]
theorem key_guard : Tryd.prog.eqGuardType Tryd.prog.depth 53 = false := by decide +kernel
end Go.Sy
