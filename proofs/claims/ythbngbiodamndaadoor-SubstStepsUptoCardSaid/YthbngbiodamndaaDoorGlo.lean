/- What the start world holds, and the library's functions on texts that lean on it. -/
import Derived.Test.YthbngbiodamndaaDoorTxt
import Derived.Test.YthbngbiodamndaaDoorFacts
import Derived.Test.YthbngbiodamndaaDoorShelf
namespace Go.Sy
open Go Go.Proofs Go.RowKit

/-- What the start world must hold. -/
structure Glob (W0 : World) : Prop where
  big : ∃ m, W0.cell? ⟨1, 0, none⟩ = some (.int .i64 m)
  tab : Lib.TabIs Tryd.prog W0 "internal/strconv.uint64pow10" .u64 Lib.pow10Tab

theorem dec_len : ∀ (k u : Nat), u < 10 ^ (k + 1) → (Lib.decDigits u).length ≤ k + 1
  | 0, u, h => by
    unfold Lib.decDigits
    have : u < 10 := by simpa using h
    simp [this]
  | k + 1, u, h => by
    unfold Lib.decDigits
    split
    · simp
    · have h2 : u / 10 < 10 ^ (k + 1) := by
        apply Nat.div_lt_of_lt_mul
        have : 10 ^ (k + 1 + 1) = 10 * 10 ^ (k + 1) := by rw [Nat.pow_succ, Nat.mul_comm]
        omega
      have := dec_len k (u / 10) h2
      simp; omega
theorem itoa_len {n : Int} (h : -9223372036854775808 ≤ n ∧ n ≤ 9223372036854775807) : (Lib.itoa n).length ≤ 20 := by
  have e : (10 : Nat) ^ (18 + 1) = 10000000000000000000 := by decide
  unfold Lib.itoa
  split
  · have := dec_len 18 n.natAbs (by omega); simp; omega
  · have := dec_len 18 n.toNat (by omega); omega
attribute [local irreducible] AC AT AO AK AH ACalls Sub Res.cells Res.obj Res.nix Res.own Exit.then Exit.inBlock bodyPost Code.wp Next Post Kont
section
variable {W0 : World} {L : List Res} {F : List Fact} {R : Value → List Res → List Fact → Prop}
set_option maxRecDepth 100000

theorem Glob.bigAt {w : World} (g : Glob W0) (s : Sat W0 L F w) : ∃ m, w.cell? ⟨1, 0, none⟩ = some (.int .i64 m) := by
  obtain ⟨m, hm⟩ := g.big
  exact ⟨m, cell_of_block (s.below.block _ (cell_block_lt hm)) hm⟩
theorem Glob.tabAt {w : World} (g : Glob W0) (s : Sat W0 L F w) : Lib.TabIs Tryd.prog w "internal/strconv.uint64pow10" .u64 Lib.pow10Tab := by
  have h : World.var? Tryd.prog W0 _ = _ := g.tab
  show World.var? Tryd.prog w _ = _
  unfold World.var? at h ⊢
  cases hg : Tryd.prog.globalNamed "internal/strconv.uint64pow10" with
  | none => rw [hg] at h; simp at h
  | some b =>
    rw [hg] at h
    simp only [Option.bind_some] at h ⊢
    have : b < W0.heap.size := by
      rcases Nat.lt_or_ge b W0.heap.size with k | k
      · exact k
      · rw [Array.getElem?_eq_none k] at h; simp at h
    rw [s.below.block b this]; exact h

theorem cut_c (g : Glob W0) (s : List UInt8) (c : UInt8) (hs : s.length < 4294967281) (h : R (.tuple #[S (cutD c s).1, S (cutD c s).2.1, .bool (cutD c s).2.2]) L F) : ACalls Tryd.prog W0 67 #[S s, S [c]] L F R := by
  refine ACalls.libD (fun w sat => ?_) h
  obtain ⟨m, hm⟩ := g.bigAt sat
  have := Tryd.strings_Cut ⟨s.toArray⟩ ⟨#[c]⟩ m w (by simpa [ByteArray.size] using hs) hm
  have e : Lib.cut (⟨s.toArray⟩ : ByteArray).data.toList (⟨#[c]⟩ : ByteArray).data.toList = cutD c s := cut_eq c s
  rw [e] at this
  exact this
theorem itoa_c (g : Glob W0) (n : Int) (hn : -9223372036854775808 ≤ n ∧ n ≤ 9223372036854775807) (h : R (S (Lib.itoa n)) L F) : ACalls Tryd.prog W0 41 #[.int .i64 n] L F R :=
  ACalls.libG (fun w sat => Tryd.strconv_Itoa n hn.1 hn.2 w (g.tabAt sat)) h
end
end Go.Sy
