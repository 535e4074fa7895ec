/- Joined of my own texts: Shelf, Glo, FwI. -/
import Derived.Test.YtinolpaapcpijaaGreatDoorK8
import Derived.Shelf.Strings.Builder1
import Derived.Shelf.Strings.Builder2
import Derived.Shelf.Strings.OnBuilder
import Derived.Shelf.Small.Bits
import Derived.Shelf.Strings.BuilderF
import Derived.Shelf.Strings.BuilderK
import Derived.Shelf.Strings.Builder2Cap
import Derived.Shelf.Strconv.Itoa0
import Derived.Shelf.Strconv.Itoa1
import Derived.Shelf.LaysM
import Derived.Shelf.Strconv.Itoa2
import Derived.Shelf.Strconv.Itoa3
import Derived.Shelf.Strings.Search1
import Derived.Shelf.Strings.Search2
import Derived.Shelf.Strings.Cut
import Derived.Shelf.Strings.Shaped
import Derived.Shelf.Sort.Plain
import Derived.Shelf.Strings.Prefix
import Derived.Shelf.Slices.Turned
import Derived.Shelf.Slices.Equal
import Derived.Ground.Names2Prog
import Derived.Shelf.Slices.Clone
import Derived.Shelf.Slices.CompactS
import Derived.Shelf.Slices.Cells
import Derived.Shelf.Slices.In.SortNone
import Derived.Shelf.Slices.Empties2
import Derived.Ground.SlgnProg
import Derived.Shelf.SlicesE.Clone
import Derived.Shelf.SlSortCmp.NoneTotal
import Derived.Ground.SlsfProg
import Derived.Test.YtinolpaapcpijaaGreatDoorProg
namespace Go.Proofs
open Go.Shelf
def Tryz.sortTerm_ren : Go.Shelf.Ren := ⟨fun | 6 => 212 | 15 => 155 | 14 => 250 | 28 => 201 | 29 => 202 | 20 => 266 | 21 => 267 | 22 => 268 | 23 => 269 | 24 => 270 | 25 => 271 | 26 => 272 | 27 => 273 | 46 => 280 | 47 => 239 | 48 => 240 | 49 => 281 | 50 => 282 | 57 => 285 | n => n, fun | 22 => 263 | 24 => 266 | 25 => 269 | 3 => 3 | 39 => 218 | 0 => 0 | 53 => 257 | 55 => 259 | 4 => 4 | 46 => 251 | 45 => 250 | 50 => 91 | 5 => 5 | 9 => 9 | 66 => 283 | 70 => 287 | 76 => 298 | 77 => 299 | n => n, fun | n => n⟩
theorem Tryz.sortTerm : Go.Proofs.SlLaysF0.n6 Tryz.prog Tryz.sortTerm_ren := {
  mixed := by kernel_rfl
  f6 := ⟨Tryz.f212.name, by decide, Tryz.func212.trans (congrArg some (by kernel_rfl))⟩
  f14 := ⟨Tryz.f250.name, by decide, Tryz.func250.trans (congrArg some (by kernel_rfl))⟩
  f15 := Tryz.func155.trans (congrArg some (by kernel_rfl))
  f20 := ⟨Tryz.f266.name, by decide, Tryz.func266.trans (congrArg some (by kernel_rfl))⟩
  f21 := ⟨Tryz.f267.name, by decide, Tryz.func267.trans (congrArg some (by kernel_rfl))⟩
  f22 := ⟨Tryz.f268.name, by decide, Tryz.func268.trans (congrArg some (by kernel_rfl))⟩
  f23 := ⟨Tryz.f269.name, by decide, Tryz.func269.trans (congrArg some (by kernel_rfl))⟩
  f24 := ⟨Tryz.f270.name, by decide, Tryz.func270.trans (congrArg some (by kernel_rfl))⟩
  f25 := ⟨Tryz.f271.name, by decide, Tryz.func271.trans (congrArg some (by kernel_rfl))⟩
  f26 := ⟨Tryz.f272.name, by decide, Tryz.func272.trans (congrArg some (by kernel_rfl))⟩
  f27 := ⟨Tryz.f273.name, by decide, Tryz.func273.trans (congrArg some (by kernel_rfl))⟩
  f28 := Tryz.func201.trans (congrArg some (by kernel_rfl))
  f29 := Tryz.func202.trans (congrArg some (by kernel_rfl))
  f46 := ⟨Tryz.f280.name, by decide, Tryz.func280.trans (congrArg some (by kernel_rfl))⟩
  f47 := Tryz.func239.trans (congrArg some (by kernel_rfl))
  f48 := Tryz.func240.trans (congrArg some (by kernel_rfl))
  f49 := ⟨Tryz.f281.name, by decide, Tryz.func281.trans (congrArg some (by kernel_rfl))⟩
  f50 := ⟨Tryz.f282.name, by decide, Tryz.func282.trans (congrArg some (by kernel_rfl))⟩
  f57 := ⟨Tryz.f285.name, by decide, Tryz.func285.trans (congrArg some (by kernel_rfl))⟩
  t0 := Tryz.underlying0
  a0 := Tryz.isAgg0
  z0 := Tryz.sizeOf0
  v0 := Tryz.zeroValue0
  t3 := Tryz.underlying3
  a3 := Tryz.isAgg3
  z3 := Tryz.sizeOf3
  v3 := Tryz.zeroValue3
  t4 := Tryz.underlying4
  a4 := Tryz.isAgg4
  z4 := Tryz.sizeOf4
  v4 := Tryz.zeroValue4
  t5 := Tryz.underlying5
  a5 := Tryz.isAgg5
  z5 := Tryz.sizeOf5
  v5 := Tryz.zeroValue5
  t9 := Tryz.underlying9
  a9 := Tryz.isAgg9
  z9 := Tryz.sizeOf9
  v9 := Tryz.zeroValue9
  t22 := Tryz.underlying263
  a22 := Tryz.isAgg263
  z22 := Tryz.sizeOf263
  v22 := Tryz.zeroValue263
  t25 := Tryz.underlying269
  a25 := Tryz.isAgg269
  z25 := Tryz.sizeOf269
  v25 := Tryz.zeroValue269
  t39 := Tryz.underlying218
  a39 := Tryz.isAgg218
  z39 := Tryz.sizeOf218
  v39 := Tryz.zeroValue218
  t45 := Tryz.underlying250
  a45 := Tryz.isAgg250
  z45 := Tryz.sizeOf250
  v45 := Tryz.zeroValue250
  t46 := Tryz.underlying251
  a46 := Tryz.isAgg251
  z46 := Tryz.sizeOf251
  v46 := Tryz.zeroValue251
  t50 := Tryz.underlying91
  a50 := Tryz.isAgg91
  z50 := Tryz.sizeOf91
  v50 := Tryz.zeroValue91
  t53 := Tryz.underlying257
  a53 := Tryz.isAgg257
  z53 := Tryz.sizeOf257
  v53 := Tryz.zeroValue257
  t55 := Tryz.underlying259
  a55 := Tryz.isAgg259
  z55 := Tryz.sizeOf259
  v55 := Tryz.zeroValue259
  t66 := Tryz.underlying283
  a66 := Tryz.isAgg283
  z66 := Tryz.sizeOf283
  v66 := Tryz.zeroValue283
  t70 := Tryz.underlying287
  a70 := Tryz.isAgg287
  z70 := Tryz.sizeOf287
  v70 := Tryz.zeroValue287
  t76 := Tryz.underlying298
  a76 := Tryz.isAgg298
  z76 := Tryz.sizeOf298
  v76 := Tryz.zeroValue298
  t77 := Tryz.underlying299
  a77 := Tryz.isAgg299
  z77 := Tryz.sizeOf299
  v77 := Tryz.zeroValue299 }
def Tryz.laysM246_ren : Go.Shelf.Ren := ⟨fun | 246 => 244 | 283 => 259 | 284 => 260 | 285 => 261 | 286 => 262 | 129 => 202 | 317 => 276 | 318 => 277 | 319 => 278 | 320 => 279 | 337 => 283 | 338 => 284 | n => n, fun | 2 => 2 | 3 => 3 | 9 => 9 | 4 => 4 | 171 => 301 | 0 => 0 | 53 => 259 | 37 => 221 | 5 => 5 | 173 => 303 | 212 => 316 | 51 => 257 | 20 => 20 | 213 => 317 | 46 => 218 | 232 => 321 | 233 => 322 | n => n, fun | 17 => 1 | 18 => 2 | 19 => 3 | n => n⟩
def Tryz.laysM243_ren : Go.Shelf.Ren := ⟨fun | 243 => 204 | 246 => 244 | 283 => 259 | 284 => 260 | 285 => 261 | 286 => 262 | 129 => 202 | 317 => 276 | 318 => 277 | 319 => 278 | 320 => 279 | 337 => 283 | 338 => 284 | n => n, fun | 3 => 3 | 9 => 9 | 2 => 2 | 4 => 4 | 171 => 301 | 0 => 0 | 53 => 259 | 37 => 221 | 5 => 5 | 173 => 303 | 212 => 316 | 51 => 257 | 20 => 20 | 213 => 317 | 46 => 218 | 232 => 321 | 233 => 322 | n => n, fun | 17 => 1 | 18 => 2 | 19 => 3 | n => n⟩
def Tryz.laysM171_ren : Go.Shelf.Ren := ⟨fun | 171 => 158 | 243 => 204 | 246 => 244 | 283 => 259 | 284 => 260 | 285 => 261 | 286 => 262 | 129 => 202 | 317 => 276 | 318 => 277 | 319 => 278 | 320 => 279 | 337 => 283 | 338 => 284 | n => n, fun | 3 => 3 | 9 => 9 | 2 => 2 | 4 => 4 | 171 => 301 | 0 => 0 | 53 => 259 | 37 => 221 | 5 => 5 | 173 => 303 | 212 => 316 | 51 => 257 | 20 => 20 | 213 => 317 | 46 => 218 | 232 => 321 | 233 => 322 | n => n, fun | 17 => 1 | 18 => 2 | 19 => 3 | n => n⟩
theorem Tryz.laysM171 : Go.Proofs.LaysM.n171 Tryz.prog Tryz.laysM171_ren := {
  mixed := by kernel_rfl
  f129 := Tryz.func202.trans (congrArg some (by kernel_rfl))
  f171 := Tryz.func158.trans (congrArg some (by kernel_rfl))
  f243 := Tryz.func204.trans (congrArg some (by kernel_rfl))
  f246 := Tryz.func244.trans (congrArg some (by kernel_rfl))
  f283 := Tryz.func259.trans (congrArg some (by kernel_rfl))
  f284 := Tryz.func260.trans (congrArg some (by kernel_rfl))
  f285 := Tryz.func261.trans (congrArg some (by kernel_rfl))
  f286 := Tryz.func262.trans (congrArg some (by kernel_rfl))
  f317 := Tryz.func276.trans (congrArg some (by kernel_rfl))
  f318 := Tryz.func277.trans (congrArg some (by kernel_rfl))
  f319 := Tryz.func278.trans (congrArg some (by kernel_rfl))
  f320 := Tryz.func279.trans (congrArg some (by kernel_rfl))
  f337 := Tryz.func283.trans (congrArg some (by kernel_rfl))
  f338 := Tryz.func284.trans (congrArg some (by kernel_rfl))
  t0 := Tryz.underlying0
  a0 := Tryz.isAgg0
  z0 := Tryz.sizeOf0
  v0 := Tryz.zeroValue0
  t2 := Tryz.underlying2
  a2 := Tryz.isAgg2
  z2 := Tryz.sizeOf2
  v2 := Tryz.zeroValue2
  t3 := Tryz.underlying3
  a3 := Tryz.isAgg3
  z3 := Tryz.sizeOf3
  v3 := Tryz.zeroValue3
  t4 := Tryz.underlying4
  a4 := Tryz.isAgg4
  z4 := Tryz.sizeOf4
  v4 := Tryz.zeroValue4
  t5 := Tryz.underlying5
  a5 := Tryz.isAgg5
  z5 := Tryz.sizeOf5
  v5 := Tryz.zeroValue5
  t9 := Tryz.underlying9
  a9 := Tryz.isAgg9
  z9 := Tryz.sizeOf9
  v9 := Tryz.zeroValue9
  t20 := Tryz.underlying20
  a20 := Tryz.isAgg20
  z20 := Tryz.sizeOf20
  v20 := Tryz.zeroValue20
  t37 := Tryz.underlying221
  a37 := Tryz.isAgg221
  z37 := Tryz.sizeOf221
  v37 := Tryz.zeroValue221
  t46 := Tryz.underlying218
  a46 := Tryz.isAgg218
  z46 := Tryz.sizeOf218
  v46 := Tryz.zeroValue218
  t51 := Tryz.underlying257
  a51 := Tryz.isAgg257
  z51 := Tryz.sizeOf257
  v51 := Tryz.zeroValue257
  t53 := Tryz.underlying259
  a53 := Tryz.isAgg259
  z53 := Tryz.sizeOf259
  v53 := Tryz.zeroValue259
  t171 := Tryz.underlying301
  a171 := Tryz.isAgg301
  z171 := Tryz.sizeOf301
  v171 := Tryz.zeroValue301
  t173 := Tryz.underlying303
  a173 := Tryz.isAgg303
  z173 := Tryz.sizeOf303
  v173 := Tryz.zeroValue303
  t212 := Tryz.underlying316
  a212 := Tryz.isAgg316
  z212 := Tryz.sizeOf316
  v212 := Tryz.zeroValue316
  t213 := Tryz.underlying317
  a213 := Tryz.isAgg317
  z213 := Tryz.sizeOf317
  t232 := Tryz.underlying321
  a232 := Tryz.isAgg321
  z232 := Tryz.sizeOf321
  v232 := Tryz.zeroValue321
  t233 := Tryz.underlying322
  a233 := Tryz.isAgg322
  z233 := Tryz.sizeOf322
  v233 := Tryz.zeroValue322
  g17 := by kernel_rfl
  g18 := by kernel_rfl
  g19 := by kernel_rfl
  i0 := by kernel_rfl
  i2 := by kernel_rfl
  i3 := by kernel_rfl
  i4 := by kernel_rfl
  i5 := by kernel_rfl
  i9 := by kernel_rfl
  i20 := by kernel_rfl
  i37 := by kernel_rfl
  i46 := by kernel_rfl
  i51 := by kernel_rfl
  i53 := by kernel_rfl
  i171 := by kernel_rfl
  i173 := by kernel_rfl
  i212 := by kernel_rfl
  i232 := by kernel_rfl
  i233 := by kernel_rfl
  m17 := by kernel_rfl
  m18 := by kernel_rfl
  m19 := by kernel_rfl }
open Go.RowKit Go.Sort Go.Lib in
theorem Tryz.strconv_Itoa (n : Int) (h0 : -9223372036854775808 ≤ n) (h1 : n ≤ 9223372036854775807) (w : World) (htab : Lib.TabIs Tryz.prog w "internal/strconv.uint64pow10" .u64 Lib.pow10Tab) :
    Calls Tryz.prog 158 #[.int .i64 n] w fun e w' => e = .returned (.string ⟨(Lib.itoa n).toArray⟩) ∧ ∃ k os, w' = grow (w.drewN k) os := Any.strconv_Itoa Tryz.laysM171 n h0 h1 w htab
def Tryz.lays219_ren : Go.Shelf.Ren := ⟨fun | 219 => 207 | 217 => 245 | 225 => 246 | 224 => 247 | 267 => 248 | 266 => 263 | 314 => 264 | n => n, fun | 9 => 9 | 3 => 3 | 4 => 4 | 5 => 5 | 46 => 218 | 146 => 305 | 51 => 257 | n => n, fun | 1 => 0 | n => n⟩
def Tryz.lays145_ren : Go.Shelf.Ren := ⟨fun | 145 => 102 | 220 => 165 | 219 => 207 | 217 => 245 | 225 => 246 | 224 => 247 | 267 => 248 | 266 => 263 | 314 => 264 | n => n, fun | 9 => 9 | 4 => 4 | 59 => 166 | 3 => 3 | 5 => 5 | 46 => 218 | 146 => 305 | 51 => 257 | n => n, fun | 1 => 0 | n => n⟩
theorem Tryz.lays145 : Go.Proofs.Lays.n145 Tryz.prog Tryz.lays145_ren := {
  mixed := by kernel_rfl
  f145 := Tryz.func102.trans (congrArg some (by kernel_rfl))
  f217 := Tryz.func245.trans (congrArg some (by kernel_rfl))
  f219 := Tryz.func207.trans (congrArg some (by kernel_rfl))
  f220 := Tryz.func165.trans (congrArg some (by kernel_rfl))
  f224 := Tryz.func247.trans (congrArg some (by kernel_rfl))
  f225 := Tryz.func246.trans (congrArg some (by kernel_rfl))
  f266 := Tryz.func263.trans (congrArg some (by kernel_rfl))
  f267 := Tryz.func248.trans (congrArg some (by kernel_rfl))
  f314 := Tryz.func264.trans (congrArg some (by kernel_rfl))
  t3 := Tryz.underlying3
  a3 := Tryz.isAgg3
  z3 := Tryz.sizeOf3
  v3 := Tryz.zeroValue3
  t4 := Tryz.underlying4
  a4 := Tryz.isAgg4
  z4 := Tryz.sizeOf4
  v4 := Tryz.zeroValue4
  t5 := Tryz.underlying5
  a5 := Tryz.isAgg5
  z5 := Tryz.sizeOf5
  v5 := Tryz.zeroValue5
  t9 := Tryz.underlying9
  a9 := Tryz.isAgg9
  z9 := Tryz.sizeOf9
  v9 := Tryz.zeroValue9
  t46 := Tryz.underlying218
  a46 := Tryz.isAgg218
  z46 := Tryz.sizeOf218
  v46 := Tryz.zeroValue218
  t51 := Tryz.underlying257
  a51 := Tryz.isAgg257
  z51 := Tryz.sizeOf257
  v51 := Tryz.zeroValue257
  t59 := Tryz.underlying166
  a59 := Tryz.isAgg166
  z59 := Tryz.sizeOf166
  v59 := Tryz.zeroValue166
  t146 := Tryz.underlying305
  a146 := Tryz.isAgg305
  z146 := Tryz.sizeOf305
  v146 := Tryz.zeroValue305
  g1 := by kernel_rfl }
open Go.RowKit Go.Lib in
theorem Tryz.strings_Cut (s sep : ByteArray) (m : Int) (w : World) (hs : s.size < 4294967281) (hm : w.cell? ⟨0, 0, none⟩ = some (.int .i64 m)) :
    Calls Tryz.prog 102 #[.string s, .string sep] w fun e w' => e = .returned (.tuple #[.string ⟨(Lib.cut s.data.toList sep.data.toList).1.toArray⟩, .string ⟨(Lib.cut s.data.toList sep.data.toList).2.1.toArray⟩, .bool (Lib.cut s.data.toList sep.data.toList).2.2]) ∧ ∃ n, w' = w.drewN n := Any.strings_Cut Tryz.lays145 s sep m w hs hm
def Tryz.lays206_ren : Go.Shelf.Ren := ⟨fun | 206 => 237 | n => n, fun | 9 => 9 | 4 => 4 | 3 => 3 | n => n, fun | n => n⟩
def Tryz.lays101_ren : Go.Shelf.Ren := ⟨fun | 101 => 153 | 208 => 191 | 206 => 237 | n => n, fun | 9 => 9 | 4 => 4 | 3 => 3 | n => n, fun | n => n⟩
theorem Tryz.lays101 : Go.Proofs.Lays.n101 Tryz.prog Tryz.lays101_ren := {
  mixed := by kernel_rfl
  f101 := Tryz.func153.trans (congrArg some (by kernel_rfl))
  f206 := Tryz.func237.trans (congrArg some (by kernel_rfl))
  f208 := Tryz.func191.trans (congrArg some (by kernel_rfl))
  t3 := Tryz.underlying3
  a3 := Tryz.isAgg3
  z3 := Tryz.sizeOf3
  v3 := Tryz.zeroValue3
  t4 := Tryz.underlying4
  a4 := Tryz.isAgg4
  z4 := Tryz.sizeOf4
  v4 := Tryz.zeroValue4
  t9 := Tryz.underlying9
  a9 := Tryz.isAgg9
  z9 := Tryz.sizeOf9
  v9 := Tryz.zeroValue9 }
open Go.RowKit Go.Lib in
theorem Tryz.strings_TrimPrefix (s p : ByteArray) (w : World) :
    Calls Tryz.prog 153 #[.string s, .string p] w fun e w' => e = .returned (.string ⟨(Lib.trimPrefix s.data.toList p.data.toList).toArray⟩) ∧ w' = w := Any.strings_TrimPrefix Tryz.lays101 s p w
end Go.Proofs
namespace Go.Sy
open Go Go.Proofs Go.RowKit
structure Glob (W0 : World) : Prop where
  big : ∃ m, W0.cell? ⟨0, 0, none⟩ = some (.int .i64 m)
  tab : Lib.TabIs Tryz.prog W0 "internal/strconv.uint64pow10" .u64 Lib.pow10Tab
theorem dec_len : ∀ (k u : Nat), u < 10 ^ (k + 1) → (Lib.decDigits u).length ≤ k + 1
  | 0, u, h => by
    unfold Lib.decDigits
    have : u < 10 := by simpa using h
    simp [this]
  | k + 1, u, h => by
    unfold Lib.decDigits
    split
    · simp
    · have h2 : u / 10 < 10 ^ (k + 1) := by
        apply Nat.div_lt_of_lt_mul
        have : 10 ^ (k + 1 + 1) = 10 * 10 ^ (k + 1) := by rw [Nat.pow_succ, Nat.mul_comm]
        omega
      have := dec_len k (u / 10) h2
      simp; omega
theorem itoa_len {n : Int} (h : -9223372036854775808 ≤ n ∧ n ≤ 9223372036854775807) : (Lib.itoa n).length ≤ 20 := by
  have e : (10 : Nat) ^ (18 + 1) = 10000000000000000000 := by decide
  unfold Lib.itoa
  split
  · have := dec_len 18 n.natAbs (by omega); simp; omega
  · have := dec_len 18 n.toNat (by omega); omega
attribute [local irreducible] AC AT AO AK AH ACalls Sub Res.cells Res.nix Res.own Exit.then Exit.inBlock bodyPost Code.wp Code.wpIn WL Next Post Kont
section
variable {W0 : World} {L : List Res} {F : List Fact} {R : Value → List Res → List Fact → Prop}
set_option maxRecDepth 100000
theorem Glob.bigAt {w : World} (g : Glob W0) (s : Sat W0 L F w) : ∃ m, w.cell? ⟨0, 0, none⟩ = some (.int .i64 m) := by
  obtain ⟨m, hm⟩ := g.big
  exact ⟨m, cell_of_block (s.below.block _ (cell_block_lt hm)) hm⟩
theorem Glob.tabAt {w : World} (g : Glob W0) (s : Sat W0 L F w) : Lib.TabIs Tryz.prog w "internal/strconv.uint64pow10" .u64 Lib.pow10Tab := by
  have h : World.var? Tryz.prog W0 _ = _ := g.tab
  show World.var? Tryz.prog w _ = _
  unfold World.var? at h ⊢
  cases hg : Tryz.prog.globalNamed "internal/strconv.uint64pow10" with
  | none => rw [hg] at h; simp at h
  | some b =>
    rw [hg] at h
    simp only [Option.bind_some] at h ⊢
    have : b < W0.heap.size := by
      rcases Nat.lt_or_ge b W0.heap.size with k | k
      · exact k
      · rw [Array.getElem?_eq_none k] at h; simp at h
    rw [s.below.block b this]; exact h
theorem cut_c (g : Glob W0) (s : List UInt8) (c : UInt8) (hs : s.length < 4294967281) (h : R (.tuple #[S (cutD c s).1, S (cutD c s).2.1, .bool (cutD c s).2.2]) L F) : ACalls Tryz.prog W0 102 #[S s, S [c]] L F R := by
  refine ACalls.libD (fun w sat => ?_) h
  obtain ⟨m, hm⟩ := g.bigAt sat
  have := Tryz.strings_Cut ⟨s.toArray⟩ ⟨#[c]⟩ m w (by simpa [ByteArray.size] using hs) hm
  have e : Lib.cut (⟨s.toArray⟩ : ByteArray).data.toList (⟨#[c]⟩ : ByteArray).data.toList = cutD c s := cut_eq c s
  rw [e] at this
  exact this
theorem itoa_c (g : Glob W0) (n : Int) (hn : -9223372036854775808 ≤ n ∧ n ≤ 9223372036854775807) (h : R (S (Lib.itoa n)) L F) : ACalls Tryz.prog W0 158 #[.int .i64 n] L F R :=
  ACalls.libG (fun w sat => Tryz.strconv_Itoa n hn.1 hn.2 w (g.tabAt sat)) h
end
end Go.Sy
namespace Go.Sy
open Go Go.RowKit
abbrev Gp := List ((World → Prop) × (Nat → Bool))
def wpM (P : Program) (ops : Array Oper) (Q : Po) (S : Gp) : Nat → Array Bool → Act → World → Prop
  | 0, listed, a, w => Region.ready .any ops listed = [] ∧ Q .normal a w
  | fuel + 1, listed, a, w => (Region.ready .any ops listed = [] → Q .normal a w) ∧
    ∀ i ∈ Region.ready .any ops listed, opS P ops i (fun a' w' => (∀ p ∈ S, p.2 i = false → p.1 w → p.1 w') ∧ wpM P ops Q S fuel (listed.setIfInBounds i true) a' w') a w
theorem wpM_first {P : Program} {ops : Array Oper} {Q : Po} {S : Gp} {T : World → Prop} {i : Nat} {oi : Oper} {v : Value} (hi : ops[i]? = some oi) (hsel : ∀ (j : Nat) (o : Oper) cs b, ops[j]? = some o → o.op ≠ .select cs b)
    (hT : ∀ (j : Nat) (oj : Oper) (w w' : World), ops[j]? = some oj → j ≠ i → (∀ e ∈ oj.after, Region.binds .any e = true → e.on ≠ i) → (∀ p ∈ S, p.2 j = false → p.1 w → p.1 w') → T w → T w') :
    ∀ (fuel : Nat) (listed : Array Bool) (a : Act) (w : World),
      (∀ j oj, ops[j]? = some oj → j ≠ i → listed.getD j true = false → (∀ e ∈ oj.after, Region.binds .any e = true → e.on ≠ i) → oi.apart ops oj = true) →
      i ∈ Region.ready .any ops listed → YieldsIf P ops T oi v a → T w →
      wpM P ops Q S fuel (listed.setIfInBounds i true) (a.put oi.dst v) w → wpM P ops Q S (fuel + 1) listed a w := by
  intro fuel
  induction fuel with
  | zero =>
    intro listed a w _ hr hy hTw H
    refine ⟨fun h => (by rw [h] at hr; cases hr), fun j hj => ?_⟩
    by_cases hji : j = i
    · subst hji
      exact opS_yields hi hy hTw ⟨fun _ _ _ hs => hs, H⟩
    · have := ready_mono hj hji
      rw [H.1] at this
      cases this
  | succ fuel ih =>
    intro listed a w hfree hr hy hTw H
    refine ⟨fun h => (by rw [h] at hr; cases hr), fun j hj => ?_⟩
    by_cases hji : j = i
    · subst hji
      exact opS_yields hi hy hTw ⟨fun _ _ _ hs => hs, H⟩
    · have hstep := H.2 j (ready_mono hj hji)
      obtain ⟨hjun, oj, hoj, hall⟩ := mem_ready.1 hj
      have hnot : ∀ e ∈ oj.after, Region.binds .any e = true → e.on ≠ i := by
        intro e he hb heq
        have hl := hall e he hb
        have h0 := (mem_ready.1 hr).1
        rw [heq] at hl
        rcases Nat.lt_or_ge i listed.size with h' | h'
        · simp [h'] at h0 hl; rw [h0] at hl; cases hl
        · simp [Array.getElem?_eq_none h'] at hl
      have hput := opS_put hoj (hfree j oj hoj hji hjun hnot) (fun cs b => hsel i oi cs b hi) (fun cs b => hsel j oj cs b hoj) hy hstep
      refine opS_mono (fun a' w' h3 => ⟨h3.2.1, ih (listed.setIfInBounds j true) a' w' ?_ (ready_mono hr (Ne.symm hji)) h3.1 (hT j oj w w' hoj hji hnot h3.2.1 hTw) ?_⟩) hput
      · intro k ok hk hki hun hno
        refine hfree k ok hk hki ?_ hno
        by_cases hjk : j = k
        · subst hjk; exact hjun
        · rw [getD_set_ne true hjk] at hun; exact hun
      · rw [Array.setIfInBounds_comm _ _ hji]
        exact h3.2.2
abbrev Hd := List (Bx × (Nat → Bool))
def Hd.gp (hx : H) (G : Hd) : Gp := G.map fun g => (HX hx g.1, g.2)
def AJ (P : Program) (W0 : World) (n : Nat) (ops : Array Oper) (Q : Po) (hx : H) (G : Hd) (sd : Bool) (fuel : Nat) (listed : Array Bool) (ρ : Rho) (L : List Res) (F : List Fact) : Prop :=
  ∀ a w, St W0 n ρ L F a w → (sd = true → ∀ g ∈ G, HX hx g.1 w) → wpM P ops Q (G.gp hx) fuel listed a w
inductive HdIn (L : List Res) : Hd → Prop where
  | nil : HdIn L []
  | cons {g : Bx × (Nat → Bool)} {G : Hd} (hb : BxIn L g.1) (h : HdIn L G) : HdIn L (g :: G)
theorem HdIn.get {L : List Res} {G : Hd} (h : HdIn L G) : ∀ g ∈ G, BxIn L g.1 := by
  induction h with
  | nil => intro g hg; cases hg
  | cons hb _ ih =>
    intro g hg
    rcases List.mem_cons.1 hg with rfl | hg
    · exact hb
    · exact ih g hg
inductive Keeps (L : List Res) (i : Nat) : Hd → Prop where
  | nil : Keeps L i []
  | spoil {g : Bx × (Nat → Bool)} {G : Hd} (hs : g.2 i = true) (h : Keeps L i G) : Keeps L i (g :: G)
  | held {g : Bx × (Nat → Bool)} {G : Hd} (hb : BxIn L g.1) (h : Keeps L i G) : Keeps L i (g :: G)
theorem Keeps.get {L : List Res} {i : Nat} {G : Hd} (h : Keeps L i G) : ∀ g ∈ G, g.2 i = true ∨ BxIn L g.1 := by
  induction h with
  | nil => intro g hg; cases hg
  | spoil hs _ ih =>
    intro g hg
    rcases List.mem_cons.1 hg with rfl | hg
    · exact .inl hs
    · exact ih g hg
  | held hb _ ih =>
    intro g hg
    rcases List.mem_cons.1 hg with rfl | hg
    · exact .inr hb
    · exact ih g hg
section
variable {P : Program} {W0 : World} {n : Nat} {Q : Po} {ρ : Rho} {L : List Res} {F : List Fact} {l : List Oper} {hx : H} {G : Hd} {sd : Bool} {fuel : Nat} {listed : Array Bool} {ops : Array Oper} {ro : Option Nat} {ds : List Deferred}
theorem AJ.done (hr : Region.ready .any ops listed = []) (h : AK ds W0 n Q .normal ρ L F) : AJ P W0 n ops (Nq ds Q) hx G sd 0 listed ρ L F :=
  fun a w s _ => ⟨hr, h a w s⟩
section
variable {i : Nat} {d : Tmp} {op : Op} {ty : TypeId} {pos : String} {af : Array Edge} {g : Option (Nat × Bool)} {v : Value}
theorem AJ.take {T : World → Prop} (hi : ops[i]? = some ⟨some d, op, ty, pos, af, g⟩) (ht : takeOk ops listed i = true)
    (hT : ∀ (j : Nat) (oj : Oper) (w w' : World), ops[j]? = some oj → j ≠ i → (∀ e ∈ oj.after, Region.binds .any e = true → e.on ≠ i) → (∀ p ∈ G.gp hx, p.2 j = false → p.1 w → p.1 w') → T w → T w') (hT0 : ∀ w, (sd = true → ∀ g ∈ G, HX hx g.1 w) → T w)
    (hd : Nat.blt d n = true) (hy : ∀ a, Slots n ρ a → YieldsIf P ops T ⟨some d, op, ty, pos, af, g⟩ v a)
    (h : AJ P W0 n ops Q hx G sd fuel (listed.setIfInBounds i true) ((d, v) :: ρ) L F) : AJ P W0 n ops Q hx G sd (fuel + 1) listed ρ L F := by
  intro a w s hs
  obtain ⟨h1, h2, h3⟩ := takeOk_spec ht
  exact wpM_first hi (Region.noSelect_spec h1) hT fuel listed a w (Region.free_spec hi h2) h3 (hy a s.slots) (hT0 w hs)
    (h _ w ⟨s.slots.put (Nat.le_of_ble_eq_true hd) _, s.sat⟩ hs)
end
def KontM (P : Program) (ops : Array Oper) (Q : Po) (S : Gp) (fuel : Nat) (listed : Array Bool) (i : Nat) (w : World) : Act → World → Prop :=
  fun a' w' => (∀ p ∈ S, p.2 i = false → p.1 w → p.1 w') ∧ wpM P ops Q S fuel (listed.setIfInBounds i true) a' w'
def Ups (P : Program) (W0 : World) (n : Nat) (ops : Array Oper) (Q : Po) (hx : H) (G : Hd) (fuel : Nat) (listed : Array Bool) (ρ : Rho) (L : List Res) (F : List Fact) (is : List Nat) : Prop :=
  ∀ i ∈ is, ∃ o, ops[i]? = some o ∧ guardIs ops ρ o.guard = some true ∧ ∀ w0, AO P W0 n (KontM P ops Q (G.gp hx) fuel listed i w0) o Q ρ L F
theorem Ups.nil : Ups P W0 n ops Q hx G fuel listed ρ L F [] := fun i hi => by cases hi
theorem Ups.cons {i : Nat} {is : List Nat} {o : Oper} (hi : ops[i]? = some o) (hg : guardIs ops ρ o.guard = some true) (h : ∀ w0, AO P W0 n (KontM P ops Q (G.gp hx) fuel listed i w0) o Q ρ L F) (hr : Ups P W0 n ops Q hx G fuel listed ρ L F is) : Ups P W0 n ops Q hx G fuel listed ρ L F (i :: is) := fun j hj => by
  rcases List.mem_cons.1 hj with rfl | hj
  · exact ⟨o, hi, hg, h⟩
  · exact hr j hj
end
end Go.Sy
