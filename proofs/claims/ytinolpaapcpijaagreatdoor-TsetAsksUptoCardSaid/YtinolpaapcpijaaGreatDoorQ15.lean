/- Joined of my own texts: Shelf, Glo, Bld, Typ2, Typ3, Typ4, Typ5, Typ6, Typ7, TyA, TyB. -/
import Derived.Test.YtinolpaapcpijaaGreatDoorQ14
import Derived.Shelf.Strings.Builder1
import Derived.Shelf.Strings.Builder2
import Derived.Shelf.Strings.OnBuilder
import Derived.Shelf.Small.Bits
import Derived.Shelf.Strings.BuilderF
import Derived.Shelf.Strings.BuilderK
import Derived.Shelf.Strings.Builder2Cap
import Derived.Shelf.Strconv.Itoa0
import Derived.Shelf.Strconv.Itoa1
import Derived.Shelf.LaysM
import Derived.Shelf.Strconv.Itoa2
import Derived.Shelf.Strconv.Itoa3
import Derived.Shelf.Strings.Search1
import Derived.Shelf.Strings.Search2
import Derived.Shelf.Strings.Cut
import Derived.Shelf.Strings.Shaped
import Derived.Shelf.Sort.Plain
import Derived.Shelf.Strings.Prefix
import Derived.Shelf.Slices.Turned
import Derived.Shelf.Slices.Equal
import Derived.Ground.Names2Prog
import Derived.Shelf.Slices.Clone
import Derived.Shelf.Slices.CompactS
import Derived.Shelf.Slices.Cells
import Derived.Shelf.Slices.In.SortNone
import Derived.Shelf.Slices.Empties2
import Derived.Ground.SlgnProg
import Derived.Shelf.SlicesE.Clone
import Derived.Shelf.SlSortCmp.NoneTotal
import Derived.Ground.SlsfProg
import Derived.Test.YtinolpaapcpijaaGreatDoorProg
namespace Go.Proofs
open Go.Shelf
def Tryz.sortTerm_ren : Go.Shelf.Ren := ⟨fun | 6 => 212 | 15 => 155 | 14 => 250 | 28 => 201 | 29 => 202 | 20 => 266 | 21 => 267 | 22 => 268 | 23 => 269 | 24 => 270 | 25 => 271 | 26 => 272 | 27 => 273 | 46 => 280 | 47 => 239 | 48 => 240 | 49 => 281 | 50 => 282 | 57 => 285 | n => n, fun | 22 => 263 | 24 => 266 | 25 => 269 | 3 => 3 | 39 => 218 | 0 => 0 | 53 => 257 | 55 => 259 | 4 => 4 | 46 => 251 | 45 => 250 | 50 => 91 | 5 => 5 | 9 => 9 | 66 => 283 | 70 => 287 | 76 => 298 | 77 => 299 | n => n, fun | n => n⟩
theorem Tryz.sortTerm : Go.Proofs.SlLaysF0.n6 Tryz.prog Tryz.sortTerm_ren := {
  mixed := by kernel_rfl
  f6 := ⟨Tryz.f212.name, by decide, Tryz.func212.trans (congrArg some (by kernel_rfl))⟩
  f14 := ⟨Tryz.f250.name, by decide, Tryz.func250.trans (congrArg some (by kernel_rfl))⟩
  f15 := Tryz.func155.trans (congrArg some (by kernel_rfl))
  f20 := ⟨Tryz.f266.name, by decide, Tryz.func266.trans (congrArg some (by kernel_rfl))⟩
  f21 := ⟨Tryz.f267.name, by decide, Tryz.func267.trans (congrArg some (by kernel_rfl))⟩
  f22 := ⟨Tryz.f268.name, by decide, Tryz.func268.trans (congrArg some (by kernel_rfl))⟩
  f23 := ⟨Tryz.f269.name, by decide, Tryz.func269.trans (congrArg some (by kernel_rfl))⟩
  f24 := ⟨Tryz.f270.name, by decide, Tryz.func270.trans (congrArg some (by kernel_rfl))⟩
  f25 := ⟨Tryz.f271.name, by decide, Tryz.func271.trans (congrArg some (by kernel_rfl))⟩
  f26 := ⟨Tryz.f272.name, by decide, Tryz.func272.trans (congrArg some (by kernel_rfl))⟩
  f27 := ⟨Tryz.f273.name, by decide, Tryz.func273.trans (congrArg some (by kernel_rfl))⟩
  f28 := Tryz.func201.trans (congrArg some (by kernel_rfl))
  f29 := Tryz.func202.trans (congrArg some (by kernel_rfl))
  f46 := ⟨Tryz.f280.name, by decide, Tryz.func280.trans (congrArg some (by kernel_rfl))⟩
  f47 := Tryz.func239.trans (congrArg some (by kernel_rfl))
  f48 := Tryz.func240.trans (congrArg some (by kernel_rfl))
  f49 := ⟨Tryz.f281.name, by decide, Tryz.func281.trans (congrArg some (by kernel_rfl))⟩
  f50 := ⟨Tryz.f282.name, by decide, Tryz.func282.trans (congrArg some (by kernel_rfl))⟩
  f57 := ⟨Tryz.f285.name, by decide, Tryz.func285.trans (congrArg some (by kernel_rfl))⟩
  t0 := Tryz.underlying0
  a0 := Tryz.isAgg0
  z0 := Tryz.sizeOf0
  v0 := Tryz.zeroValue0
  t3 := Tryz.underlying3
  a3 := Tryz.isAgg3
  z3 := Tryz.sizeOf3
  v3 := Tryz.zeroValue3
  t4 := Tryz.underlying4
  a4 := Tryz.isAgg4
  z4 := Tryz.sizeOf4
  v4 := Tryz.zeroValue4
  t5 := Tryz.underlying5
  a5 := Tryz.isAgg5
  z5 := Tryz.sizeOf5
  v5 := Tryz.zeroValue5
  t9 := Tryz.underlying9
  a9 := Tryz.isAgg9
  z9 := Tryz.sizeOf9
  v9 := Tryz.zeroValue9
  t22 := Tryz.underlying263
  a22 := Tryz.isAgg263
  z22 := Tryz.sizeOf263
  v22 := Tryz.zeroValue263
  t25 := Tryz.underlying269
  a25 := Tryz.isAgg269
  z25 := Tryz.sizeOf269
  v25 := Tryz.zeroValue269
  t39 := Tryz.underlying218
  a39 := Tryz.isAgg218
  z39 := Tryz.sizeOf218
  v39 := Tryz.zeroValue218
  t45 := Tryz.underlying250
  a45 := Tryz.isAgg250
  z45 := Tryz.sizeOf250
  v45 := Tryz.zeroValue250
  t46 := Tryz.underlying251
  a46 := Tryz.isAgg251
  z46 := Tryz.sizeOf251
  v46 := Tryz.zeroValue251
  t50 := Tryz.underlying91
  a50 := Tryz.isAgg91
  z50 := Tryz.sizeOf91
  v50 := Tryz.zeroValue91
  t53 := Tryz.underlying257
  a53 := Tryz.isAgg257
  z53 := Tryz.sizeOf257
  v53 := Tryz.zeroValue257
  t55 := Tryz.underlying259
  a55 := Tryz.isAgg259
  z55 := Tryz.sizeOf259
  v55 := Tryz.zeroValue259
  t66 := Tryz.underlying283
  a66 := Tryz.isAgg283
  z66 := Tryz.sizeOf283
  v66 := Tryz.zeroValue283
  t70 := Tryz.underlying287
  a70 := Tryz.isAgg287
  z70 := Tryz.sizeOf287
  v70 := Tryz.zeroValue287
  t76 := Tryz.underlying298
  a76 := Tryz.isAgg298
  z76 := Tryz.sizeOf298
  v76 := Tryz.zeroValue298
  t77 := Tryz.underlying299
  a77 := Tryz.isAgg299
  z77 := Tryz.sizeOf299
  v77 := Tryz.zeroValue299 }
def Tryz.laysM246_ren : Go.Shelf.Ren := ⟨fun | 246 => 244 | 283 => 259 | 284 => 260 | 285 => 261 | 286 => 262 | 129 => 202 | 317 => 276 | 318 => 277 | 319 => 278 | 320 => 279 | 337 => 283 | 338 => 284 | n => n, fun | 2 => 2 | 3 => 3 | 9 => 9 | 4 => 4 | 171 => 301 | 0 => 0 | 53 => 259 | 37 => 221 | 5 => 5 | 173 => 303 | 212 => 316 | 51 => 257 | 20 => 20 | 213 => 317 | 46 => 218 | 232 => 321 | 233 => 322 | n => n, fun | 17 => 1 | 18 => 2 | 19 => 3 | n => n⟩
def Tryz.laysM243_ren : Go.Shelf.Ren := ⟨fun | 243 => 204 | 246 => 244 | 283 => 259 | 284 => 260 | 285 => 261 | 286 => 262 | 129 => 202 | 317 => 276 | 318 => 277 | 319 => 278 | 320 => 279 | 337 => 283 | 338 => 284 | n => n, fun | 3 => 3 | 9 => 9 | 2 => 2 | 4 => 4 | 171 => 301 | 0 => 0 | 53 => 259 | 37 => 221 | 5 => 5 | 173 => 303 | 212 => 316 | 51 => 257 | 20 => 20 | 213 => 317 | 46 => 218 | 232 => 321 | 233 => 322 | n => n, fun | 17 => 1 | 18 => 2 | 19 => 3 | n => n⟩
def Tryz.laysM171_ren : Go.Shelf.Ren := ⟨fun | 171 => 158 | 243 => 204 | 246 => 244 | 283 => 259 | 284 => 260 | 285 => 261 | 286 => 262 | 129 => 202 | 317 => 276 | 318 => 277 | 319 => 278 | 320 => 279 | 337 => 283 | 338 => 284 | n => n, fun | 3 => 3 | 9 => 9 | 2 => 2 | 4 => 4 | 171 => 301 | 0 => 0 | 53 => 259 | 37 => 221 | 5 => 5 | 173 => 303 | 212 => 316 | 51 => 257 | 20 => 20 | 213 => 317 | 46 => 218 | 232 => 321 | 233 => 322 | n => n, fun | 17 => 1 | 18 => 2 | 19 => 3 | n => n⟩
theorem Tryz.laysM171 : Go.Proofs.LaysM.n171 Tryz.prog Tryz.laysM171_ren := {
  mixed := by kernel_rfl
  f129 := Tryz.func202.trans (congrArg some (by kernel_rfl))
  f171 := Tryz.func158.trans (congrArg some (by kernel_rfl))
  f243 := Tryz.func204.trans (congrArg some (by kernel_rfl))
  f246 := Tryz.func244.trans (congrArg some (by kernel_rfl))
  f283 := Tryz.func259.trans (congrArg some (by kernel_rfl))
  f284 := Tryz.func260.trans (congrArg some (by kernel_rfl))
  f285 := Tryz.func261.trans (congrArg some (by kernel_rfl))
  f286 := Tryz.func262.trans (congrArg some (by kernel_rfl))
  f317 := Tryz.func276.trans (congrArg some (by kernel_rfl))
  f318 := Tryz.func277.trans (congrArg some (by kernel_rfl))
  f319 := Tryz.func278.trans (congrArg some (by kernel_rfl))
  f320 := Tryz.func279.trans (congrArg some (by kernel_rfl))
  f337 := Tryz.func283.trans (congrArg some (by kernel_rfl))
  f338 := Tryz.func284.trans (congrArg some (by kernel_rfl))
  t0 := Tryz.underlying0
  a0 := Tryz.isAgg0
  z0 := Tryz.sizeOf0
  v0 := Tryz.zeroValue0
  t2 := Tryz.underlying2
  a2 := Tryz.isAgg2
  z2 := Tryz.sizeOf2
  v2 := Tryz.zeroValue2
  t3 := Tryz.underlying3
  a3 := Tryz.isAgg3
  z3 := Tryz.sizeOf3
  v3 := Tryz.zeroValue3
  t4 := Tryz.underlying4
  a4 := Tryz.isAgg4
  z4 := Tryz.sizeOf4
  v4 := Tryz.zeroValue4
  t5 := Tryz.underlying5
  a5 := Tryz.isAgg5
  z5 := Tryz.sizeOf5
  v5 := Tryz.zeroValue5
  t9 := Tryz.underlying9
  a9 := Tryz.isAgg9
  z9 := Tryz.sizeOf9
  v9 := Tryz.zeroValue9
  t20 := Tryz.underlying20
  a20 := Tryz.isAgg20
  z20 := Tryz.sizeOf20
  v20 := Tryz.zeroValue20
  t37 := Tryz.underlying221
  a37 := Tryz.isAgg221
  z37 := Tryz.sizeOf221
  v37 := Tryz.zeroValue221
  t46 := Tryz.underlying218
  a46 := Tryz.isAgg218
  z46 := Tryz.sizeOf218
  v46 := Tryz.zeroValue218
  t51 := Tryz.underlying257
  a51 := Tryz.isAgg257
  z51 := Tryz.sizeOf257
  v51 := Tryz.zeroValue257
  t53 := Tryz.underlying259
  a53 := Tryz.isAgg259
  z53 := Tryz.sizeOf259
  v53 := Tryz.zeroValue259
  t171 := Tryz.underlying301
  a171 := Tryz.isAgg301
  z171 := Tryz.sizeOf301
  v171 := Tryz.zeroValue301
  t173 := Tryz.underlying303
  a173 := Tryz.isAgg303
  z173 := Tryz.sizeOf303
  v173 := Tryz.zeroValue303
  t212 := Tryz.underlying316
  a212 := Tryz.isAgg316
  z212 := Tryz.sizeOf316
  v212 := Tryz.zeroValue316
  t213 := Tryz.underlying317
  a213 := Tryz.isAgg317
  z213 := Tryz.sizeOf317
  t232 := Tryz.underlying321
  a232 := Tryz.isAgg321
  z232 := Tryz.sizeOf321
  v232 := Tryz.zeroValue321
  t233 := Tryz.underlying322
  a233 := Tryz.isAgg322
  z233 := Tryz.sizeOf322
  v233 := Tryz.zeroValue322
  g17 := by kernel_rfl
  g18 := by kernel_rfl
  g19 := by kernel_rfl
  i0 := by kernel_rfl
  i2 := by kernel_rfl
  i3 := by kernel_rfl
  i4 := by kernel_rfl
  i5 := by kernel_rfl
  i9 := by kernel_rfl
  i20 := by kernel_rfl
  i37 := by kernel_rfl
  i46 := by kernel_rfl
  i51 := by kernel_rfl
  i53 := by kernel_rfl
  i171 := by kernel_rfl
  i173 := by kernel_rfl
  i212 := by kernel_rfl
  i232 := by kernel_rfl
  i233 := by kernel_rfl
  m17 := by kernel_rfl
  m18 := by kernel_rfl
  m19 := by kernel_rfl }
open Go.RowKit Go.Sort Go.Lib in
theorem Tryz.strconv_Itoa (n : Int) (h0 : -9223372036854775808 ≤ n) (h1 : n ≤ 9223372036854775807) (w : World) (htab : Lib.TabIs Tryz.prog w "internal/strconv.uint64pow10" .u64 Lib.pow10Tab) :
    Calls Tryz.prog 158 #[.int .i64 n] w fun e w' => e = .returned (.string ⟨(Lib.itoa n).toArray⟩) ∧ ∃ k os, w' = grow (w.drewN k) os := Any.strconv_Itoa Tryz.laysM171 n h0 h1 w htab
def Tryz.lays219_ren : Go.Shelf.Ren := ⟨fun | 219 => 207 | 217 => 245 | 225 => 246 | 224 => 247 | 267 => 248 | 266 => 263 | 314 => 264 | n => n, fun | 9 => 9 | 3 => 3 | 4 => 4 | 5 => 5 | 46 => 218 | 146 => 305 | 51 => 257 | n => n, fun | 1 => 0 | n => n⟩
def Tryz.lays145_ren : Go.Shelf.Ren := ⟨fun | 145 => 102 | 220 => 165 | 219 => 207 | 217 => 245 | 225 => 246 | 224 => 247 | 267 => 248 | 266 => 263 | 314 => 264 | n => n, fun | 9 => 9 | 4 => 4 | 59 => 166 | 3 => 3 | 5 => 5 | 46 => 218 | 146 => 305 | 51 => 257 | n => n, fun | 1 => 0 | n => n⟩
theorem Tryz.lays145 : Go.Proofs.Lays.n145 Tryz.prog Tryz.lays145_ren := {
  mixed := by kernel_rfl
  f145 := Tryz.func102.trans (congrArg some (by kernel_rfl))
  f217 := Tryz.func245.trans (congrArg some (by kernel_rfl))
  f219 := Tryz.func207.trans (congrArg some (by kernel_rfl))
  f220 := Tryz.func165.trans (congrArg some (by kernel_rfl))
  f224 := Tryz.func247.trans (congrArg some (by kernel_rfl))
  f225 := Tryz.func246.trans (congrArg some (by kernel_rfl))
  f266 := Tryz.func263.trans (congrArg some (by kernel_rfl))
  f267 := Tryz.func248.trans (congrArg some (by kernel_rfl))
  f314 := Tryz.func264.trans (congrArg some (by kernel_rfl))
  t3 := Tryz.underlying3
  a3 := Tryz.isAgg3
  z3 := Tryz.sizeOf3
  v3 := Tryz.zeroValue3
  t4 := Tryz.underlying4
  a4 := Tryz.isAgg4
  z4 := Tryz.sizeOf4
  v4 := Tryz.zeroValue4
  t5 := Tryz.underlying5
  a5 := Tryz.isAgg5
  z5 := Tryz.sizeOf5
  v5 := Tryz.zeroValue5
  t9 := Tryz.underlying9
  a9 := Tryz.isAgg9
  z9 := Tryz.sizeOf9
  v9 := Tryz.zeroValue9
  t46 := Tryz.underlying218
  a46 := Tryz.isAgg218
  z46 := Tryz.sizeOf218
  v46 := Tryz.zeroValue218
  t51 := Tryz.underlying257
  a51 := Tryz.isAgg257
  z51 := Tryz.sizeOf257
  v51 := Tryz.zeroValue257
  t59 := Tryz.underlying166
  a59 := Tryz.isAgg166
  z59 := Tryz.sizeOf166
  v59 := Tryz.zeroValue166
  t146 := Tryz.underlying305
  a146 := Tryz.isAgg305
  z146 := Tryz.sizeOf305
  v146 := Tryz.zeroValue305
  g1 := by kernel_rfl }
open Go.RowKit Go.Lib in
theorem Tryz.strings_Cut (s sep : ByteArray) (m : Int) (w : World) (hs : s.size < 4294967281) (hm : w.cell? ⟨0, 0, none⟩ = some (.int .i64 m)) :
    Calls Tryz.prog 102 #[.string s, .string sep] w fun e w' => e = .returned (.tuple #[.string ⟨(Lib.cut s.data.toList sep.data.toList).1.toArray⟩, .string ⟨(Lib.cut s.data.toList sep.data.toList).2.1.toArray⟩, .bool (Lib.cut s.data.toList sep.data.toList).2.2]) ∧ ∃ n, w' = w.drewN n := Any.strings_Cut Tryz.lays145 s sep m w hs hm
def Tryz.lays206_ren : Go.Shelf.Ren := ⟨fun | 206 => 237 | n => n, fun | 9 => 9 | 4 => 4 | 3 => 3 | n => n, fun | n => n⟩
def Tryz.lays99_ren : Go.Shelf.Ren := ⟨fun | 99 => 190 | 206 => 237 | n => n, fun | 9 => 9 | 4 => 4 | 3 => 3 | n => n, fun | n => n⟩
theorem Tryz.lays99 : Go.Proofs.Lays.n99 Tryz.prog Tryz.lays99_ren := {
  mixed := by kernel_rfl
  f99 := Tryz.func190.trans (congrArg some (by kernel_rfl))
  f206 := Tryz.func237.trans (congrArg some (by kernel_rfl))
  t3 := Tryz.underlying3
  a3 := Tryz.isAgg3
  z3 := Tryz.sizeOf3
  v3 := Tryz.zeroValue3
  t4 := Tryz.underlying4
  a4 := Tryz.isAgg4
  z4 := Tryz.sizeOf4
  v4 := Tryz.zeroValue4
  t9 := Tryz.underlying9
  a9 := Tryz.isAgg9
  z9 := Tryz.sizeOf9
  v9 := Tryz.zeroValue9 }
open Go.RowKit Go.Lib in
theorem Tryz.strings_HasPrefix (s p : ByteArray) (w : World) :
    Calls Tryz.prog 190 #[.string s, .string p] w fun e w' => e = .returned (.bool (Lib.hasPrefix s.data.toList p.data.toList)) ∧ w' = w := Any.strings_HasPrefix Tryz.lays99 s p w
def Tryz.lays101_ren : Go.Shelf.Ren := ⟨fun | 101 => 153 | 208 => 191 | 206 => 237 | n => n, fun | 9 => 9 | 4 => 4 | 3 => 3 | n => n, fun | n => n⟩
theorem Tryz.lays101 : Go.Proofs.Lays.n101 Tryz.prog Tryz.lays101_ren := {
  mixed := by kernel_rfl
  f101 := Tryz.func153.trans (congrArg some (by kernel_rfl))
  f206 := Tryz.func237.trans (congrArg some (by kernel_rfl))
  f208 := Tryz.func191.trans (congrArg some (by kernel_rfl))
  t3 := Tryz.underlying3
  a3 := Tryz.isAgg3
  z3 := Tryz.sizeOf3
  v3 := Tryz.zeroValue3
  t4 := Tryz.underlying4
  a4 := Tryz.isAgg4
  z4 := Tryz.sizeOf4
  v4 := Tryz.zeroValue4
  t9 := Tryz.underlying9
  a9 := Tryz.isAgg9
  z9 := Tryz.sizeOf9
  v9 := Tryz.zeroValue9 }
open Go.RowKit Go.Lib in
theorem Tryz.strings_TrimPrefix (s p : ByteArray) (w : World) :
    Calls Tryz.prog 153 #[.string s, .string p] w fun e w' => e = .returned (.string ⟨(Lib.trimPrefix s.data.toList p.data.toList).toArray⟩) ∧ w' = w := Any.strings_TrimPrefix Tryz.lays101 s p w
end Go.Proofs
namespace Go.Sy
open Go Go.Proofs Go.RowKit
structure Glob (W0 : World) : Prop where
  big : ∃ m, W0.cell? ⟨0, 0, none⟩ = some (.int .i64 m)
  tab : Lib.TabIs Tryz.prog W0 "internal/strconv.uint64pow10" .u64 Lib.pow10Tab
theorem dec_len : ∀ (k u : Nat), u < 10 ^ (k + 1) → (Lib.decDigits u).length ≤ k + 1
  | 0, u, h => by
    unfold Lib.decDigits
    have : u < 10 := by simpa using h
    simp [this]
  | k + 1, u, h => by
    unfold Lib.decDigits
    split
    · simp
    have h2 : u / 10 < 10 ^ (k + 1) := by
      apply Nat.div_lt_of_lt_mul
      have : 10 ^ (k + 1 + 1) = 10 * 10 ^ (k + 1) := by rw [Nat.pow_succ, Nat.mul_comm]
      omega
    have := dec_len k (u / 10) h2
    simp; omega
theorem itoa_len {n : Int} (h : -9223372036854775808 ≤ n ∧ n ≤ 9223372036854775807) : (Lib.itoa n).length ≤ 20 := by
  have e : (10 : Nat) ^ (18 + 1) = 10000000000000000000 := by decide
  unfold Lib.itoa
  split
  · have := dec_len 18 n.natAbs Jb; simp; omega
  have := dec_len 18 n.toNat Jb; omega
attribute [local irreducible] AC AT AO AK AH ACalls Sub Res.cells Res.obj Res.nix Res.own Exit.then Exit.inBlock bodyPost Code.wp Code.wpIn WL Next Post Kont
section
variable {W0 : World} {L : List Res} {F : List Fact} {R : Value → List Res → List Fact → Prop}
set_option maxRecDepth 100000
theorem Glob.bigAt {w : World} (g : Glob W0) (s : Sat W0 L F w) : ∃ m, w.cell? ⟨0, 0, none⟩ = some (.int .i64 m) := by
  obtain ⟨m, hm⟩ := g.big
  exact ⟨m, cell_of_block (s.below.block _ (cell_block_lt hm)) hm⟩
theorem Glob.tabAt {w : World} (g : Glob W0) (s : Sat W0 L F w) : Lib.TabIs Tryz.prog w "internal/strconv.uint64pow10" .u64 Lib.pow10Tab := by
  have h : World.var? Tryz.prog W0 _ = _ := g.tab
  show World.var? Tryz.prog w _ = _
  unfold World.var? at h ⊢
  cases hg : Tryz.prog.globalNamed "internal/strconv.uint64pow10" with
  | none => rw [hg] at h; simp at h
  | some b =>
    rw [hg] at h
    simp only [Option.bind_some] at h ⊢
    have : b < W0.heap.size := by
      rcases Nat.lt_or_ge b W0.heap.size with k | k
      · exact k
      rw [Array.getElem?_eq_none k] at h; simp at h
    rw [s.below.block b this]; exact h
theorem cut_c (g : Glob W0) (s : List UInt8) (c : UInt8) (hs : s.length < 4294967281) (h : R (.tuple #[S (cutD c s).1, S (cutD c s).2.1, .bool (cutD c s).2.2]) L F) : ACalls Tryz.prog W0 102 #[S s, S [c]] L F R := by
  refine ACalls.libD (fun w sat => ?_) h
  obtain ⟨m, hm⟩ := g.bigAt sat
  have := Tryz.strings_Cut ⟨s.toArray⟩ ⟨#[c]⟩ m w (by simpa [ByteArray.size] using hs) hm
  have e : Lib.cut (⟨s.toArray⟩ : ByteArray).data.toList (⟨#[c]⟩ : ByteArray).data.toList = cutD c s := cut_eq c s
  rw [e] at this
  exact this
theorem itoa_c (g : Glob W0) (n : Int) (hn : -9223372036854775808 ≤ n ∧ n ≤ 9223372036854775807) (h : R (S (Lib.itoa n)) L F) : ACalls Tryz.prog W0 158 #[.int .i64 n] L F R :=
  ACalls.libG (fun w sat => Tryz.strconv_Itoa n hn.1 hn.2 w (g.tabAt sat)) h
end
end Go.Sy
namespace Go.Sy
open Go Go.Proofs
attribute [local irreducible] AC AT AO AK AH ACalls Sub Res.cells Res.obj Res.nix Res.own Exit.then Exit.inBlock bodyPost Code.wp Code.wpIn WL Next Post Kont
section
variable {W0 : World} {L : List Res} {F : List Fact} {R : Value → List Res → List Fact → Prop}
set_option maxRecDepth 100000
set_option maxHeartbeats 4000000
theorem bcheck0_c {b i : Nat} {v : Value} (hi : L[i]? = some (Res.cells b #[.pointer none, v] 223)) (h : R (.tuple #[]) (L.set i (Res.cells b #[.pointer (some ⟨b, 0, none⟩), v] 223)) F) :
    ACalls Tryz.prog W0 203 #[.pointer (some ⟨b, 0, none⟩)] L F R := by
  refine Gg Tryz.func203 HZ Tryz.ntmps203 HZ ?_
  refine qs 3 ?_
  refine Ga (GF HZ HZ ?_)
  refine qs 1 ?_
  refine Ga (Gy (cs := [.pointer none, v]) HZ HZ ?_ (hi := hi) (hv := HZ))
  refine Ga (AO.eqlP Tryz.underlying220 HZ HZ HZ ?_)
  refine qs 6 ?_
  refine Ga (AO.toUnsafe (m := 2) Tryz.underlying220 Tryz.underlying289 Ja HZ hi (Nat.zero_lt_succ 1) HZ HZ ?_)
  refine Ga (AO.noEscape Tryz.func243 Ja Ja Ja Ja HZ HZ ?_)
  refine Ga (AO.fromUnsafe Tryz.underlying289 Tryz.underlying220 Ja hi Ja HZ HZ ?_)
  refine Ga (GF HZ HZ ?_)
  refine qs 1 ?_
  refine Ga (GM (i := i) (cs := [.pointer none, v]) HZ HZ HZ ?_ (hi := hi) (ho := HZ))
  refine qs 1 ?_
  exact AK.end0 Tryz.results203 (Gf _ _) h
theorem bcheck1_c {b i : Nat} {v : Value} (hi : L[i]? = some (Res.cells b #[.pointer (some ⟨b, 0, none⟩), v] 223)) (h : R (.tuple #[]) L F) :
    ACalls Tryz.prog W0 203 #[.pointer (some ⟨b, 0, none⟩)] L F R := by
  refine Gg Tryz.func203 HZ Tryz.ntmps203 HZ ?_
  refine qs 3 ?_
  refine Ga (GF HZ HZ ?_)
  refine qs 1 ?_
  refine Ga (Gy (cs := [.pointer (some ⟨b, 0, none⟩), v]) HZ HZ ?_ (hi := hi) (hv := HZ))
  refine Ga (AO.eqlP Tryz.underlying220 HZ HZ HZ ?_)
  refine qs 6 ?_
  refine Ga (GF HZ HZ ?_)
  refine qs 1 ?_
  refine Ga (Gy (cs := [.pointer (some ⟨b, 0, none⟩), v]) HZ HZ ?_ (hi := hi) (hv := HZ))
  refine qs 1 ?_
  refine Ga (AO.neqPs Tryz.underlying220 Ja HZ HZ HZ ?_)
  refine qs 4 ?_
  exact AK.end0 Tryz.results203 (Gf _ _) h
theorem set3 {α : Type} {l : List α} {i j : Nat} {a o c : α} (hij : i ≠ j) : (((l.set i a).set j o).set i c) = (l.set j o).set i c := by
  rw [List.set_comm a o hij, List.set_set]
theorem wstr0_c {b i j : Nat} {v : Value} {lst s : List UInt8} (hij : i ≠ j) (hi : L[i]? = some (Res.cells b #[.pointer none, v] 223)) (hj : L[j]? = some (Res.own v 5 1 (lst.map eB))) (hlen : lst.length + s.length ≤ 100000000)
    (h : ∀ a k c, (Value.slice a k c = .slice none 0 0 ↔ v = .slice none 0 0 ∧ s = []) → R (.tuple #[.int .i64 s.length, .nilIface]) ((L.set j (Res.own (.slice a k c) 5 1 ((lst ++ s).map eB))).set i (Res.cells b #[.pointer (some ⟨b, 0, none⟩), .slice a k c] 223)) F) :
    ACalls Tryz.prog W0 157 #[.pointer (some ⟨b, 0, none⟩), S s] L F R := by
  have hml : 1000000000 ≤ maxLen := by decide
  have hi1 : (L.set i (Res.cells b #[.pointer (some ⟨b, 0, none⟩), v] 223))[i]? = some (Res.cells b #[.pointer (some ⟨b, 0, none⟩), v] 223) := by simp [HK hi]
  have hj1 : (L.set i (Res.cells b #[.pointer (some ⟨b, 0, none⟩), v] 223))[j]? = some (Res.own v 5 1 (lst.map eB)) := by rw [List.getElem?_set_ne hij]; exact hj
  refine Gg Tryz.func157 HZ Tryz.ntmps157 HZ ?_
  refine qs 9 ?_
  refine Ga (Ge HZ HZ (bcheck0_c hi ?_))
  refine qs 6 ?_
  refine Ga (GF HZ HZ ?_)
  refine qs 1 ?_
  refine Ga (Gy (cs := [.pointer (some ⟨b, 0, none⟩), v]) HZ HZ ?_ (hi := hi1) (hv := HZ))
  refine qs 1 ?_
  refine Ga (AO.appendS (i := j) HZ HZ HZ hj1 Jb Jb (fun a14 k14 z14 n14 => ?_))
  refine Ga (GF HZ HZ ?_)
  refine qs 1 ?_
  have hi2 : ((L.set i (Res.cells b #[.pointer (some ⟨b, 0, none⟩), v] 223)).set j (Res.own (.slice a14 k14 z14) 5 1 ((lst ++ s).map eB)))[i]? = some (Res.cells b #[.pointer (some ⟨b, 0, none⟩), v] 223) := by rw [List.getElem?_set_ne hij.symm]; exact hi1
  refine Ga (GM (i := i) (cs := [.pointer (some ⟨b, 0, none⟩), v]) HZ HZ HZ ?_ (hi := hi2) (ho := HZ))
  refine qs 11 ?_
  refine Hp (F' := F) Tryz.results157 HZ HZ (Hk ?_) (h a14 k14 z14 n14)
  exact set3 hij
theorem wstr1_c {b i j : Nat} {v : Value} {lst s : List UInt8} (hij : i ≠ j) (hi : L[i]? = some (Res.cells b #[.pointer (some ⟨b, 0, none⟩), v] 223)) (hj : L[j]? = some (Res.own v 5 1 (lst.map eB))) (hlen : lst.length + s.length ≤ 100000000)
    (h : ∀ a k c, (Value.slice a k c = .slice none 0 0 ↔ v = .slice none 0 0 ∧ s = []) → R (.tuple #[.int .i64 s.length, .nilIface]) ((L.set j (Res.own (.slice a k c) 5 1 ((lst ++ s).map eB))).set i (Res.cells b #[.pointer (some ⟨b, 0, none⟩), .slice a k c] 223)) F) :
    ACalls Tryz.prog W0 157 #[.pointer (some ⟨b, 0, none⟩), S s] L F R := by
  have hml : 1000000000 ≤ maxLen := by decide
  have hi1 : (L)[i]? = some (Res.cells b #[.pointer (some ⟨b, 0, none⟩), v] 223) := by exact hi
  have hj1 : (L)[j]? = some (Res.own v 5 1 (lst.map eB)) := by exact hj
  refine Gg Tryz.func157 HZ Tryz.ntmps157 HZ ?_
  refine qs 9 ?_
  refine Ga (Ge HZ HZ (bcheck1_c hi ?_))
  refine qs 6 ?_
  refine Ga (GF HZ HZ ?_)
  refine qs 1 ?_
  refine Ga (Gy (cs := [.pointer (some ⟨b, 0, none⟩), v]) HZ HZ ?_ (hi := hi1) (hv := HZ))
  refine qs 1 ?_
  refine Ga (AO.appendS (i := j) HZ HZ HZ hj1 Jb Jb (fun a14 k14 z14 n14 => ?_))
  refine Ga (GF HZ HZ ?_)
  refine qs 1 ?_
  have hi2 : ((L).set j (Res.own (.slice a14 k14 z14) 5 1 ((lst ++ s).map eB)))[i]? = some (Res.cells b #[.pointer (some ⟨b, 0, none⟩), v] 223) := by rw [List.getElem?_set_ne hij.symm]; exact hi1
  refine Ga (GM (i := i) (cs := [.pointer (some ⟨b, 0, none⟩), v]) HZ HZ HZ ?_ (hi := hi2) (ho := HZ))
  refine qs 11 ?_
  refine Hp (F' := F) Tryz.results157 HZ HZ (Hk ?_) (h a14 k14 z14 n14)
  rfl
theorem wstr_c {b i j : Nat} {p : Option Addr} {v : Value} {lst s : List UInt8} (hp : p = none ∨ p = some ⟨b, 0, none⟩) (hij : i ≠ j) (hi : L[i]? = some (Res.cells b #[.pointer p, v] 223)) (hj : L[j]? = some (Res.own v 5 1 (lst.map eB))) (hlen : lst.length + s.length ≤ 100000000)
    (h : ∀ a k c, (Value.slice a k c = .slice none 0 0 ↔ v = .slice none 0 0 ∧ s = []) → R (.tuple #[.int .i64 s.length, .nilIface]) ((L.set j (Res.own (.slice a k c) 5 1 ((lst ++ s).map eB))).set i (Res.cells b #[.pointer (some ⟨b, 0, none⟩), .slice a k c] 223)) F) :
    ACalls Tryz.prog W0 157 #[.pointer (some ⟨b, 0, none⟩), S s] L F R := by
  rcases hp with rfl | rfl
  · exact wstr0_c hij hi hj hlen h
  exact wstr1_c hij hi hj hlen h
theorem bstr0_c {b i : Nat} {p : Option Addr} (hi : L[i]? = some (Res.cells b #[.pointer p, .slice none 0 0] 223)) (h : R (S []) L F) :
    ACalls Tryz.prog W0 159 #[.pointer (some ⟨b, 0, none⟩)] L F R := by
  refine Gg Tryz.func159 HZ Tryz.ntmps159 HZ ?_
  refine qs 6 ?_
  refine GP (fun _ => false) [(b, [.pointer p, .slice none 0 0], 223)] (.cons hi .nil) HZ (fun hx hX => ?_)
  refine GD (i := 0) HZ (Y.move HZ) Ja HZ HZ ?_
  refine GD (i := 1) HZ (Y.nilCheckP HZ) Ja HZ HZ ?_
  refine GD (i := 2) HZ (Y.field HZ) Ja HZ HZ ?_
  refine GR (i := 3) HZ (Y.loadB HZ (.head _) (by rfl)) Ja Ja HZ HZ HZ ?_
  refine GD (i := 5) HZ (Y.move HZ) Ja HZ HZ ?_
  refine GD (i := 6) HZ (Y.nilCheckP HZ) Ja HZ HZ ?_
  refine GD (i := 7) HZ (Y.field HZ) Ja HZ HZ ?_
  refine GR (i := 8) HZ (Y.loadB HZ (.head _) (by rfl)) Ja Ja HZ HZ HZ ?_
  refine GD (i := 9) HZ (Y.lenV HZ) Ja HZ HZ ?_
  refine Gm (i := 4) Ja HZ HZ (fun _ => ?_)
  refine AO.sliceData0 HZ HZ ?_
  refine Gi (.cons hi .nil) mem0 ?_
  refine Gm (i := 10) Ja HZ HZ (fun _ => ?_)
  refine AO.unsafeStr0 HZ HZ HZ ?_
  refine Gi (.cons hi .nil) mem0 ?_
  refine GD (i := 11) HZ (Y.assign HZ) Ja HZ HZ ?_
  refine Gq Ja ?_
  refine qs 2 ?_
  exact Gb (L' := L) (F' := F) Tryz.results159 rfl subF h
theorem bstr1_c {b i j g k : Nat} {p : Option Addr} {lst : List UInt8} (hij : i ≠ j) (hk : k ≠ 0) (hne : lst ≠ []) (hi : L[i]? = some (Res.cells b #[.pointer p, .slice (some ⟨g, 0, none⟩) lst.length k] 223)) (hj : L[j]? = some (Res.own (.slice (some ⟨g, 0, none⟩) lst.length k) 5 1 (lst.map eB)))
    (h : R (S lst) (L.set j Res.nix) F) : ACalls Tryz.prog W0 159 #[.pointer (some ⟨b, 0, none⟩)] L F R := by
  have hi2 : (L.set j Res.nix)[i]? = some (Res.cells b #[.pointer p, .slice (some ⟨g, 0, none⟩) lst.length k] 223) := by rw [List.getElem?_set_ne hij.symm]; exact hi
  refine Gg Tryz.func159 HZ Tryz.ntmps159 HZ ?_
  refine qs 6 ?_
  refine GP (fun _ => false) [(b, [.pointer p, .slice (some ⟨g, 0, none⟩) lst.length k], 223)] (.cons hi .nil) HZ (fun hx hX => ?_)
  refine GD (i := 0) HZ (Y.move HZ) Ja HZ HZ ?_
  refine GD (i := 1) HZ (Y.nilCheckP HZ) Ja HZ HZ ?_
  refine GD (i := 2) HZ (Y.field HZ) Ja HZ HZ ?_
  refine GR (i := 3) HZ (Y.loadB HZ (.head _) (by rfl)) Ja Ja HZ HZ HZ ?_
  refine GD (i := 5) HZ (Y.move HZ) Ja HZ HZ ?_
  refine GD (i := 6) HZ (Y.nilCheckP HZ) Ja HZ HZ ?_
  refine GD (i := 7) HZ (Y.field HZ) Ja HZ HZ ?_
  refine GR (i := 8) HZ (Y.loadB HZ (.head _) (by rfl)) Ja Ja HZ HZ HZ ?_
  refine GD (i := 9) HZ (Y.lenV HZ) Ja HZ HZ ?_
  refine Gm (i := 4) Ja HZ HZ (fun _ => ?_)
  refine AO.sliceData1 HZ hk HZ ?_
  refine Gi (.cons hi .nil) mem0 ?_
  refine Gm (i := 10) Ja HZ HZ (fun _ => ?_)
  refine AO.unsafeStr1 Tryz.underlying260 Ja HZ HZ HZ hj hne ?_
  refine Gi (.cons hi2 .nil) mem0 ?_
  refine GD (i := 11) HZ (Y.assign HZ) Ja HZ HZ ?_
  refine Gq Ja ?_
  refine qs 2 ?_
  exact Gb (L' := L.set j Res.nix) (F' := F) Tryz.results159 rfl subF h
theorem bstr_c {b i j : Nat} {p : Option Addr} {v : Value} {lst : List UInt8} (hij : i ≠ j) (hi : L[i]? = some (Res.cells b #[.pointer p, v] 223)) (hj : L[j]? = some (Res.own v 5 1 (lst.map eB))) (hn : lst = [] → v = .slice none 0 0)
    (h : R (S lst) (L.set j Res.nix) F) : ACalls Tryz.prog W0 159 #[.pointer (some ⟨b, 0, none⟩)] L F R := by
  by_cases hne : lst = []
  · have hv := hn hne
    subst hne hv
    exact Hm (Sub.dropAt hj) (bstr0_c (L := L.set j Res.nix) (by rw [List.getElem?_set_ne hij.symm]; exact hi) h)
  refine ACalls.ownForm hj hne (fun g c hv hc => ?_)
  subst hv
  exact bstr1_c hij hc hne hi hj h
end
end Go.Sy
namespace Go.Sy
open Go Go.Proofs Go.RowKit
structure TyOk (t : Ty) : Prop where
  kind : -9223372036854775808 ≤ t.kind ∧ t.kind ≤ 9223372036854775807
  n : -9223372036854775808 ≤ t.n ∧ t.n ≤ 9223372036854775807
  name : t.name.length ≤ 60
  words : t.words.length ≤ 20
  word : ∀ w ∈ t.words, w.length ≤ 1048576
  kids : t.kids.length ≤ 20
  kid : ∀ k ∈ t.kids, -9223372036854775808 ≤ k ∧ k ≤ 9223372036854775807
structure TyOk2 (t : Ty) : Prop where
  kind : -9223372036854775808 ≤ t.kind ∧ t.kind ≤ 9223372036854775807
  n : -9223372036854775808 ≤ t.n ∧ t.n ≤ 9223372036854775807
  name : t.name.length ≤ 60
  words : t.words.length ≤ 40
  word : ∀ w ∈ t.words, w.length ≤ 1048576
  kids : t.kids.length ≤ 40
  kid : ∀ k ∈ t.kids, -9223372036854775808 ≤ k ∧ k ≤ 9223372036854775807
theorem TyOk.up {t : Ty} (h : TyOk t) : TyOk2 t := ⟨h.kind, h.n, h.name, by have := h.words; omega, h.word, by have := h.kids; omega, h.kid⟩
abbrev vKey (k : Key) : Value := .agg #[.int .i64 k.kind, .int .i64 k.n, S k.name, S k.words, S k.kids, S k.lengths]
theorem flat_len {m : Nat} : ∀ (l : List (List UInt8)), (∀ s ∈ l, s.length ≤ m) → l.flatten.length ≤ m * l.length
  | [], _ => by simp
  | s :: l, h => by
    have ih := flat_len l (fun x hx => h x (.tail _ hx))
    have hs := h s (.head _)
    simp only [List.flatten_cons, List.length_append, List.length_cons, Nat.mul_succ]
    omega
theorem commas_len : ∀ (l : List Int), (∀ k ∈ l, -9223372036854775808 ≤ k ∧ k ≤ 9223372036854775807) → (commas l).length ≤ 21 * l.length
  | [], _ => by simp [commas]
  | k :: l, h => by
    have ih := commas_len l (fun x hx => h x (.tail _ hx))
    have hs := itoa_len (h k (.head _))
    rw [commas_cons]
    simp only [List.length_append, List.length_cons, Nat.mul_succ]
    omega
theorem flat_step {l : List (List UInt8)} {q : Nat} (hq : q < l.length) : (l.take q).flatten ++ l[q] = (l.take (q + 1)).flatten := by
  rw [List.take_succ_eq_append_getElem hq, List.flatten_append]; simp only [List.flatten_cons, List.flatten_nil, List.append_nil]
theorem lens_step {l : List (List UInt8)} {q : Nat} (hq : q < l.length) : commas (lensOf (l.take q)) ++ (Lib.itoa (l[q].length : Int) ++ [44]) = commas (lensOf (l.take (q + 1))) := by
  rw [List.take_succ_eq_append_getElem hq, lensOf, lensOf, List.map_append, List.map_cons, List.map_nil, commas_snoc]
theorem kids_step {l : List Int} {q : Nat} (hq : q < l.length) : commas (l.take q) ++ (Lib.itoa l[q] ++ [44]) = commas (l.take (q + 1)) := by
  rw [List.take_succ_eq_append_getElem hq, commas_snoc]
theorem nil_keep {v v' : Value} {a b : List UInt8} (h : a = [] → v = .slice none 0 0) (hn : v' = .slice none 0 0 ↔ v = .slice none 0 0 ∧ b = []) : a ++ b = [] → v' = .slice none 0 0 := by
  intro e
  have := List.append_eq_nil_iff.1 e
  exact hn.2 ⟨h this.1, this.2⟩
theorem lens_ok {l : List (List UInt8)} (h : ∀ w ∈ l, w.length ≤ 1048576) : ∀ k ∈ lensOf l, -9223372036854775808 ≤ k ∧ k ≤ 9223372036854775807 := by
  intro k hk
  unfold lensOf at hk
  obtain ⟨w, hw, rfl⟩ := List.mem_map.1 hk
  have := h w hw
  omega
attribute [local irreducible] AC AT AO AK AH ACalls Sub Res.cells Res.obj Res.nix Res.own Exit.then Exit.inBlock bodyPost Code.wp Code.wpIn WL Next Post Kont
section
variable {W0 : World} {L : List Res} {F : List Fact} {R : Value → List Res → List Fact → Prop}
set_option maxRecDepth 100000
set_option maxHeartbeats 4000000
theorem keyOf_c (g : Glob W0) (t : Ty) (ht : TyOk2 t) {a1 a2 : Option Addr} {k1 c1 k2 c2 : Nat} (m1 : fW t a1 k1 c1 ∈ F) (m2 : fK t a2 k2 c2 ∈ F) (h : R (vKey (keyT t)) L F) :
    ACalls Tryz.prog W0 100 #[vTy t a1 k1 c1 a2 k2 c2] L F R := by
  have hw := ht.word
  have hwl := ht.words
  have hk := ht.kid
  have hkl := ht.kids
  have hml : 1000000000 ≤ maxLen := by decide
  refine Gg Tryz.func100 HZ Tryz.ntmps100 HZ ?_
  refine qs 2 ?_
  refine Ga (GL HZ HZ (fun b1 => (Ga (Gj HZ (fun b2 => ?_)))))
  refine qs 11 ?_
  refine Ga (Gj HZ (fun b3 => ?_))
  refine qs 5 ?_
  refine Ga (Gj HZ (fun b4 => (Ga (Gj HZ (fun b5 => (Ga (Gj HZ (fun b6 => ?_))))))))
  refine GH ((GZ (e := 5) (sz := 1)).trans ((GZ (e := 5) (sz := 1)).trans (GZ (e := 5) (sz := 1)))) ?_
  refine qs 7 ?_
  refine Ga (Gt HZ HZ (fun hl20 => ?_) (hm := by repeat (first | exact mem0 | assumption | refine memS ?_)))
  refine qs 4 ?_
  refine GB (fun (i : Nat × (Option Addr × Option Addr × Nat × Nat) × (Option Addr × Option Addr × Nat × Nat)) => i.1 ≤ t.words.length ∧ (i.2.1.1 = none ∨ i.2.1.1 = some ⟨b4, 0, none⟩) ∧ (i.2.2.1 = none ∨ i.2.2.1 = some ⟨b6, 0, none⟩) ∧ ((t.words.take i.1).flatten = [] → Value.slice i.2.1.2.1 i.2.1.2.2.1 i.2.1.2.2.2 = .slice none 0 0) ∧ (commas (lensOf (t.words.take i.1)) = [] → Value.slice i.2.2.2.1 i.2.2.2.2.1 i.2.2.2.2.2 = .slice none 0 0)) (fun i => [(1, .pointer (some ⟨b1, 0, none⟩)), (2, .pointer (some ⟨b2, 0, none⟩)), (3, .pointer (some ⟨b3, 0, none⟩)), (4, .pointer (some ⟨b4, 0, none⟩)), (5, .pointer (some ⟨b5, 0, none⟩)), (6, .pointer (some ⟨b6, 0, none⟩)), (19, .slice a1 k1 c1), (20, .int .i64 t.words.length), (21, .int .i64 (i.1 : Int))]) (fun i => Res.own (.slice i.2.1.2.1 i.2.1.2.2.1 i.2.1.2.2.2) 5 1 ((t.words.take i.1).flatten.map eB) :: Res.own (.slice none 0 0) 5 1 [] :: Res.own (.slice i.2.2.2.1 i.2.2.2.2.1 i.2.2.2.2.2) 5 1 ((commas (lensOf (t.words.take i.1))).map eB) :: Res.cells b6 #[.pointer i.2.2.1, .slice i.2.2.2.1 i.2.2.2.2.1 i.2.2.2.2.2] 223 :: Res.cells b5 #[.pointer none, .slice none 0 0] 223 :: Res.cells b4 #[.pointer i.2.1.1, .slice i.2.1.2.1 i.2.1.2.2.1 i.2.1.2.2.2] 223 :: _) (fun _ => F) (fun i => t.words.length - i.1) (0, (none, none, 0, 0), (none, none, 0, 0)) ⟨by omega, Or.inl rfl, Or.inl rfl, fun _ => rfl, fun _ => rfl⟩ srA (Gf _ _) ?_
  rintro ⟨q, ⟨pw, aw, kw, zw⟩, ⟨pl, al, kl, zl⟩⟩ ⟨hq, hpw, hpl, hnw, hnl⟩
  simp only at hq hpw hpl hnw hnl ⊢
  refine qs 2 ?_
  refine Ga (Gw HZ HZ HZ (fun c22 => ?_) (fun c22 => ?_))
  ·refine qs 10 ?_
   have hql : q < t.words.length := by omega
   have hsl := hw _ (List.getElem_mem hql)
   have hfl := flat_len (m := 1048576) (t.words.take q) (fun s hs => hw s (List.mem_of_mem_take hs))
   have htl : (t.words.take q).length ≤ 40 := by simp; omega
   have hcl := commas_len (lensOf (t.words.take q)) (lens_ok (fun s hs => hw s (List.mem_of_mem_take hs)))
   have hll : (lensOf (t.words.take q)).length ≤ 40 := by simp [lensOf]; omega
   have hil : (Lib.itoa (t.words[q].length : Int)).length ≤ 20 := itoa_len Jb
   refine Ga (Gd HZ HZ HZ HZ memA hql (fun _ _ => ?_))
   refine Ga (Gs HZ HZ ?_)
   intros
   refine qs 6 ?_
   refine Ga (Ge HZ HZ (wstr_c (b := b4) (i := 5) (j := 0) hpw (by decide) HZ HZ Jb (fun a26 k26 z26 n26 => ?_)))
   refine qs 5 ?_
   refine Ga (Ge HZ HZ (itoa_c g _ Jb ?_))
   refine Ga (AO.addS HZ HZ HZ (by first | omega | (simp; omega)) ?_)
   refine Ga (Ge HZ HZ (wstr_c (b := b6) (i := 3) (j := 2) hpl (by decide) HZ HZ (by rw [List.length_append]; simp only [List.length_cons, List.length_nil]; omega) (fun a31 k31 z31 n31 => ?_)))
   rw [flat_step hql, lens_step hql]
   refine qs 7 ?_
   refine Gk (q + 1, (some ⟨b4, 0, none⟩, a26, k26, z26), (some ⟨b6, 0, none⟩, a31, k31, z31)) ⟨by simp only; omega, Or.inr rfl, Or.inr rfl, by rw [← flat_step hql]; exact nil_keep hnw n26, by rw [← lens_step hql]; exact nil_keep hnl n31⟩ (by simp only; omega) srA subF
  refine qs 14 ?_
  refine Ga (Gt HZ HZ (fun hl35 => ?_) (hm := by repeat (first | exact mem0 | assumption | refine memS ?_)))
  refine qs 4 ?_
  have hw9 : t.words.take q = t.words := List.take_of_length_le Jb
  rw [hw9] at hnw hnl ⊢
  refine GB (fun (i : Nat × (Option Addr × Option Addr × Nat × Nat)) => i.1 ≤ t.kids.length ∧ (i.2.1 = none ∨ i.2.1 = some ⟨b5, 0, none⟩) ∧ (commas (t.kids.take i.1) = [] → Value.slice i.2.2.1 i.2.2.2.1 i.2.2.2.2 = .slice none 0 0)) (fun i => [(1, .pointer (some ⟨b1, 0, none⟩)), (2, .pointer (some ⟨b2, 0, none⟩)), (3, .pointer (some ⟨b3, 0, none⟩)), (4, .pointer (some ⟨b4, 0, none⟩)), (5, .pointer (some ⟨b5, 0, none⟩)), (6, .pointer (some ⟨b6, 0, none⟩)), (34, .slice a2 k2 c2), (35, .int .i64 t.kids.length), (36, .int .i64 (i.1 : Int))]) (fun i => Res.own (.slice aw kw zw) 5 1 (t.words.flatten.map eB) :: Res.own (.slice i.2.2.1 i.2.2.2.1 i.2.2.2.2) 5 1 ((commas (t.kids.take i.1)).map eB) :: Res.own (.slice al kl zl) 5 1 ((commas (lensOf t.words)).map eB) :: Res.cells b6 #[.pointer pl, .slice al kl zl] 223 :: Res.cells b5 #[.pointer i.2.1, .slice i.2.2.1 i.2.2.2.1 i.2.2.2.2] 223 :: Res.cells b4 #[.pointer pw, .slice aw kw zw] 223 :: _) (fun _ => F) (fun i => t.kids.length - i.1) (0, (none, none, 0, 0)) ⟨by omega, Or.inl rfl, fun _ => rfl⟩ srA (Gf _ _) ?_
  rintro ⟨u, ⟨pk, ak, kk, zk⟩⟩ ⟨hu, hpk, hnk⟩
  simp only at hu hpk hnk ⊢
  refine qs 2 ?_
  refine Ga (Gw HZ HZ HZ (fun c37 => ?_) (fun c37 => ?_))
  ·refine qs 10 ?_
   have hul : u < t.kids.length := by omega
   have hkr := hk _ (List.getElem_mem hul)
   have hcl := commas_len (t.kids.take u) (fun s hs => hk s (List.mem_of_mem_take hs))
   have hll : (t.kids.take u).length ≤ 40 := by simp; omega
   have hil : (Lib.itoa t.kids[u]).length ≤ 20 := itoa_len hkr
   refine Ga (Gd HZ HZ HZ HZ memA hul (fun _ _ => ?_))
   refine Ga (Gs HZ HZ ?_)
   intros
   refine qs 5 ?_
   refine Ga (Ge HZ HZ (itoa_c g _ hkr ?_))
   refine Ga (AO.addS HZ HZ HZ (by first | omega | (simp; omega)) ?_)
   refine Ga (Ge HZ HZ (wstr_c (b := b5) (i := 4) (j := 1) hpk (by decide) HZ HZ (by rw [List.length_append]; simp only [List.length_cons, List.length_nil]; omega) (fun a43 k43 z43 n43 => ?_)))
   rw [kids_step hul]
   refine qs 7 ?_
   refine Gk (u + 1, (some ⟨b5, 0, none⟩, a43, k43, z43)) ⟨by simp only; omega, Or.inr rfl, by rw [← kids_step hul]; exact nil_keep hnk n43⟩ (by simp only; omega) srA subF
  refine qs 11 ?_
  have hk9 : t.kids.take u = t.kids := List.take_of_length_le Jb
  rw [hk9] at hnk ⊢
  refine Ga (Ge HZ HZ (bstr_c (b := b4) (i := 5) (j := 0) (by decide) HZ HZ hnw ?_))
  refine Ga (Ge HZ HZ (bstr_c (b := b5) (i := 4) (j := 1) (by decide) HZ HZ hnk ?_))
  refine Ga (Ge HZ HZ (bstr_c (b := b6) (i := 3) (j := 2) (by decide) HZ HZ hnl ?_))
  refine qs 15 ?_
  exact Gn (rs := [.cell 2 _]) (L' := L) (F' := F) Tryz.results100 (.agg (j := 7) rfl rfl rfl .nil) subA h
end
end Go.Sy
namespace Go.Sy
open Go Go.Proofs Go.RowKit
theorem trimp_eq (s : List UInt8) : Lib.trimPrefix s [43] = fieldN s := by
  unfold Lib.trimPrefix fieldN
  cases s with
  | nil => rfl
  | cons x r =>
    by_cases h : x = 43
    · subst h; simp [Lib.hasPrefix]
    have : Lib.hasPrefix (x :: r) [43] = false := by simp [Lib.hasPrefix, List.isPrefixOf, Ne.symm h]
    rw [this]
    simp
    split
    · rename_i e; exact absurd (List.cons.inj e).1 h
    rfl
def SeenIs (ws : List (List UInt8)) (q : Nat) (m : List UInt8 → Option Bool) : Prop := ∀ x, m x = some true ↔ x ≠ [95] ∧ ∃ (j : Nat) (hj : j < ws.length), j < q ∧ fieldN ws[j] = x
theorem SeenIs.zero (ws : List (List UInt8)) : SeenIs ws 0 (fun _ => none) := fun x => ⟨fun h => by simp at h, fun ⟨_, j, _, h, _⟩ => absurd h Jb⟩
theorem SeenIs.step {ws : List (List UInt8)} {q : Nat} {m : List UInt8 → Option Bool} (h : SeenIs ws q m) (hq : q < ws.length) {b : Bool} (hb : b = true ↔ fieldN ws[q] ≠ [95]) : SeenIs ws (q + 1) (upd m (fieldN ws[q]) b) := by
  intro x
  by_cases hx : x = fieldN ws[q]
  · subst hx
    rw [upd_self, Option.some.injEq, hb]
    exact ⟨fun h1 => ⟨h1, q, hq, by omega, rfl⟩, fun h1 => h1.1⟩
  rw [upd_ne _ hx, h x]
  constructor
  · rintro ⟨h1, j, hj, h2, h3⟩; exact ⟨h1, j, hj, by omega, h3⟩
  rintro ⟨h1, j, hj, h2, h3⟩
  refine ⟨h1, j, hj, ?_, h3⟩
  rcases Nat.lt_succ_iff_lt_or_eq.1 h2 with k | rfl
  · exact k
  exact absurd h3.symm hx
theorem field_step {ws : List (List UInt8)} {q : Nat} {m : List UInt8 → Option Bool} (hs : SeenIs ws q m) (hok : ∀ i (hi : i < ws.length), i < q → fieldAt ws i hi) (hq : q < ws.length) (h1 : isName (fieldN ws[q]) = true) (h2 : m (fieldN ws[q]) ≠ some true) : ∀ i (hi : i < ws.length), i < q + 1 → fieldAt ws i hi := by
  intro i hi hiq
  rcases Nat.lt_succ_iff_lt_or_eq.1 hiq with k | rfl
  · exact hok i hi k
  refine ⟨h1, fun j hj e => ?_⟩
  refine Classical.byContradiction (fun hne => h2 ((hs _).2 ⟨hne, j, by omega, hj, e⟩))
theorem field_seen {ws : List (List UInt8)} {q : Nat} {m : List UInt8 → Option Bool} (hs : SeenIs ws q m) (hq : q < ws.length) (h2 : m (fieldN ws[q]) = some true) : ¬ fieldsP ws := by
  intro hf
  obtain ⟨hne, j, hj, hjq, e⟩ := (hs _).1 h2
  exact hne ((hf q hq).2 j hjq e)
attribute [local irreducible] AC AT AO AK AH ACalls Sub Res.cells Res.obj Res.nix Res.own Res.map Exit.then Exit.inBlock bodyPost Code.wp Code.wpIn WL Next Post Kont
section
variable {W0 : World} {L : List Res} {F : List Fact} {R : Value → List Res → List Fact → Prop}
set_option maxRecDepth 100000
set_option maxHeartbeats 4000000
theorem trimp_c (s : List UInt8) (h : R (S (fieldN s)) L F) : ACalls Tryz.prog W0 153 #[S s, S [43]] L F R := by
  refine ACalls.lib0 (fun w _ => ?_) h
  have := Tryz.strings_TrimPrefix ⟨s.toArray⟩ ⟨#[43]⟩ w
  have e : Lib.trimPrefix (⟨s.toArray⟩ : ByteArray).data.toList (⟨#[43]⟩ : ByteArray).data.toList = fieldN s := trimp_eq s
  rw [e] at this
  exact this
theorem pmark_c (s : List UInt8) (hT : markP s → R (.bool true) L F) (hF : ¬ markP s → R (.bool false) L F) : ACalls Tryz.prog W0 205 #[S s] L F R := by
  refine Gg Tryz.func205 HZ Tryz.ntmps205 HZ ?_
  refine qs 8 ?_
  refine Ga (Hi HZ HZ HZ (fun c4 => ?_) (fun c4 => ?_))
  ·refine qs 8 ?_
   first | exact Gb Tryz.results205 rfl (Gf _ _) (hT (Or.inl c4)) | exact Gb Tryz.results205 rfl (Gf _ _) (hT (Or.inr c7)) | exact Gb Tryz.results205 rfl (Gf _ _) (hF (fun e => e.elim c4 c7))
  refine qs 2 ?_
  refine Gc HZ HZ (Hi HZ HZ HZ (fun c7 => ?_) (fun c7 => ?_))
  ·refine qs 5 ?_
   first | exact Gb Tryz.results205 rfl (Gf _ _) (hT (Or.inl c4)) | exact Gb Tryz.results205 rfl (Gf _ _) (hT (Or.inr c7)) | exact Gb Tryz.results205 rfl (Gf _ _) (hF (fun e => e.elim c4 c7))
  refine qs 5 ?_
  first | exact Gb Tryz.results205 rfl (Gf _ _) (hT (Or.inl c4)) | exact Gb Tryz.results205 rfl (Gf _ _) (hT (Or.inr c7)) | exact Gb Tryz.results205 rfl (Gf _ _) (hF (fun e => e.elim c4 c7))
theorem untyped_c (i : Int) (hT : 14 ≤ i ∧ i ≤ 19 → R (.bool true) L F) (hF : ¬(14 ≤ i ∧ i ≤ 19) → R (.bool false) L F) : ACalls Tryz.prog W0 206 #[.int .i64 i] L F R := by
  refine Gg Tryz.func206 HZ Tryz.ntmps206 HZ ?_
  refine qs 8 ?_
  refine Ga (GY HZ HZ HZ (fun c4 => ?_) (fun c4 => ?_))
  ·refine qs 2 ?_
   refine Gc HZ HZ (HG HZ HZ HZ (fun c7 => ?_) (fun c7 => ?_))
   ·refine qs 5 ?_
    first | refine Gb Tryz.results206 HZ (Gf _ _) (hT ?_) | refine Gb Tryz.results206 HZ (Gf _ _) (hF ?_)
    omega
   refine qs 5 ?_
   first | refine Gb Tryz.results206 HZ (Gf _ _) (hT ?_) | refine Gb Tryz.results206 HZ (Gf _ _) (hF ?_)
   omega
  refine qs 8 ?_
  first | refine Gb Tryz.results206 HZ (Gf _ _) (hT ?_) | refine Gb Tryz.results206 HZ (Gf _ _) (hF ?_)
  omega
theorem bare_c (t : Ty) {a1 a2 : Option Addr} {k1 c1 k2 c2 : Nat} (m1 : fW t a1 k1 c1 ∈ F) (hT : t.name = [] ∧ t.words = [] → R (.bool true) L F) (hF : ¬(t.name = [] ∧ t.words = []) → R (.bool false) L F) :
    ACalls Tryz.prog W0 161 #[vTy t a1 k1 c1 a2 k2 c2] L F R := by
  refine Gg Tryz.func161 HZ Tryz.ntmps161 HZ ?_
  refine qs 2 ?_
  refine Ga (GL HZ HZ (fun b1 => ?_))
  refine qs 7 ?_
  refine Ga (Hi HZ HZ HZ (fun c5 => ?_) (fun c5 => ?_))
  ·refine qs 3 ?_
   refine Gc HZ HZ (Gt HZ HZ (fun hl9 => ?_) (hm := by repeat (first | exact mem0 | assumption | refine memS ?_)))
   refine Gc HZ HZ (Gr HZ HZ HZ (fun c10 => ?_) (fun c10 => ?_))
   ·refine qs 5 ?_
    first | refine Gb (L' := L) (F' := F) Tryz.results161 HZ subA (hT ?_) | refine Gb (L' := L) (F' := F) Tryz.results161 HZ subA (hF ?_)
    first
    | exact ⟨c5, List.eq_nil_of_length_eq_zero (Int.ofNat.inj c10)⟩
    | exact fun e => c10 (by rw [e.2]; rfl)
    | exact fun e => c5 e.1
   refine qs 5 ?_
   first | refine Gb (L' := L) (F' := F) Tryz.results161 HZ subA (hT ?_) | refine Gb (L' := L) (F' := F) Tryz.results161 HZ subA (hF ?_)
   first
   | exact ⟨c5, List.eq_nil_of_length_eq_zero (Int.ofNat.inj c10)⟩
   | exact fun e => c10 (by rw [e.2]; rfl)
   | exact fun e => c5 e.1
  refine qs 10 ?_
  first | refine Gb (L' := L) (F' := F) Tryz.results161 HZ subA (hT ?_) | refine Gb (L' := L) (F' := F) Tryz.results161 HZ subA (hF ?_)
  first
  | exact ⟨c5, List.eq_nil_of_length_eq_zero (Int.ofNat.inj c10)⟩
  | exact fun e => c10 (by rw [e.2]; rfl)
  | exact fun e => c5 e.1
theorem fields_c (t : Ty) {a1 a2 : Option Addr} {k1 c1 k2 c2 : Nat} (m1 : fW t a1 k1 c1 ∈ F) (m2 : fK t a2 k2 c2 ∈ F) (hT : fieldsP t.words ∧ t.name = [] ∧ t.n = 0 ∧ t.words.length = t.kids.length → R (.bool true) L F)
    (hF : ¬(fieldsP t.words ∧ t.name = [] ∧ t.n = 0 ∧ t.words.length = t.kids.length) → R (.bool false) L F) : ACalls Tryz.prog W0 162 #[vTy t a1 k1 c1 a2 k2 c2] L F R := by
  refine Gg Tryz.func162 HZ Tryz.ntmps162 HZ ?_
  refine qs 2 ?_
  refine Ga (GL HZ HZ (fun b1 => ?_))
  refine qs 5 ?_
  refine Ga (AO.makeMap S Value.bool HZ (fun b7 => ?_))
  refine qs 8 ?_
  refine Ga (Gt HZ HZ (fun hl10 => ?_) (hm := by repeat (first | exact mem0 | assumption | refine memS ?_)))
  refine qs 4 ?_
  refine GB (fun (i : Nat × (List UInt8 → Option Bool)) => i.1 ≤ t.words.length ∧ SeenIs t.words i.1 i.2 ∧ ∀ j (hj : j < t.words.length), j < i.1 → fieldAt t.words j hj) (fun i => [(1, .pointer (some ⟨b1, 0, none⟩)), (3, .map (some b7)), (9, .slice a1 k1 c1), (10, .int .i64 t.words.length), (11, .int .i64 (i.1 : Int))]) (fun i => Res.map b7 S Value.bool i.2 :: _) (fun _ => F) (fun i => t.words.length - i.1) (0, fun _ => none) ⟨by omega, SeenIs.zero _, by omega⟩ srA (Gf _ _) ?_
  rintro ⟨q, m⟩ ⟨hq, hseen, hok⟩
  simp only at hq hseen hok ⊢
  refine qs 2 ?_
  refine Ga (Gw HZ HZ HZ (fun c12 => ?_) (fun c12 => ?_))
  ·refine qs 10 ?_
   have hql : q < t.words.length := by omega
   refine Ga (Gd HZ HZ HZ HZ memA hql (fun _ _ => ?_))
   refine Ga (Gs HZ HZ ?_)
   intros
   refine qs 6 ?_
   refine Ga (Ge HZ HZ (trimp_c t.words[q] ?_))
   refine qs 7 ?_
   refine Ga (Ge HZ HZ (HP (fieldN t.words[q]) (fun c18 => ?_) (fun c18 => ?_)))
   ·refine qs 4 ?_
    refine Gc HZ HZ (AO.lookupB (kenc := S) (m := m) (i := 0) (fieldN t.words[q]) HZ HZ HZ (by rfl) (fun c23 => ?_) (fun c23 => ?_))
    ·refine qs 16 ?_
     first | refine Gb (L' := L) (F' := F) Tryz.results162 HZ subA (hT ?_) | refine Gb (L' := L) (F' := F) Tryz.results162 HZ subA (hF ?_)
     first
     | exact ⟨fun i hi => hok i hi Jb, c32, c36, by omega⟩
     | exact fun e => field_seen hseen hql c23 e.1
     | exact fun e => absurd (e.1 q hql).1 (by rw [c18]; decide)
     | exact fun e => c32 e.2.1
     | exact fun e => c36 e.2.2.1
     | exact fun e => c45 (by rw [e.2.2.2])
    refine qs 10 ?_
    refine Ga (AO.neqS HZ HZ HZ (fun c28 => ?_) (fun c28 => ?_))
    ·refine Ga (Hu (kenc := S) (venc := Value.bool) (m := m) (i := 0) (fieldN t.words[q]) true HZ HZ HZ (by rfl) ?_)
     refine qs 7 ?_
     first | refine Gk (q + 1, upd m (fieldN t.words[q]) true) ⟨by simp only; omega, hseen.step hql ⟨fun _ => c28, fun _ => rfl⟩, field_step hseen hok hql c18 c23⟩ (by simp only; omega) srA subF | refine Gk (q + 1, upd m (fieldN t.words[q]) false) ⟨by simp only; omega, hseen.step hql ⟨fun e => absurd e (by decide), fun e => absurd c28 e⟩, field_step hseen hok hql c18 c23⟩ (by simp only; omega) srA subF
    refine Ga (Hu (kenc := S) (venc := Value.bool) (m := m) (i := 0) (fieldN t.words[q]) false HZ HZ HZ (by rfl) ?_)
    refine qs 7 ?_
    first | refine Gk (q + 1, upd m (fieldN t.words[q]) true) ⟨by simp only; omega, hseen.step hql ⟨fun _ => c28, fun _ => rfl⟩, field_step hseen hok hql c18 c23⟩ (by simp only; omega) srA subF | refine Gk (q + 1, upd m (fieldN t.words[q]) false) ⟨by simp only; omega, hseen.step hql ⟨fun e => absurd e (by decide), fun e => absurd c28 e⟩, field_step hseen hok hql c18 c23⟩ (by simp only; omega) srA subF
   refine qs 21 ?_
   first | refine Gb (L' := L) (F' := F) Tryz.results162 HZ subA (hT ?_) | refine Gb (L' := L) (F' := F) Tryz.results162 HZ subA (hF ?_)
   first
   | exact ⟨fun i hi => hok i hi Jb, c32, c36, by omega⟩
   | exact fun e => field_seen hseen hql c23 e.1
   | exact fun e => absurd (e.1 q hql).1 (by rw [c18]; decide)
   | exact fun e => c32 e.2.1
   | exact fun e => c36 e.2.2.1
   | exact fun e => c45 (by rw [e.2.2.2])
  refine qs 13 ?_
  refine Ga (Hi HZ HZ HZ (fun c32 => ?_) (fun c32 => ?_))
  ·refine qs 3 ?_
   refine Gc HZ HZ (Gr HZ HZ HZ (fun c36 => ?_) (fun c36 => ?_))
   ·refine qs 4 ?_
    refine Gc HZ HZ (Gt HZ HZ (fun hl41 => ?_) (hm := by repeat (first | exact mem0 | assumption | refine memS ?_)))
    refine qs 2 ?_
    refine Gc HZ HZ (Gt HZ HZ (fun hl44 => ?_) (hm := by repeat (first | exact mem0 | assumption | refine memS ?_)))
    refine Gc HZ HZ (Gr HZ HZ HZ (fun c45 => ?_) (fun c45 => ?_))
    ·refine qs 5 ?_
     first | refine Gb (L' := L) (F' := F) Tryz.results162 HZ subA (hT ?_) | refine Gb (L' := L) (F' := F) Tryz.results162 HZ subA (hF ?_)
     first
     | exact ⟨fun i hi => hok i hi Jb, c32, c36, by omega⟩
     | exact fun e => field_seen hseen hql c23 e.1
     | exact fun e => absurd (e.1 q hql).1 (by rw [c18]; decide)
     | exact fun e => c32 e.2.1
     | exact fun e => c36 e.2.2.1
     | exact fun e => c45 (by rw [e.2.2.2])
    refine qs 5 ?_
    first | refine Gb (L' := L) (F' := F) Tryz.results162 HZ subA (hT ?_) | refine Gb (L' := L) (F' := F) Tryz.results162 HZ subA (hF ?_)
    first
    | exact ⟨fun i hi => hok i hi Jb, c32, c36, by omega⟩
    | exact fun e => field_seen hseen hql c23 e.1
    | exact fun e => absurd (e.1 q hql).1 (by rw [c18]; decide)
    | exact fun e => c32 e.2.1
    | exact fun e => c36 e.2.2.1
    | exact fun e => c45 (by rw [e.2.2.2])
   refine qs 14 ?_
   first | refine Gb (L' := L) (F' := F) Tryz.results162 HZ subA (hT ?_) | refine Gb (L' := L) (F' := F) Tryz.results162 HZ subA (hF ?_)
   first
   | exact ⟨fun i hi => hok i hi Jb, c32, c36, by omega⟩
   | exact fun e => field_seen hseen hql c23 e.1
   | exact fun e => absurd (e.1 q hql).1 (by rw [c18]; decide)
   | exact fun e => c32 e.2.1
   | exact fun e => c36 e.2.2.1
   | exact fun e => c45 (by rw [e.2.2.2])
  refine qs 18 ?_
  first | refine Gb (L' := L) (F' := F) Tryz.results162 HZ subA (hT ?_) | refine Gb (L' := L) (F' := F) Tryz.results162 HZ subA (hF ?_)
  first
  | exact ⟨fun i hi => hok i hi Jb, c32, c36, by omega⟩
  | exact fun e => field_seen hseen hql c23 e.1
  | exact fun e => absurd (e.1 q hql).1 (by rw [c18]; decide)
  | exact fun e => c32 e.2.1
  | exact fun e => c36 e.2.2.1
  | exact fun e => c45 (by rw [e.2.2.2])
theorem named_c (g : Glob W0) (s : List UInt8) (hs : s.length < 4294967281) (hT : namedP s → R (.bool true) L F) (hF : ¬ namedP s → R (.bool false) L F) : ACalls Tryz.prog W0 164 #[S s] L F R := by
  refine Gg Tryz.func164 HZ Tryz.ntmps164 HZ ?_
  refine qs 8 ?_
  refine Ga (Ge HZ HZ (cut_c g s 46 hs ?_))
  cases c8 : (cutD 46 s).2.2
  rotate_left
  ·refine qs 14 ?_
   refine Gc HZ HZ (Ge HZ HZ (HP _ (fun c15 => ?_) (fun c15 => ?_)))
   ·refine qs 3 ?_
    refine Gc HZ HZ (Ge HZ HZ (HP _ (fun c19 => ?_) (fun c19 => ?_)))
    ·refine qs 5 ?_
     first | refine Gb Tryz.results164 HZ (Gf _ _) (hT ?_) | refine Gb Tryz.results164 HZ (Gf _ _) (hF ?_)
     first
     | exact ⟨c8, c15, c19⟩
     | exact fun e => absurd e.2.2 (by rw [c19]; decide)
     | exact fun e => absurd e.2.1 (by rw [c15]; decide)
     | exact fun e => absurd e.1 (by rw [c8]; decide)
    refine qs 5 ?_
    first | refine Gb Tryz.results164 HZ (Gf _ _) (hT ?_) | refine Gb Tryz.results164 HZ (Gf _ _) (hF ?_)
    first
    | exact ⟨c8, c15, c19⟩
    | exact fun e => absurd e.2.2 (by rw [c19]; decide)
    | exact fun e => absurd e.2.1 (by rw [c15]; decide)
    | exact fun e => absurd e.1 (by rw [c8]; decide)
   refine qs 9 ?_
   first | refine Gb Tryz.results164 HZ (Gf _ _) (hT ?_) | refine Gb Tryz.results164 HZ (Gf _ _) (hF ?_)
   first
   | exact ⟨c8, c15, c19⟩
   | exact fun e => absurd e.2.2 (by rw [c19]; decide)
   | exact fun e => absurd e.2.1 (by rw [c15]; decide)
   | exact fun e => absurd e.1 (by rw [c8]; decide)
  refine qs 24 ?_
  first | refine Gb Tryz.results164 HZ (Gf _ _) (hT ?_) | refine Gb Tryz.results164 HZ (Gf _ _) (hF ?_)
  first
  | exact ⟨c8, c15, c19⟩
  | exact fun e => absurd e.2.2 (by rw [c19]; decide)
  | exact fun e => absurd e.2.1 (by rw [c15]; decide)
  | exact fun e => absurd e.1 (by rw [c8]; decide)
end
end Go.Sy
namespace Go.Sy
open Go Go.Proofs Go.RowKit
theorem kind_get {l : List Ty} {k : Int} {j : Nat} (hk : k = (j : Int)) (hj : j < l.length) : kindAt l k = l[j].kind := by
  subst hk; unfold kindAt; simp [List.getElem?_eq_getElem hj]
theorem kid_get {t : Ty} {i : Nat} (hi : i < t.kids.length) : kidAt t i = t.kids[i] := by unfold kidAt; simp [List.getD, List.getElem?_eq_getElem hi]
theorem word_get {ws : List (List UInt8)} {i : Nat} (hi : i < ws.length) : ws.getD i [] = ws[i] := by simp [List.getD, List.getElem?_eq_getElem hi]
theorem kid_nat {l : List Ty} {t : Ty} (h : kidsP l t) {i : Nat} (hi : i < t.kids.length) : t.kids[i] = ((t.kids[i].toNat : Nat) : Int) ∧ t.kids[i].toNat < l.length := by
  have := h _ (List.getElem_mem hi)
  omega
theorem kids_yes {l : List Ty} {t : Ty} (h : ∀ j (hj : j < t.kids.length), ¬(t.kids[j] < 0 ∨ t.kids[j] ≥ l.length)) : kidsP l t := by
  intro k hk
  obtain ⟨j, hj, rfl⟩ := List.getElem_of_mem hk
  have := h j hj
  omega
theorem nil_of {α : Type} {l : List α} (h : (l.length : Int) = 0) : l = [] := List.eq_nil_of_length_eq_zero Jb
theorem bytes_tri : ∀ a b : List UInt8, (Op.bytesLess a b || a == b) = false → Op.bytesLess b a = true
  | [], [], h => by simp at h
  | [], _ :: _, h => by simp [Op.bytesLess] at h
  | _ :: _, [], _ => by simp [Op.bytesLess]
  | x :: a, y :: b, h => by
    have ih := bytes_tri a b
    have hl : ∀ (x y : UInt8) (a b : List UInt8), Op.bytesLess (x :: a) (y :: b) = true ↔ x < y ∨ x = y ∧ Op.bytesLess a b = true := by
      intro x y a b; simp [Op.bytesLess]
    rw [Bool.or_eq_false_iff] at h
    have h1 : ¬ (x < y ∨ x = y ∧ Op.bytesLess a b = true) := fun e => by rw [(hl x y a b).2 e] at h; exact absurd h.1 (by decide)
    rw [hl]
    by_cases e : x = y
    · subst e
      right
      refine ⟨rfl, ih ?_⟩
      have e1 : Op.bytesLess a b = false := by
        cases hb : Op.bytesLess a b with
        | false => rfl
        | true => exact absurd (Or.inr ⟨rfl, hb⟩) h1
      have e2 : (a == b) = false := by
        have := h.2
        simpa using this
      rw [e1, e2]; rfl
    left
    have h2 : ¬ x < y := fun k => h1 (Or.inl k)
    rw [UInt8.lt_iff_toNat_lt] at h2 ⊢
    have h3 : x.toNat ≠ y.toNat := fun k => e (UInt8.toNat_inj.1 k)
    omega
theorem bytes_asym : ∀ a b : List UInt8, Op.bytesLess b a = true → (Op.bytesLess a b || a == b) = false
  | [], [], h => by simp [Op.bytesLess] at h
  | [], _ :: _, h => by simp [Op.bytesLess] at h
  | _ :: _, [], _ => by simp [Op.bytesLess]
  | x :: a, y :: b, h => by
    have ih := bytes_asym a b
    have hl : ∀ (x y : UInt8) (a b : List UInt8), Op.bytesLess (x :: a) (y :: b) = true ↔ x < y ∨ x = y ∧ Op.bytesLess a b = true := by
      intro x y a b; simp [Op.bytesLess]
    rw [hl] at h
    rcases h with h | ⟨rfl, h⟩
    · have hlt := UInt8.lt_iff_toNat_lt.1 h
      have e1 : Op.bytesLess (x :: a) (y :: b) = false := by
        cases hb : Op.bytesLess (x :: a) (y :: b) with
        | false => rfl
        | true =>
          rcases (hl x y a b).1 hb with k | ⟨k, _⟩
          · have := UInt8.lt_iff_toNat_lt.1 k; omega
          subst k; omega
      have e2 : (x :: a == y :: b) = false := by
        have : x ≠ y := fun k => by subst k; omega
        simp [this]
      rw [e1, e2]; rfl
    have := ih h
    rw [Bool.or_eq_false_iff] at this ⊢
    refine ⟨?_, ?_⟩
    · cases hb : Op.bytesLess (y :: a) (y :: b) with
      | false => rfl
      | true =>
        rcases (hl y y a b).1 hb with k | ⟨_, k⟩
        · have := UInt8.lt_iff_toNat_lt.1 k; omega
        rw [this.1] at k; exact absurd k (by decide)
    simpa using this.2
theorem leq_nil {w : List UInt8} (h : (Op.bytesLess w [] || w == []) = true) : w = [] := by
  cases w with
  | nil => rfl
  | cons x r => simp [Op.bytesLess] at h
theorem mark_nil : ¬ markP [] := fun e => e.elim (fun k => by simp at k) (fun k => by simp at k)
attribute [local irreducible] AC AT AO AK AH ACalls Sub Res.cells Res.obj Res.nix Res.own Res.map Exit.then Exit.inBlock bodyPost Code.wp Code.wpIn WL Next Post Kont
section
variable {W0 : World} {L : List Res} {F : List Fact} {R : Value → List Res → List Fact → Prop}
set_option maxRecDepth 100000
set_option maxHeartbeats 4000000
def TellsI (P : Program) (W0 : World) (L : List Res) (F : List Fact) (g : FuncId) (cs : List Value) (p : Int → Prop) : Prop :=
  ∀ (s : Int) (F' : List Fact) (_ : ∀ f ∈ F, f ∈ F') (R : Value → List Res → List Fact → Prop), (p s → R (.bool true) L F') → (¬ p s → R (.bool false) L F') → ACalls P W0 g ([Value.int .i64 s] ++ cs).toArray L F' R
theorem indexFuncI_c (l : List Int) {a : Option Addr} {k c : Nat} (m1 : Fact.slc (.slice a k c) 1 (l.map eI) ∈ F) (g : FuncId) [FnT Tryz.prog g] (cs : List Value) (p : Int → Prop) (hg : TellsI Tryz.prog W0 L F g cs p)
    (hT : ∀ (j : Nat) (hj : j < l.length), p l[j] → R (.int .i64 (j : Int)) L F) (hF : (∀ j (hj : j < l.length), ¬ p l[j]) → R (.int .i64 (-1)) L F) : ACalls Tryz.prog W0 166 #[.slice a k c, .func (.func g) #[] cs.toArray] L F R := by
  refine Gg Tryz.func166 HZ Tryz.ntmps166 HZ ?_
  refine qs 9 ?_
  refine Ga (Gt HZ HZ (fun hl7 => ?_) (hm := by repeat (first | exact mem0 | assumption | refine memS ?_)))
  refine qs 4 ?_
  refine AC.loopC (fun (q : Nat) => q ≤ l.length ∧ ∀ j (hj : j < l.length), j < q → ¬ p l[j]) (fun q => [(0, .slice a k c), (1, .func (.func g) #[] cs.toArray), (7, .int .i64 l.length), (8, .int .i64 (q : Int))]) (fun q => l.length - q) 0 ⟨by omega, by omega⟩ srA ?_
  rintro q ⟨hq, hok⟩
  refine qs 2 ?_
  refine Ga (Gw HZ HZ HZ (fun c9 => ?_) (fun c9 => ?_))
  ·refine qs 19 ?_
   have hql : q < l.length := by omega
   refine Ga (Gd HZ HZ HZ HZ memA hql (fun _ _ => ?_))
   refine Ga (Gs HZ HZ ?_)
   intros
   refine Ga (AO.callC HZ HZ HZ (hg l[q] _ (fun f hf => List.mem_cons_of_mem _ hf) _ (fun c16 => ?_) (fun c16 => ?_)))
   ·refine qs 15 ?_
    first | exact Gb (L' := L) (F' := F) Tryz.results166 rfl subF (hT q hql c16) | exact Gb (L' := L) (F' := F) Tryz.results166 rfl subF (hF (fun j hj => hok j hj Jb))
   refine qs 10 ?_
   refine Gk (q + 1) ⟨by omega, fun j hj hjq => ?_⟩ Jb srA subF
   rcases Nat.lt_succ_iff_lt_or_eq.1 hjq with k9 | rfl
   · exact hok j hj k9
   exact c16
  refine qs 15 ?_
  first | exact Gb (L' := L) (F' := F) Tryz.results166 rfl subF (hT q hql c16) | exact Gb (L' := L) (F' := F) Tryz.results166 rfl subF (hF (fun j hj => hok j hj Jb))
theorem containsFuncI_c (l : List Int) {a : Option Addr} {k c : Nat} (m1 : Fact.slc (.slice a k c) 1 (l.map eI) ∈ F) (g : FuncId) [FnT Tryz.prog g] (cs : List Value) (p : Int → Prop) (hg : TellsI Tryz.prog W0 L F g cs p)
    (hT : (¬ ∀ j (hj : j < l.length), ¬ p l[j]) → R (.bool true) L F) (hF : (∀ j (hj : j < l.length), ¬ p l[j]) → R (.bool false) L F) : ACalls Tryz.prog W0 106 #[.slice a k c, .func (.func g) #[] cs.toArray] L F R := by
  refine Gg Tryz.func106 HZ Tryz.ntmps106 HZ ?_
  refine qs 9 ?_
  refine Ga (Ge HZ HZ (indexFuncI_c l m1 g cs p hg (fun j7 hj7 c7 => ?_) (fun c7 => ?_)))
  ·refine Ga (GY HZ HZ HZ (fun c8 => ?_) (fun c8 => absurd c8 Jb))
   refine qs 4 ?_
   first | exact Gb (L' := L) (F' := F) Tryz.results106 rfl subF (hT (fun e => e j7 hj7 c7)) | exact Gb (L' := L) (F' := F) Tryz.results106 rfl subF (hF c7)
  refine Ga (GY HZ HZ HZ (fun c8 => absurd c8 Jb) (fun c8 => ?_))
  refine qs 4 ?_
  first | exact Gb (L' := L) (F' := F) Tryz.results106 rfl subF (hT (fun e => e j7 hj7 c7)) | exact Gb (L' := L) (F' := F) Tryz.results106 rfl subF (hF c7)
theorem made1_c (l : List Ty) (s : Int) {a3 : Option Addr} {k3 c3 b i : Nat} {ty : TypeId} (m3 : fL l a3 k3 c3 ∈ F) (hb : L[i]? = some (Res.cells b #[.slice a3 k3 c3] ty)) (hT : s < 0 ∨ s ≥ l.length → R (.bool true) L F) (hF : ¬(s < 0 ∨ s ≥ l.length) → R (.bool false) L F) :
    ACalls Tryz.prog W0 160 #[.int .i64 s, .pointer (some ⟨b, 0, none⟩)] L F R := by
  refine Gg Tryz.func160 HZ Tryz.ntmps160 HZ ?_
  refine qs 8 ?_
  refine Ga (Gw HZ HZ HZ (fun c5 => ?_) (fun c5 => ?_))
  ·refine qs 10 ?_
   first | exact Gb (L' := L) (F' := F) Tryz.results160 rfl subF (hT (Or.inl c5)) | exact Gb (L' := L) (F' := F) Tryz.results160 rfl subF (hT (Or.inr c10)) | exact Gb (L' := L) (F' := F) Tryz.results160 rfl subF (hF Jb)
  refine qs 2 ?_
  refine Gc HZ HZ (Gy (cs := [.slice a3 k3 c3]) HZ HZ ?_ (hi := hb) (hv := HZ))
  refine Gc HZ HZ (Gt HZ HZ (fun hl9 => ?_) (hm := m3))
  refine Gc HZ HZ (GY HZ HZ HZ (fun c10 => ?_) (fun c10 => ?_))
  ·refine qs 5 ?_
   first | exact Gb (L' := L) (F' := F) Tryz.results160 rfl subF (hT (Or.inl c5)) | exact Gb (L' := L) (F' := F) Tryz.results160 rfl subF (hT (Or.inr c10)) | exact Gb (L' := L) (F' := F) Tryz.results160 rfl subF (hF Jb)
  refine qs 5 ?_
  first | exact Gb (L' := L) (F' := F) Tryz.results160 rfl subF (hT (Or.inl c5)) | exact Gb (L' := L) (F' := F) Tryz.results160 rfl subF (hT (Or.inr c10)) | exact Gb (L' := L) (F' := F) Tryz.results160 rfl subF (hF Jb)
theorem elems_c (l : List Ty) (t : Ty) (hk : kidsP l t) {a1 a2 a3 : Option Addr} {k1 c1 k2 c2 k3 c3 : Nat} (m1 : fW t a1 k1 c1 ∈ F) (m2 : fK t a2 k2 c2 ∈ F) (m3 : fL l a3 k3 c3 ∈ F)
    (hT : elemsP l t ∧ t.name = [] → R (.bool true) L F) (hF : ¬(elemsP l t ∧ t.name = []) → R (.bool false) L F) : ACalls Tryz.prog W0 163 #[.slice a3 k3 c3, vTy t a1 k1 c1 a2 k2 c2] L F R := by
  refine Gg Tryz.func163 HZ Tryz.ntmps163 HZ ?_
  refine qs 2 ?_
  refine Ga (GL HZ HZ (fun b3 => ?_))
  refine qs 8 ?_
  refine Ga (AO.neqS HZ HZ HZ (fun c12 => ?_) (fun c12 => ?_))
  ·refine qs 29 ?_
   first | refine Gb (L' := L) (F' := F) Tryz.results163 HZ subA (hT ?_) | refine Gb (L' := L) (F' := F) Tryz.results163 HZ subA (hF ?_)
   first
   | exact ⟨⟨by omega, c16, c21, fun i hi => hok i hi Jb⟩, c12⟩
   | exact fun e => c12 e.2
   | exact fun e => absurd e.1.2.1 Jb
   | exact fun e => absurd e.1.2.2.1 Jb
   | exact fun e => c30 (by rw [e.1.1])
   | (intro e
      have he := e.1.2.2.2 q hql
      unfold elemAtP at he
      rw [hK, hKid, hKidP, hPrev] at he
      rcases he with ⟨h1, h2, h3, h4, h5, h6⟩ | ⟨h1, h2, h3, h4⟩
      first | exact c58 h1 | exact h3 c88 | exact h4 c93 | exact h5 c101 | (have := h6 Jb c63; omega) | omega
      first | exact h1 c58 | exact absurd h2 (by rw [c105]; decide) | exact (h4 Jb).1 c109 | exact c119 h3 | exact absurd c114 (by rw [bytes_asym _ _ (h4 Jb).2]; decide) | (rw [leq_nil c114] at h2; exact absurd h2 (by decide)) | omega)
  refine qs 3 ?_
  refine Gc HZ HZ (Gw HZ HZ HZ (fun c16 => ?_) (fun c16 => ?_))
  ·refine qs 25 ?_
   first | refine Gb (L' := L) (F' := F) Tryz.results163 HZ subA (hT ?_) | refine Gb (L' := L) (F' := F) Tryz.results163 HZ subA (hF ?_)
   first
   | exact ⟨⟨by omega, c16, c21, fun i hi => hok i hi Jb⟩, c12⟩
   | exact fun e => c12 e.2
   | exact fun e => absurd e.1.2.1 Jb
   | exact fun e => absurd e.1.2.2.1 Jb
   | exact fun e => c30 (by rw [e.1.1])
   | (intro e
      have he := e.1.2.2.2 q hql
      unfold elemAtP at he
      rw [hK, hKid, hKidP, hPrev] at he
      rcases he with ⟨h1, h2, h3, h4, h5, h6⟩ | ⟨h1, h2, h3, h4⟩
      first | exact c58 h1 | exact h3 c88 | exact h4 c93 | exact h5 c101 | (have := h6 Jb c63; omega) | omega
      first | exact h1 c58 | exact absurd h2 (by rw [c105]; decide) | exact (h4 Jb).1 c109 | exact c119 h3 | exact absurd c114 (by rw [bytes_asym _ _ (h4 Jb).2]; decide) | (rw [leq_nil c114] at h2; exact absurd h2 (by decide)) | omega)
  refine qs 4 ?_
  refine Gc HZ HZ (Hv HZ HZ HZ (fun c21 => ?_) (fun c21 => ?_))
  ·refine qs 20 ?_
   first | refine Gb (L' := L) (F' := F) Tryz.results163 HZ subA (hT ?_) | refine Gb (L' := L) (F' := F) Tryz.results163 HZ subA (hF ?_)
   first
   | exact ⟨⟨by omega, c16, c21, fun i hi => hok i hi Jb⟩, c12⟩
   | exact fun e => c12 e.2
   | exact fun e => absurd e.1.2.1 Jb
   | exact fun e => absurd e.1.2.2.1 Jb
   | exact fun e => c30 (by rw [e.1.1])
   | (intro e
      have he := e.1.2.2.2 q hql
      unfold elemAtP at he
      rw [hK, hKid, hKidP, hPrev] at he
      rcases he with ⟨h1, h2, h3, h4, h5, h6⟩ | ⟨h1, h2, h3, h4⟩
      first | exact c58 h1 | exact h3 c88 | exact h4 c93 | exact h5 c101 | (have := h6 Jb c63; omega) | omega
      first | exact h1 c58 | exact absurd h2 (by rw [c105]; decide) | exact (h4 Jb).1 c109 | exact c119 h3 | exact absurd c114 (by rw [bytes_asym _ _ (h4 Jb).2]; decide) | (rw [leq_nil c114] at h2; exact absurd h2 (by decide)) | omega)
  refine qs 4 ?_
  refine Gc HZ HZ (Gt HZ HZ (fun hl26 => ?_) (hm := by repeat (first | exact mem0 | assumption | refine memS ?_)))
  refine qs 2 ?_
  refine Gc HZ HZ (Gt HZ HZ (fun hl29 => ?_) (hm := by repeat (first | exact mem0 | assumption | refine memS ?_)))
  refine Gc HZ HZ (GG HZ HZ HZ (fun c30 => ?_) (fun c30 => ?_))
  ·refine qs 11 ?_
   first | refine Gb (L' := L) (F' := F) Tryz.results163 HZ subA (hT ?_) | refine Gb (L' := L) (F' := F) Tryz.results163 HZ subA (hF ?_)
   first
   | exact ⟨⟨by omega, c16, c21, fun i hi => hok i hi Jb⟩, c12⟩
   | exact fun e => c12 e.2
   | exact fun e => absurd e.1.2.1 Jb
   | exact fun e => absurd e.1.2.2.1 Jb
   | exact fun e => c30 (by rw [e.1.1])
   | (intro e
      have he := e.1.2.2.2 q hql
      unfold elemAtP at he
      rw [hK, hKid, hKidP, hPrev] at he
      rcases he with ⟨h1, h2, h3, h4, h5, h6⟩ | ⟨h1, h2, h3, h4⟩
      first | exact c58 h1 | exact h3 c88 | exact h4 c93 | exact h5 c101 | (have := h6 Jb c63; omega) | omega
      first | exact h1 c58 | exact absurd h2 (by rw [c105]; decide) | exact (h4 Jb).1 c109 | exact c119 h3 | exact absurd c114 (by rw [bytes_asym _ _ (h4 Jb).2]; decide) | (rw [leq_nil c114] at h2; exact absurd h2 (by decide)) | omega)
  refine qs 11 ?_
  refine Ga (Gt HZ HZ (fun hl34 => ?_) (hm := by repeat (first | exact mem0 | assumption | refine memS ?_)))
  refine qs 4 ?_
  refine AC.loopC (fun (q : Nat) => q ≤ t.words.length ∧ ∀ j (hj : j < t.words.length), j < q → elemAtP l t j hj) (fun q => [(0, .slice a3 k3 c3), (3, .pointer (some ⟨b3, 0, none⟩)), (33, .slice a1 k1 c1), (34, .int .i64 t.words.length), (35, .int .i64 (q : Int))]) (fun q => t.words.length - q) 0 ⟨by omega, by omega⟩ srA ?_
  rintro q ⟨hq, hok⟩
  refine qs 2 ?_
  refine Ga (Gw HZ HZ HZ (fun c36 => ?_) (fun c36 => ?_))
  ·refine qs 11 ?_
   have hql : q < t.words.length := by omega
   have hqk : q < t.kids.length := by omega
   obtain ⟨hkn, hkl⟩ := kid_nat hk hqk
   refine Ga (Gd HZ HZ HZ HZ memA hql (fun _ _ => ?_))
   refine Ga (Gs HZ HZ ?_)
   intros
   refine qs 10 ?_
   refine Ga (Gd HZ HZ HZ HZ memA hqk (fun _ _ => ?_))
   refine Ga (Gs HZ HZ ?_)
   intros
   have hKid := kid_get hqk
   have hK : kindAt l (kidAt t q) = l[t.kids[q].toNat].kind := by rw [hKid]; exact kind_get hkn hkl
   have hKidP := kid_get (t := t) (i := q - 1) Jb
   have hPrev := word_get (ws := t.words) (i := q - 1) Jb
   refine Ga (Gd (k := t.kids[q].toNat) HZ HZ HZ hkn memA hkl (fun _ _ => ?_))
   refine Ga (GN HZ HZ ?_)
   intro a47 k47 z47 d47 e47 f47
   refine Ga (Gj HZ (fun b7 => ?_))
   refine qs 12 ?_
   refine Ga (Hv HZ HZ HZ (fun c49 => ?_) (fun c49 => ?_))
   ·refine qs 8 ?_
    refine Ga (Gd (k := q - 1) HZ HZ HZ Jb memA Jb (fun _ _ => ?_))
    refine Ga (Gs HZ HZ ?_)
    intros
    refine qs 7 ?_
    refine Ga (Ge HZ HZ (pmark_c t.words[q] (fun c58 => ?_) (fun c58 => ?_)))
    ·refine qs 5 ?_
     refine GP (fun _ => false) [(b3, _, _)] bxA HZ (fun hx hX => ?_)
     have hkk := (Gu (hX (fK t a2 k2 c2) (by repeat (first | exact m2 | refine memS ?_)))).1
     obtain ⟨p2, o2, rfl, atq⟩ := GA (hX (fK t a2 k2 c2) (by repeat (first | exact m2 | refine memS ?_))) hqk
     obtain ⟨vq, hvq, hcq⟩ := atq 0 _ rfl
     cases hcq
     refine qt [0] ?_
     refine Hf (i := 1) HZ (Y.gtr HZ HZ) Ja HZ HZ (fun c60 => ?_) (fun c60 => absurd (of_decide_eq_false c60) Jb)
     refine qt [2, 3] ?_
     refine Gm (i := 4) Ja HZ HZ (fun _ => ?_)
     refine Ge HZ HZ (pmark_c t.words[q - 1] (fun c63 => ?_) (fun c63 => ?_))
     all_goals refine Gi bxA memB ?_
     ·refine qt [5, 6, 7, 8, 9, 10] ?_
      obtain ⟨p3, o3, e3, atp⟩ := GA (i := q - 1) (hX (fK t (some ⟨p2, o2, none⟩) k2 c2) (by repeat (first | exact m2 | refine memS ?_))) Jb
      cases e3
      obtain ⟨vp, hvp, hcp⟩ := atp 0 _ rfl
      cases hcp
      refine GD (i := 11) HZ (GE (k := q - 1) HZ HZ Jb Jb) Ja HZ HZ ?_
      refine qt [12, 13, 14, 15, 16, 17] ?_
      refine Hf (i := 18) HZ (Y.geq HZ HZ) Ja HZ HZ (fun c77 => ?_) (fun c77 => ?_)
      ·replace c77 := of_decide_eq_true c77
       refine qt [19, 20] ?_
       refine Gq Ja ?_
       refine qs 42 ?_
       first | refine Gb (L' := L) (F' := F) Tryz.results163 HZ subA (hT ?_) | refine Gb (L' := L) (F' := F) Tryz.results163 HZ subA (hF ?_)
       first
       | exact ⟨⟨by omega, c16, c21, fun i hi => hok i hi Jb⟩, c12⟩
       | exact fun e => c12 e.2
       | exact fun e => absurd e.1.2.1 Jb
       | exact fun e => absurd e.1.2.2.1 Jb
       | exact fun e => c30 (by rw [e.1.1])
       | (intro e
          have he := e.1.2.2.2 q hql
          unfold elemAtP at he
          rw [hK, hKid, hKidP, hPrev] at he
          rcases he with ⟨h1, h2, h3, h4, h5, h6⟩ | ⟨h1, h2, h3, h4⟩
          first | exact c58 h1 | exact h3 c88 | exact h4 c93 | exact h5 c101 | (have := h6 Jb c63; omega) | omega
          first | exact h1 c58 | exact absurd h2 (by rw [c105]; decide) | exact (h4 Jb).1 c109 | exact c119 h3 | exact absurd c114 (by rw [bytes_asym _ _ (h4 Jb).2]; decide) | (rw [leq_nil c114] at h2; exact absurd h2 (by decide)) | omega)
      replace c77 := of_decide_eq_false c77
      refine qt [19, 20] ?_
      refine Gq Ja ?_
      refine qs 7 ?_
      refine Gc HZ HZ (Gw HZ HZ HZ (fun c83 => ?_) (fun c83 => ?_))
      ·refine qs 34 ?_
       first | refine Gb (L' := L) (F' := F) Tryz.results163 HZ subA (hT ?_) | refine Gb (L' := L) (F' := F) Tryz.results163 HZ subA (hF ?_)
       first
       | exact ⟨⟨by omega, c16, c21, fun i hi => hok i hi Jb⟩, c12⟩
       | exact fun e => c12 e.2
       | exact fun e => absurd e.1.2.1 Jb
       | exact fun e => absurd e.1.2.2.1 Jb
       | exact fun e => c30 (by rw [e.1.1])
       | (intro e
          have he := e.1.2.2.2 q hql
          unfold elemAtP at he
          rw [hK, hKid, hKidP, hPrev] at he
          rcases he with ⟨h1, h2, h3, h4, h5, h6⟩ | ⟨h1, h2, h3, h4⟩
          first | exact c58 h1 | exact h3 c88 | exact h4 c93 | exact h5 c101 | (have := h6 Jb c63; omega) | omega
          first | exact h1 c58 | exact absurd h2 (by rw [c105]; decide) | exact (h4 Jb).1 c109 | exact c119 h3 | exact absurd c114 (by rw [bytes_asym _ _ (h4 Jb).2]; decide) | (rw [leq_nil c114] at h2; exact absurd h2 (by decide)) | omega)
      refine qs 4 ?_
      refine Gc HZ HZ (Gr HZ HZ HZ (fun c88 => ?_) (fun c88 => ?_))
      ·refine qs 29 ?_
       first | refine Gb (L' := L) (F' := F) Tryz.results163 HZ subA (hT ?_) | refine Gb (L' := L) (F' := F) Tryz.results163 HZ subA (hF ?_)
       first
       | exact ⟨⟨by omega, c16, c21, fun i hi => hok i hi Jb⟩, c12⟩
       | exact fun e => c12 e.2
       | exact fun e => absurd e.1.2.1 Jb
       | exact fun e => absurd e.1.2.2.1 Jb
       | exact fun e => c30 (by rw [e.1.1])
       | (intro e
          have he := e.1.2.2.2 q hql
          unfold elemAtP at he
          rw [hK, hKid, hKidP, hPrev] at he
          rcases he with ⟨h1, h2, h3, h4, h5, h6⟩ | ⟨h1, h2, h3, h4⟩
          first | exact c58 h1 | exact h3 c88 | exact h4 c93 | exact h5 c101 | (have := h6 Jb c63; omega) | omega
          first | exact h1 c58 | exact absurd h2 (by rw [c105]; decide) | exact (h4 Jb).1 c109 | exact c119 h3 | exact absurd c114 (by rw [bytes_asym _ _ (h4 Jb).2]; decide) | (rw [leq_nil c114] at h2; exact absurd h2 (by decide)) | omega)
      refine qs 4 ?_
      refine Gc HZ HZ (Gr HZ HZ HZ (fun c93 => ?_) (fun c93 => ?_))
      ·refine qs 24 ?_
       first | refine Gb (L' := L) (F' := F) Tryz.results163 HZ subA (hT ?_) | refine Gb (L' := L) (F' := F) Tryz.results163 HZ subA (hF ?_)
       first
       | exact ⟨⟨by omega, c16, c21, fun i hi => hok i hi Jb⟩, c12⟩
       | exact fun e => c12 e.2
       | exact fun e => absurd e.1.2.1 Jb
       | exact fun e => absurd e.1.2.2.1 Jb
       | exact fun e => c30 (by rw [e.1.1])
       | (intro e
          have he := e.1.2.2.2 q hql
          unfold elemAtP at he
          rw [hK, hKid, hKidP, hPrev] at he
          rcases he with ⟨h1, h2, h3, h4, h5, h6⟩ | ⟨h1, h2, h3, h4⟩
          first | exact c58 h1 | exact h3 c88 | exact h4 c93 | exact h5 c101 | (have := h6 Jb c63; omega) | omega
          first | exact h1 c58 | exact absurd h2 (by rw [c105]; decide) | exact (h4 Jb).1 c109 | exact c119 h3 | exact absurd c114 (by rw [bytes_asym _ _ (h4 Jb).2]; decide) | (rw [leq_nil c114] at h2; exact absurd h2 (by decide)) | omega)
      refine qs 5 ?_
      refine Gc HZ HZ (Gd HZ HZ HZ HZ memA (by first | omega | (simp; omega)) (fun _ _ => ?_))
      refine Gc HZ HZ (Gs HZ HZ ?_)
      intros
      refine Gc HZ HZ (Ge HZ HZ (untyped_c t.kids[q] (fun c101 => ?_) (fun c101 => ?_)))
      ·refine qs 16 ?_
       first | refine Gb (L' := L) (F' := F) Tryz.results163 HZ subA (hT ?_) | refine Gb (L' := L) (F' := F) Tryz.results163 HZ subA (hF ?_)
       first
       | exact ⟨⟨by omega, c16, c21, fun i hi => hok i hi Jb⟩, c12⟩
       | exact fun e => c12 e.2
       | exact fun e => absurd e.1.2.1 Jb
       | exact fun e => absurd e.1.2.2.1 Jb
       | exact fun e => c30 (by rw [e.1.1])
       | (intro e
          have he := e.1.2.2.2 q hql
          unfold elemAtP at he
          rw [hK, hKid, hKidP, hPrev] at he
          rcases he with ⟨h1, h2, h3, h4, h5, h6⟩ | ⟨h1, h2, h3, h4⟩
          first | exact c58 h1 | exact h3 c88 | exact h4 c93 | exact h5 c101 | (have := h6 Jb c63; omega) | omega
          first | exact h1 c58 | exact absurd h2 (by rw [c105]; decide) | exact (h4 Jb).1 c109 | exact c119 h3 | exact absurd c114 (by rw [bytes_asym _ _ (h4 Jb).2]; decide) | (rw [leq_nil c114] at h2; exact absurd h2 (by decide)) | omega)
      refine qs 12 ?_
      refine Gk (q + 1) ⟨by omega, ?_⟩ Jb srA (Sub.drop.trans subF)
      intro j hj hjq
      rcases Nat.lt_succ_iff_lt_or_eq.1 hjq with k9 | rfl
      · exact hok j hj k9
      unfold elemAtP
      rw [hK, hKid, hKidP, hPrev]
      first
      | exact Or.inl ⟨c58, c83, c88, c93, c101, fun _ _ => Int.not_le.1 c77⟩
      | exact Or.inl ⟨c58, c83, c88, c93, c101, fun _ h1 => absurd h1 c63⟩
      | exact Or.inl ⟨c58, c83, c88, c93, c101, fun h0 _ => absurd h0 Jb⟩
      | exact Or.inr ⟨c58, c105, c119, fun _ => ⟨c109, bytes_tri _ _ c114⟩⟩
      | exact Or.inr ⟨c58, c105, c119, fun h0 => absurd h0 Jb⟩
     refine qt [5, 6, 7, 8, 9, 10, 11, 12, 13, 14, 15, 16, 17, 18, 19, 20] ?_
     refine Gq Ja ?_
     refine qs 7 ?_
     refine Gc HZ HZ (Gw HZ HZ HZ (fun c83 => ?_) (fun c83 => ?_))
     ·refine qs 34 ?_
      first | refine Gb (L' := L) (F' := F) Tryz.results163 HZ subA (hT ?_) | refine Gb (L' := L) (F' := F) Tryz.results163 HZ subA (hF ?_)
      first
      | exact ⟨⟨by omega, c16, c21, fun i hi => hok i hi Jb⟩, c12⟩
      | exact fun e => c12 e.2
      | exact fun e => absurd e.1.2.1 Jb
      | exact fun e => absurd e.1.2.2.1 Jb
      | exact fun e => c30 (by rw [e.1.1])
      | (intro e
         have he := e.1.2.2.2 q hql
         unfold elemAtP at he
         rw [hK, hKid, hKidP, hPrev] at he
         rcases he with ⟨h1, h2, h3, h4, h5, h6⟩ | ⟨h1, h2, h3, h4⟩
         first | exact c58 h1 | exact h3 c88 | exact h4 c93 | exact h5 c101 | (have := h6 Jb c63; omega) | omega
         first | exact h1 c58 | exact absurd h2 (by rw [c105]; decide) | exact (h4 Jb).1 c109 | exact c119 h3 | exact absurd c114 (by rw [bytes_asym _ _ (h4 Jb).2]; decide) | (rw [leq_nil c114] at h2; exact absurd h2 (by decide)) | omega)
     refine qs 4 ?_
     refine Gc HZ HZ (Gr HZ HZ HZ (fun c88 => ?_) (fun c88 => ?_))
     ·refine qs 29 ?_
      first | refine Gb (L' := L) (F' := F) Tryz.results163 HZ subA (hT ?_) | refine Gb (L' := L) (F' := F) Tryz.results163 HZ subA (hF ?_)
      first
      | exact ⟨⟨by omega, c16, c21, fun i hi => hok i hi Jb⟩, c12⟩
      | exact fun e => c12 e.2
      | exact fun e => absurd e.1.2.1 Jb
      | exact fun e => absurd e.1.2.2.1 Jb
      | exact fun e => c30 (by rw [e.1.1])
      | (intro e
         have he := e.1.2.2.2 q hql
         unfold elemAtP at he
         rw [hK, hKid, hKidP, hPrev] at he
         rcases he with ⟨h1, h2, h3, h4, h5, h6⟩ | ⟨h1, h2, h3, h4⟩
         first | exact c58 h1 | exact h3 c88 | exact h4 c93 | exact h5 c101 | (have := h6 Jb c63; omega) | omega
         first | exact h1 c58 | exact absurd h2 (by rw [c105]; decide) | exact (h4 Jb).1 c109 | exact c119 h3 | exact absurd c114 (by rw [bytes_asym _ _ (h4 Jb).2]; decide) | (rw [leq_nil c114] at h2; exact absurd h2 (by decide)) | omega)
     refine qs 4 ?_
     refine Gc HZ HZ (Gr HZ HZ HZ (fun c93 => ?_) (fun c93 => ?_))
     ·refine qs 24 ?_
      first | refine Gb (L' := L) (F' := F) Tryz.results163 HZ subA (hT ?_) | refine Gb (L' := L) (F' := F) Tryz.results163 HZ subA (hF ?_)
      first
      | exact ⟨⟨by omega, c16, c21, fun i hi => hok i hi Jb⟩, c12⟩
      | exact fun e => c12 e.2
      | exact fun e => absurd e.1.2.1 Jb
      | exact fun e => absurd e.1.2.2.1 Jb
      | exact fun e => c30 (by rw [e.1.1])
      | (intro e
         have he := e.1.2.2.2 q hql
         unfold elemAtP at he
         rw [hK, hKid, hKidP, hPrev] at he
         rcases he with ⟨h1, h2, h3, h4, h5, h6⟩ | ⟨h1, h2, h3, h4⟩
         first | exact c58 h1 | exact h3 c88 | exact h4 c93 | exact h5 c101 | (have := h6 Jb c63; omega) | omega
         first | exact h1 c58 | exact absurd h2 (by rw [c105]; decide) | exact (h4 Jb).1 c109 | exact c119 h3 | exact absurd c114 (by rw [bytes_asym _ _ (h4 Jb).2]; decide) | (rw [leq_nil c114] at h2; exact absurd h2 (by decide)) | omega)
     refine qs 5 ?_
     refine Gc HZ HZ (Gd HZ HZ HZ HZ memA (by first | omega | (simp; omega)) (fun _ _ => ?_))
     refine Gc HZ HZ (Gs HZ HZ ?_)
     intros
     refine Gc HZ HZ (Ge HZ HZ (untyped_c t.kids[q] (fun c101 => ?_) (fun c101 => ?_)))
     ·refine qs 16 ?_
      first | refine Gb (L' := L) (F' := F) Tryz.results163 HZ subA (hT ?_) | refine Gb (L' := L) (F' := F) Tryz.results163 HZ subA (hF ?_)
      first
      | exact ⟨⟨by omega, c16, c21, fun i hi => hok i hi Jb⟩, c12⟩
      | exact fun e => c12 e.2
      | exact fun e => absurd e.1.2.1 Jb
      | exact fun e => absurd e.1.2.2.1 Jb
      | exact fun e => c30 (by rw [e.1.1])
      | (intro e
         have he := e.1.2.2.2 q hql
         unfold elemAtP at he
         rw [hK, hKid, hKidP, hPrev] at he
         rcases he with ⟨h1, h2, h3, h4, h5, h6⟩ | ⟨h1, h2, h3, h4⟩
         first | exact c58 h1 | exact h3 c88 | exact h4 c93 | exact h5 c101 | (have := h6 Jb c63; omega) | omega
         first | exact h1 c58 | exact absurd h2 (by rw [c105]; decide) | exact (h4 Jb).1 c109 | exact c119 h3 | exact absurd c114 (by rw [bytes_asym _ _ (h4 Jb).2]; decide) | (rw [leq_nil c114] at h2; exact absurd h2 (by decide)) | omega)
     refine qs 12 ?_
     refine Gk (q + 1) ⟨by omega, ?_⟩ Jb srA (Sub.drop.trans subF)
     intro j hj hjq
     rcases Nat.lt_succ_iff_lt_or_eq.1 hjq with k9 | rfl
     · exact hok j hj k9
     unfold elemAtP
     rw [hK, hKid, hKidP, hPrev]
     first
     | exact Or.inl ⟨c58, c83, c88, c93, c101, fun _ _ => Int.not_le.1 c77⟩
     | exact Or.inl ⟨c58, c83, c88, c93, c101, fun _ h1 => absurd h1 c63⟩
     | exact Or.inl ⟨c58, c83, c88, c93, c101, fun h0 _ => absurd h0 Jb⟩
     | exact Or.inr ⟨c58, c105, c119, fun _ => ⟨c109, bytes_tri _ _ c114⟩⟩
     | exact Or.inr ⟨c58, c105, c119, fun h0 => absurd h0 Jb⟩
    refine qs 7 ?_
    refine Ga (Ge HZ HZ (HP t.words[q] (fun c105 => ?_) (fun c105 => ?_)))
    ·refine qs 3 ?_
     refine Gc HZ HZ (Ge HZ HZ (pmark_c t.words[q - 1] (fun c109 => ?_) (fun c109 => ?_)))
     ·refine qs 27 ?_
      first | refine Gb (L' := L) (F' := F) Tryz.results163 HZ subA (hT ?_) | refine Gb (L' := L) (F' := F) Tryz.results163 HZ subA (hF ?_)
      first
      | exact ⟨⟨by omega, c16, c21, fun i hi => hok i hi Jb⟩, c12⟩
      | exact fun e => c12 e.2
      | exact fun e => absurd e.1.2.1 Jb
      | exact fun e => absurd e.1.2.2.1 Jb
      | exact fun e => c30 (by rw [e.1.1])
      | (intro e
         have he := e.1.2.2.2 q hql
         unfold elemAtP at he
         rw [hK, hKid, hKidP, hPrev] at he
         rcases he with ⟨h1, h2, h3, h4, h5, h6⟩ | ⟨h1, h2, h3, h4⟩
         first | exact c58 h1 | exact h3 c88 | exact h4 c93 | exact h5 c101 | (have := h6 Jb c63; omega) | omega
         first | exact h1 c58 | exact absurd h2 (by rw [c105]; decide) | exact (h4 Jb).1 c109 | exact c119 h3 | exact absurd c114 (by rw [bytes_asym _ _ (h4 Jb).2]; decide) | (rw [leq_nil c114] at h2; exact absurd h2 (by decide)) | omega)
     refine qs 4 ?_
     refine Gc HZ HZ (AO.leqS HZ HZ HZ (fun c114 => ?_) (fun c114 => ?_))
     ·refine qs 22 ?_
      first | refine Gb (L' := L) (F' := F) Tryz.results163 HZ subA (hT ?_) | refine Gb (L' := L) (F' := F) Tryz.results163 HZ subA (hF ?_)
      first
      | exact ⟨⟨by omega, c16, c21, fun i hi => hok i hi Jb⟩, c12⟩
      | exact fun e => c12 e.2
      | exact fun e => absurd e.1.2.1 Jb
      | exact fun e => absurd e.1.2.2.1 Jb
      | exact fun e => c30 (by rw [e.1.1])
      | (intro e
         have he := e.1.2.2.2 q hql
         unfold elemAtP at he
         rw [hK, hKid, hKidP, hPrev] at he
         rcases he with ⟨h1, h2, h3, h4, h5, h6⟩ | ⟨h1, h2, h3, h4⟩
         first | exact c58 h1 | exact h3 c88 | exact h4 c93 | exact h5 c101 | (have := h6 Jb c63; omega) | omega
         first | exact h1 c58 | exact absurd h2 (by rw [c105]; decide) | exact (h4 Jb).1 c109 | exact c119 h3 | exact absurd c114 (by rw [bytes_asym _ _ (h4 Jb).2]; decide) | (rw [leq_nil c114] at h2; exact absurd h2 (by decide)) | omega)
     refine qs 4 ?_
     refine Gc HZ HZ (GG HZ HZ HZ (fun c119 => ?_) (fun c119 => ?_))
     ·refine qs 17 ?_
      first | refine Gb (L' := L) (F' := F) Tryz.results163 HZ subA (hT ?_) | refine Gb (L' := L) (F' := F) Tryz.results163 HZ subA (hF ?_)
      first
      | exact ⟨⟨by omega, c16, c21, fun i hi => hok i hi Jb⟩, c12⟩
      | exact fun e => c12 e.2
      | exact fun e => absurd e.1.2.1 Jb
      | exact fun e => absurd e.1.2.2.1 Jb
      | exact fun e => c30 (by rw [e.1.1])
      | (intro e
         have he := e.1.2.2.2 q hql
         unfold elemAtP at he
         rw [hK, hKid, hKidP, hPrev] at he
         rcases he with ⟨h1, h2, h3, h4, h5, h6⟩ | ⟨h1, h2, h3, h4⟩
         first | exact c58 h1 | exact h3 c88 | exact h4 c93 | exact h5 c101 | (have := h6 Jb c63; omega) | omega
         first | exact h1 c58 | exact absurd h2 (by rw [c105]; decide) | exact (h4 Jb).1 c109 | exact c119 h3 | exact absurd c114 (by rw [bytes_asym _ _ (h4 Jb).2]; decide) | (rw [leq_nil c114] at h2; exact absurd h2 (by decide)) | omega)
     refine qs 13 ?_
     refine Gk (q + 1) ⟨by omega, ?_⟩ Jb srA (Sub.drop.trans subF)
     intro j hj hjq
     rcases Nat.lt_succ_iff_lt_or_eq.1 hjq with k9 | rfl
     · exact hok j hj k9
     unfold elemAtP
     rw [hK, hKid, hKidP, hPrev]
     first
     | exact Or.inl ⟨c58, c83, c88, c93, c101, fun _ _ => Int.not_le.1 c77⟩
     | exact Or.inl ⟨c58, c83, c88, c93, c101, fun _ h1 => absurd h1 c63⟩
     | exact Or.inl ⟨c58, c83, c88, c93, c101, fun h0 _ => absurd h0 Jb⟩
     | exact Or.inr ⟨c58, c105, c119, fun _ => ⟨c109, bytes_tri _ _ c114⟩⟩
     | exact Or.inr ⟨c58, c105, c119, fun h0 => absurd h0 Jb⟩
    refine qs 31 ?_
    first | refine Gb (L' := L) (F' := F) Tryz.results163 HZ subA (hT ?_) | refine Gb (L' := L) (F' := F) Tryz.results163 HZ subA (hF ?_)
    first
    | exact ⟨⟨by omega, c16, c21, fun i hi => hok i hi Jb⟩, c12⟩
    | exact fun e => c12 e.2
    | exact fun e => absurd e.1.2.1 Jb
    | exact fun e => absurd e.1.2.2.1 Jb
    | exact fun e => c30 (by rw [e.1.1])
    | (intro e
       have he := e.1.2.2.2 q hql
       unfold elemAtP at he
       rw [hK, hKid, hKidP, hPrev] at he
       rcases he with ⟨h1, h2, h3, h4, h5, h6⟩ | ⟨h1, h2, h3, h4⟩
       first | exact c58 h1 | exact h3 c88 | exact h4 c93 | exact h5 c101 | (have := h6 Jb c63; omega) | omega
       first | exact h1 c58 | exact absurd h2 (by rw [c105]; decide) | exact (h4 Jb).1 c109 | exact c119 h3 | exact absurd c114 (by rw [bytes_asym _ _ (h4 Jb).2]; decide) | (rw [leq_nil c114] at h2; exact absurd h2 (by decide)) | omega)
   refine qs 9 ?_
   refine Ga (Ge HZ HZ (pmark_c t.words[q] (fun c58 => ?_) (fun c58 => ?_)))
   ·refine qs 5 ?_
    refine GP (fun _ => false) [(b3, _, _)] bxA HZ (fun hx hX => ?_)
    have hkk := (Gu (hX (fK t a2 k2 c2) (by repeat (first | exact m2 | refine memS ?_)))).1
    obtain ⟨p2, o2, rfl, atq⟩ := GA (hX (fK t a2 k2 c2) (by repeat (first | exact m2 | refine memS ?_))) hqk
    obtain ⟨vq, hvq, hcq⟩ := atq 0 _ rfl
    cases hcq
    refine qt [0] ?_
    refine Hf (i := 1) HZ (Y.gtr HZ HZ) Ja HZ HZ (fun c60 => absurd (of_decide_eq_true c60) Jb) (fun c60 => ?_)
    refine qt [2, 3, 4, 5, 6, 7, 8, 9, 10, 11, 12, 13, 14, 15, 16, 17, 18, 19, 20] ?_
    refine Gq Ja ?_
    refine qs 7 ?_
    refine Gc HZ HZ (Gw HZ HZ HZ (fun c83 => ?_) (fun c83 => ?_))
    ·refine qs 34 ?_
     first | refine Gb (L' := L) (F' := F) Tryz.results163 HZ subA (hT ?_) | refine Gb (L' := L) (F' := F) Tryz.results163 HZ subA (hF ?_)
     first
     | exact ⟨⟨by omega, c16, c21, fun i hi => hok i hi Jb⟩, c12⟩
     | exact fun e => c12 e.2
     | exact fun e => absurd e.1.2.1 Jb
     | exact fun e => absurd e.1.2.2.1 Jb
     | exact fun e => c30 (by rw [e.1.1])
     | (intro e
        have he := e.1.2.2.2 q hql
        unfold elemAtP at he
        rw [hK, hKid, hKidP, hPrev] at he
        rcases he with ⟨h1, h2, h3, h4, h5, h6⟩ | ⟨h1, h2, h3, h4⟩
        first | exact c58 h1 | exact h3 c88 | exact h4 c93 | exact h5 c101 | (have := h6 Jb c63; omega) | omega
        first | exact h1 c58 | exact absurd h2 (by rw [c105]; decide) | exact (h4 Jb).1 c109 | exact c119 h3 | exact absurd c114 (by rw [bytes_asym _ _ (h4 Jb).2]; decide) | (rw [leq_nil c114] at h2; exact absurd h2 (by decide)) | omega)
    refine qs 4 ?_
    refine Gc HZ HZ (Gr HZ HZ HZ (fun c88 => ?_) (fun c88 => ?_))
    ·refine qs 29 ?_
     first | refine Gb (L' := L) (F' := F) Tryz.results163 HZ subA (hT ?_) | refine Gb (L' := L) (F' := F) Tryz.results163 HZ subA (hF ?_)
     first
     | exact ⟨⟨by omega, c16, c21, fun i hi => hok i hi Jb⟩, c12⟩
     | exact fun e => c12 e.2
     | exact fun e => absurd e.1.2.1 Jb
     | exact fun e => absurd e.1.2.2.1 Jb
     | exact fun e => c30 (by rw [e.1.1])
     | (intro e
        have he := e.1.2.2.2 q hql
        unfold elemAtP at he
        rw [hK, hKid, hKidP, hPrev] at he
        rcases he with ⟨h1, h2, h3, h4, h5, h6⟩ | ⟨h1, h2, h3, h4⟩
        first | exact c58 h1 | exact h3 c88 | exact h4 c93 | exact h5 c101 | (have := h6 Jb c63; omega) | omega
        first | exact h1 c58 | exact absurd h2 (by rw [c105]; decide) | exact (h4 Jb).1 c109 | exact c119 h3 | exact absurd c114 (by rw [bytes_asym _ _ (h4 Jb).2]; decide) | (rw [leq_nil c114] at h2; exact absurd h2 (by decide)) | omega)
    refine qs 4 ?_
    refine Gc HZ HZ (Gr HZ HZ HZ (fun c93 => ?_) (fun c93 => ?_))
    ·refine qs 24 ?_
     first | refine Gb (L' := L) (F' := F) Tryz.results163 HZ subA (hT ?_) | refine Gb (L' := L) (F' := F) Tryz.results163 HZ subA (hF ?_)
     first
     | exact ⟨⟨by omega, c16, c21, fun i hi => hok i hi Jb⟩, c12⟩
     | exact fun e => c12 e.2
     | exact fun e => absurd e.1.2.1 Jb
     | exact fun e => absurd e.1.2.2.1 Jb
     | exact fun e => c30 (by rw [e.1.1])
     | (intro e
        have he := e.1.2.2.2 q hql
        unfold elemAtP at he
        rw [hK, hKid, hKidP, hPrev] at he
        rcases he with ⟨h1, h2, h3, h4, h5, h6⟩ | ⟨h1, h2, h3, h4⟩
        first | exact c58 h1 | exact h3 c88 | exact h4 c93 | exact h5 c101 | (have := h6 Jb c63; omega) | omega
        first | exact h1 c58 | exact absurd h2 (by rw [c105]; decide) | exact (h4 Jb).1 c109 | exact c119 h3 | exact absurd c114 (by rw [bytes_asym _ _ (h4 Jb).2]; decide) | (rw [leq_nil c114] at h2; exact absurd h2 (by decide)) | omega)
    refine qs 5 ?_
    refine Gc HZ HZ (Gd HZ HZ HZ HZ memA (by first | omega | (simp; omega)) (fun _ _ => ?_))
    refine Gc HZ HZ (Gs HZ HZ ?_)
    intros
    refine Gc HZ HZ (Ge HZ HZ (untyped_c t.kids[q] (fun c101 => ?_) (fun c101 => ?_)))
    ·refine qs 16 ?_
     first | refine Gb (L' := L) (F' := F) Tryz.results163 HZ subA (hT ?_) | refine Gb (L' := L) (F' := F) Tryz.results163 HZ subA (hF ?_)
     first
     | exact ⟨⟨by omega, c16, c21, fun i hi => hok i hi Jb⟩, c12⟩
     | exact fun e => c12 e.2
     | exact fun e => absurd e.1.2.1 Jb
     | exact fun e => absurd e.1.2.2.1 Jb
     | exact fun e => c30 (by rw [e.1.1])
     | (intro e
        have he := e.1.2.2.2 q hql
        unfold elemAtP at he
        rw [hK, hKid, hKidP, hPrev] at he
        rcases he with ⟨h1, h2, h3, h4, h5, h6⟩ | ⟨h1, h2, h3, h4⟩
        first | exact c58 h1 | exact h3 c88 | exact h4 c93 | exact h5 c101 | (have := h6 Jb c63; omega) | omega
        first | exact h1 c58 | exact absurd h2 (by rw [c105]; decide) | exact (h4 Jb).1 c109 | exact c119 h3 | exact absurd c114 (by rw [bytes_asym _ _ (h4 Jb).2]; decide) | (rw [leq_nil c114] at h2; exact absurd h2 (by decide)) | omega)
    refine qs 12 ?_
    refine Gk (q + 1) ⟨by omega, ?_⟩ Jb srA (Sub.drop.trans subF)
    intro j hj hjq
    rcases Nat.lt_succ_iff_lt_or_eq.1 hjq with k9 | rfl
    · exact hok j hj k9
    unfold elemAtP
    rw [hK, hKid, hKidP, hPrev]
    first
    | exact Or.inl ⟨c58, c83, c88, c93, c101, fun _ _ => Int.not_le.1 c77⟩
    | exact Or.inl ⟨c58, c83, c88, c93, c101, fun _ h1 => absurd h1 c63⟩
    | exact Or.inl ⟨c58, c83, c88, c93, c101, fun h0 _ => absurd h0 Jb⟩
    | exact Or.inr ⟨c58, c105, c119, fun _ => ⟨c109, bytes_tri _ _ c114⟩⟩
    | exact Or.inr ⟨c58, c105, c119, fun h0 => absurd h0 Jb⟩
   refine qs 7 ?_
   refine Ga (Ge HZ HZ (HP t.words[q] (fun c105 => ?_) (fun c105 => ?_)))
   ·refine qs 3 ?_
    refine Gc HZ HZ (Ge HZ HZ (pmark_c [] (fun c109 => absurd c109 mark_nil) (fun c109 => ?_)))
    refine qs 4 ?_
    refine Gc HZ HZ (AO.leqS HZ HZ HZ (fun c114 => ?_) (fun c114 => ?_))
    ·refine qs 22 ?_
     first | refine Gb (L' := L) (F' := F) Tryz.results163 HZ subA (hT ?_) | refine Gb (L' := L) (F' := F) Tryz.results163 HZ subA (hF ?_)
     first
     | exact ⟨⟨by omega, c16, c21, fun i hi => hok i hi Jb⟩, c12⟩
     | exact fun e => c12 e.2
     | exact fun e => absurd e.1.2.1 Jb
     | exact fun e => absurd e.1.2.2.1 Jb
     | exact fun e => c30 (by rw [e.1.1])
     | (intro e
        have he := e.1.2.2.2 q hql
        unfold elemAtP at he
        rw [hK, hKid, hKidP, hPrev] at he
        rcases he with ⟨h1, h2, h3, h4, h5, h6⟩ | ⟨h1, h2, h3, h4⟩
        first | exact c58 h1 | exact h3 c88 | exact h4 c93 | exact h5 c101 | (have := h6 Jb c63; omega) | omega
        first | exact h1 c58 | exact absurd h2 (by rw [c105]; decide) | exact (h4 Jb).1 c109 | exact c119 h3 | exact absurd c114 (by rw [bytes_asym _ _ (h4 Jb).2]; decide) | (rw [leq_nil c114] at h2; exact absurd h2 (by decide)) | omega)
    refine qs 4 ?_
    refine Gc HZ HZ (GG HZ HZ HZ (fun c119 => ?_) (fun c119 => ?_))
    ·refine qs 17 ?_
     first | refine Gb (L' := L) (F' := F) Tryz.results163 HZ subA (hT ?_) | refine Gb (L' := L) (F' := F) Tryz.results163 HZ subA (hF ?_)
     first
     | exact ⟨⟨by omega, c16, c21, fun i hi => hok i hi Jb⟩, c12⟩
     | exact fun e => c12 e.2
     | exact fun e => absurd e.1.2.1 Jb
     | exact fun e => absurd e.1.2.2.1 Jb
     | exact fun e => c30 (by rw [e.1.1])
     | (intro e
        have he := e.1.2.2.2 q hql
        unfold elemAtP at he
        rw [hK, hKid, hKidP, hPrev] at he
        rcases he with ⟨h1, h2, h3, h4, h5, h6⟩ | ⟨h1, h2, h3, h4⟩
        first | exact c58 h1 | exact h3 c88 | exact h4 c93 | exact h5 c101 | (have := h6 Jb c63; omega) | omega
        first | exact h1 c58 | exact absurd h2 (by rw [c105]; decide) | exact (h4 Jb).1 c109 | exact c119 h3 | exact absurd c114 (by rw [bytes_asym _ _ (h4 Jb).2]; decide) | (rw [leq_nil c114] at h2; exact absurd h2 (by decide)) | omega)
    refine qs 13 ?_
    refine Gk (q + 1) ⟨by omega, ?_⟩ Jb srA (Sub.drop.trans subF)
    intro j hj hjq
    rcases Nat.lt_succ_iff_lt_or_eq.1 hjq with k9 | rfl
    · exact hok j hj k9
    unfold elemAtP
    rw [hK, hKid, hKidP, hPrev]
    first
    | exact Or.inl ⟨c58, c83, c88, c93, c101, fun _ _ => Int.not_le.1 c77⟩
    | exact Or.inl ⟨c58, c83, c88, c93, c101, fun _ h1 => absurd h1 c63⟩
    | exact Or.inl ⟨c58, c83, c88, c93, c101, fun h0 _ => absurd h0 Jb⟩
    | exact Or.inr ⟨c58, c105, c119, fun _ => ⟨c109, bytes_tri _ _ c114⟩⟩
    | exact Or.inr ⟨c58, c105, c119, fun h0 => absurd h0 Jb⟩
   refine qs 31 ?_
   first | refine Gb (L' := L) (F' := F) Tryz.results163 HZ subA (hT ?_) | refine Gb (L' := L) (F' := F) Tryz.results163 HZ subA (hF ?_)
   first
   | exact ⟨⟨by omega, c16, c21, fun i hi => hok i hi Jb⟩, c12⟩
   | exact fun e => c12 e.2
   | exact fun e => absurd e.1.2.1 Jb
   | exact fun e => absurd e.1.2.2.1 Jb
   | exact fun e => c30 (by rw [e.1.1])
   | (intro e
      have he := e.1.2.2.2 q hql
      unfold elemAtP at he
      rw [hK, hKid, hKidP, hPrev] at he
      rcases he with ⟨h1, h2, h3, h4, h5, h6⟩ | ⟨h1, h2, h3, h4⟩
      first | exact c58 h1 | exact h3 c88 | exact h4 c93 | exact h5 c101 | (have := h6 Jb c63; omega) | omega
      first | exact h1 c58 | exact absurd h2 (by rw [c105]; decide) | exact (h4 Jb).1 c109 | exact c119 h3 | exact absurd c114 (by rw [bytes_asym _ _ (h4 Jb).2]; decide) | (rw [leq_nil c114] at h2; exact absurd h2 (by decide)) | omega)
  refine qs 15 ?_
  first | refine Gb (L' := L) (F' := F) Tryz.results163 HZ subA (hT ?_) | refine Gb (L' := L) (F' := F) Tryz.results163 HZ subA (hF ?_)
  first
  | exact ⟨⟨by omega, c16, c21, fun i hi => hok i hi Jb⟩, c12⟩
  | exact fun e => c12 e.2
  | exact fun e => absurd e.1.2.1 Jb
  | exact fun e => absurd e.1.2.2.1 Jb
  | exact fun e => c30 (by rw [e.1.1])
  | (intro e
     have he := e.1.2.2.2 q hql
     unfold elemAtP at he
     rw [hK, hKid, hKidP, hPrev] at he
     rcases he with ⟨h1, h2, h3, h4, h5, h6⟩ | ⟨h1, h2, h3, h4⟩
     first | exact c58 h1 | exact h3 c88 | exact h4 c93 | exact h5 c101 | (have := h6 Jb c63; omega) | omega
     first | exact h1 c58 | exact absurd h2 (by rw [c105]; decide) | exact (h4 Jb).1 c109 | exact c119 h3 | exact absurd c114 (by rw [bytes_asym _ _ (h4 Jb).2]; decide) | (rw [leq_nil c114] at h2; exact absurd h2 (by decide)) | omega)
end
end Go.Sy
namespace Go.Sy
abbrev GW := @kids_yes
end Go.Sy
namespace Go.Sy
open Go Go.Proofs Go.RowKit
section
variable {l : List Ty} {t : Ty}
theorem madeK_1 (h : t.kind = 1) : madeK l t ↔ (t.n = 0 ∧ t.kids.length = 1) := by
  unfold madeK
  constructor
  · rintro (e | e | e | e | e | e | e | e | e)
    all_goals first | (exfalso; have := e.1; omega) | exact e.2
  intro e
  first | exact Or.inl ⟨h, e⟩ | exact Or.inr (Or.inl ⟨h, e⟩) | exact Or.inr (Or.inr (Or.inl ⟨h, e⟩)) | exact Or.inr (Or.inr (Or.inr (Or.inl ⟨h, e⟩))) | exact Or.inr (Or.inr (Or.inr (Or.inr (Or.inl ⟨h, e⟩)))) | exact Or.inr (Or.inr (Or.inr (Or.inr (Or.inr (Or.inl ⟨h, e⟩))))) | exact Or.inr (Or.inr (Or.inr (Or.inr (Or.inr (Or.inr (Or.inl ⟨h, e⟩)))))) | exact Or.inr (Or.inr (Or.inr (Or.inr (Or.inr (Or.inr (Or.inr (Or.inl ⟨h, e⟩))))))) | exact Or.inr (Or.inr (Or.inr (Or.inr (Or.inr (Or.inr (Or.inr (Or.inr ⟨h, e⟩)))))))
theorem madeK_2 (h : t.kind = 2) : madeK l t ↔ (t.n = 0 ∧ t.kids.length = 1) := by
  unfold madeK
  constructor
  · rintro (e | e | e | e | e | e | e | e | e)
    all_goals first | (exfalso; have := e.1; omega) | exact e.2
  intro e
  first | exact Or.inl ⟨h, e⟩ | exact Or.inr (Or.inl ⟨h, e⟩) | exact Or.inr (Or.inr (Or.inl ⟨h, e⟩)) | exact Or.inr (Or.inr (Or.inr (Or.inl ⟨h, e⟩))) | exact Or.inr (Or.inr (Or.inr (Or.inr (Or.inl ⟨h, e⟩)))) | exact Or.inr (Or.inr (Or.inr (Or.inr (Or.inr (Or.inl ⟨h, e⟩))))) | exact Or.inr (Or.inr (Or.inr (Or.inr (Or.inr (Or.inr (Or.inl ⟨h, e⟩)))))) | exact Or.inr (Or.inr (Or.inr (Or.inr (Or.inr (Or.inr (Or.inr (Or.inl ⟨h, e⟩))))))) | exact Or.inr (Or.inr (Or.inr (Or.inr (Or.inr (Or.inr (Or.inr (Or.inr ⟨h, e⟩)))))))
theorem madeK_3 (h : t.kind = 3) : madeK l t ↔ (0 ≤ t.n ∧ t.n ≤ 2147483648 ∧ t.kids.length = 1) := by
  unfold madeK
  constructor
  · rintro (e | e | e | e | e | e | e | e | e)
    all_goals first | (exfalso; have := e.1; omega) | exact e.2
  intro e
  first | exact Or.inl ⟨h, e⟩ | exact Or.inr (Or.inl ⟨h, e⟩) | exact Or.inr (Or.inr (Or.inl ⟨h, e⟩)) | exact Or.inr (Or.inr (Or.inr (Or.inl ⟨h, e⟩))) | exact Or.inr (Or.inr (Or.inr (Or.inr (Or.inl ⟨h, e⟩)))) | exact Or.inr (Or.inr (Or.inr (Or.inr (Or.inr (Or.inl ⟨h, e⟩))))) | exact Or.inr (Or.inr (Or.inr (Or.inr (Or.inr (Or.inr (Or.inl ⟨h, e⟩)))))) | exact Or.inr (Or.inr (Or.inr (Or.inr (Or.inr (Or.inr (Or.inr (Or.inl ⟨h, e⟩))))))) | exact Or.inr (Or.inr (Or.inr (Or.inr (Or.inr (Or.inr (Or.inr (Or.inr ⟨h, e⟩)))))))
theorem madeK_4 (h : t.kind = 4) : madeK l t ↔ (t.n = 0 ∧ t.kids.length = 2) := by
  unfold madeK
  constructor
  · rintro (e | e | e | e | e | e | e | e | e)
    all_goals first | (exfalso; have := e.1; omega) | exact e.2
  intro e
  first | exact Or.inl ⟨h, e⟩ | exact Or.inr (Or.inl ⟨h, e⟩) | exact Or.inr (Or.inr (Or.inl ⟨h, e⟩)) | exact Or.inr (Or.inr (Or.inr (Or.inl ⟨h, e⟩))) | exact Or.inr (Or.inr (Or.inr (Or.inr (Or.inl ⟨h, e⟩)))) | exact Or.inr (Or.inr (Or.inr (Or.inr (Or.inr (Or.inl ⟨h, e⟩))))) | exact Or.inr (Or.inr (Or.inr (Or.inr (Or.inr (Or.inr (Or.inl ⟨h, e⟩)))))) | exact Or.inr (Or.inr (Or.inr (Or.inr (Or.inr (Or.inr (Or.inr (Or.inl ⟨h, e⟩))))))) | exact Or.inr (Or.inr (Or.inr (Or.inr (Or.inr (Or.inr (Or.inr (Or.inr ⟨h, e⟩)))))))
theorem madeK_5 (h : t.kind = 5) : madeK l t ↔ (t.n = 0 ∨ t.n = 1 ∧ 0 < t.kids.length) := by
  unfold madeK
  constructor
  · rintro (e | e | e | e | e | e | e | e | e)
    all_goals first | (exfalso; have := e.1; omega) | exact e.2
  intro e
  first | exact Or.inl ⟨h, e⟩ | exact Or.inr (Or.inl ⟨h, e⟩) | exact Or.inr (Or.inr (Or.inl ⟨h, e⟩)) | exact Or.inr (Or.inr (Or.inr (Or.inl ⟨h, e⟩))) | exact Or.inr (Or.inr (Or.inr (Or.inr (Or.inl ⟨h, e⟩)))) | exact Or.inr (Or.inr (Or.inr (Or.inr (Or.inr (Or.inl ⟨h, e⟩))))) | exact Or.inr (Or.inr (Or.inr (Or.inr (Or.inr (Or.inr (Or.inl ⟨h, e⟩)))))) | exact Or.inr (Or.inr (Or.inr (Or.inr (Or.inr (Or.inr (Or.inr (Or.inl ⟨h, e⟩))))))) | exact Or.inr (Or.inr (Or.inr (Or.inr (Or.inr (Or.inr (Or.inr (Or.inr ⟨h, e⟩)))))))
theorem madeK_6 (h : t.kind = 6) : madeK l t ↔ (t.n = 0 ∧ fieldsP t.words ∧ t.words.length = t.kids.length) := by
  unfold madeK
  constructor
  · rintro (e | e | e | e | e | e | e | e | e)
    all_goals first | (exfalso; have := e.1; omega) | exact e.2
  intro e
  first | exact Or.inl ⟨h, e⟩ | exact Or.inr (Or.inl ⟨h, e⟩) | exact Or.inr (Or.inr (Or.inl ⟨h, e⟩)) | exact Or.inr (Or.inr (Or.inr (Or.inl ⟨h, e⟩))) | exact Or.inr (Or.inr (Or.inr (Or.inr (Or.inl ⟨h, e⟩)))) | exact Or.inr (Or.inr (Or.inr (Or.inr (Or.inr (Or.inl ⟨h, e⟩))))) | exact Or.inr (Or.inr (Or.inr (Or.inr (Or.inr (Or.inr (Or.inl ⟨h, e⟩)))))) | exact Or.inr (Or.inr (Or.inr (Or.inr (Or.inr (Or.inr (Or.inr (Or.inl ⟨h, e⟩))))))) | exact Or.inr (Or.inr (Or.inr (Or.inr (Or.inr (Or.inr (Or.inr (Or.inr ⟨h, e⟩)))))))
theorem madeK_7 (h : t.kind = 7) : madeK l t ↔ (elemsP l t) := by
  unfold madeK
  constructor
  · rintro (e | e | e | e | e | e | e | e | e)
    all_goals first | (exfalso; have := e.1; omega) | exact e.2
  intro e
  first | exact Or.inl ⟨h, e⟩ | exact Or.inr (Or.inl ⟨h, e⟩) | exact Or.inr (Or.inr (Or.inl ⟨h, e⟩)) | exact Or.inr (Or.inr (Or.inr (Or.inl ⟨h, e⟩))) | exact Or.inr (Or.inr (Or.inr (Or.inr (Or.inl ⟨h, e⟩)))) | exact Or.inr (Or.inr (Or.inr (Or.inr (Or.inr (Or.inl ⟨h, e⟩))))) | exact Or.inr (Or.inr (Or.inr (Or.inr (Or.inr (Or.inr (Or.inl ⟨h, e⟩)))))) | exact Or.inr (Or.inr (Or.inr (Or.inr (Or.inr (Or.inr (Or.inr (Or.inl ⟨h, e⟩))))))) | exact Or.inr (Or.inr (Or.inr (Or.inr (Or.inr (Or.inr (Or.inr (Or.inr ⟨h, e⟩)))))))
theorem madeK_8 (h : t.kind = 8) : madeK l t ↔ (t.n = 0 ∧ namedP t.name) := by
  unfold madeK
  constructor
  · rintro (e | e | e | e | e | e | e | e | e)
    all_goals first | (exfalso; have := e.1; omega) | exact e.2
  intro e
  first | exact Or.inl ⟨h, e⟩ | exact Or.inr (Or.inl ⟨h, e⟩) | exact Or.inr (Or.inr (Or.inl ⟨h, e⟩)) | exact Or.inr (Or.inr (Or.inr (Or.inl ⟨h, e⟩))) | exact Or.inr (Or.inr (Or.inr (Or.inr (Or.inl ⟨h, e⟩)))) | exact Or.inr (Or.inr (Or.inr (Or.inr (Or.inr (Or.inl ⟨h, e⟩))))) | exact Or.inr (Or.inr (Or.inr (Or.inr (Or.inr (Or.inr (Or.inl ⟨h, e⟩)))))) | exact Or.inr (Or.inr (Or.inr (Or.inr (Or.inr (Or.inr (Or.inr (Or.inl ⟨h, e⟩))))))) | exact Or.inr (Or.inr (Or.inr (Or.inr (Or.inr (Or.inr (Or.inr (Or.inr ⟨h, e⟩)))))))
theorem madeK_9 (h : t.kind = 9) : madeK l t ↔ (0 ≤ t.n ∧ t.n < 16 ∧ t.kids.length = 0) := by
  unfold madeK
  constructor
  · rintro (e | e | e | e | e | e | e | e | e)
    all_goals first | (exfalso; have := e.1; omega) | exact e.2
  intro e
  first | exact Or.inl ⟨h, e⟩ | exact Or.inr (Or.inl ⟨h, e⟩) | exact Or.inr (Or.inr (Or.inl ⟨h, e⟩)) | exact Or.inr (Or.inr (Or.inr (Or.inl ⟨h, e⟩))) | exact Or.inr (Or.inr (Or.inr (Or.inr (Or.inl ⟨h, e⟩)))) | exact Or.inr (Or.inr (Or.inr (Or.inr (Or.inr (Or.inl ⟨h, e⟩))))) | exact Or.inr (Or.inr (Or.inr (Or.inr (Or.inr (Or.inr (Or.inl ⟨h, e⟩)))))) | exact Or.inr (Or.inr (Or.inr (Or.inr (Or.inr (Or.inr (Or.inr (Or.inl ⟨h, e⟩))))))) | exact Or.inr (Or.inr (Or.inr (Or.inr (Or.inr (Or.inr (Or.inr (Or.inr ⟨h, e⟩)))))))
theorem madeK_no (h1 : t.kind ≠ 1) (h2 : t.kind ≠ 2) (h3 : t.kind ≠ 3) (h4 : t.kind ≠ 4) (h5 : t.kind ≠ 5) (h6 : t.kind ≠ 6) (h7 : t.kind ≠ 7) (h8 : t.kind ≠ 8) (h9 : t.kind ≠ 9) : ¬ madeK l t := by
  unfold madeK
  rintro (e | e | e | e | e | e | e | e | e)
  all_goals (have := e.1; omega)
theorem made_bare (hk : kidsP l t) (hl : (t.kids.length : Int) ≤ 16) (hb : t.name = [] ∧ t.words = []) (hK : madeK l t) : madeP l t := ⟨hk, by omega, fun _ => hb.1, fun _ _ => hb.2, hK⟩
theorem made_nobare (h8 : t.kind ≠ 8) (h6 : t.kind ≠ 6) (h7 : t.kind ≠ 7) (hb : ¬(t.name = [] ∧ t.words = [])) : ¬ madeP l t := fun e => hb ⟨e.2.2.1 h8, e.2.2.2.1 h6 h7⟩
theorem made_noK (h : ¬ madeK l t) : ¬ madeP l t := fun e => h e.2.2.2.2
theorem made_nokids (h : ¬ ∀ j (hj : j < t.kids.length), ¬(t.kids[j] < 0 ∨ t.kids[j] ≥ l.length)) : ¬ madeP l t := by
  intro e
  refine h (fun j hj hk => ?_)
  have := e.1 _ (List.getElem_mem hj)
  omega
theorem made_long (h : (t.kids.length : Int) > 16) : ¬ madeP l t := fun e => by have := e.2.1; omega
end
attribute [local irreducible] AC AT AO AK AH ACalls Sub Res.cells Res.obj Res.nix Res.own Res.map Exit.then Exit.inBlock bodyPost Code.wp Code.wpIn WL Next Post Kont
section
variable {W0 : World} {L : List Res} {F : List Fact} {R : Value → List Res → List Fact → Prop}
set_option maxRecDepth 100000
set_option maxHeartbeats 4000000
theorem made_c (g : Glob W0) (l : List Ty) (t : Ty) (ht : TyOk2 t) {a1 a2 a3 : Option Addr} {k1 c1 k2 c2 k3 c3 : Nat} (m1 : fW t a1 k1 c1 ∈ F) (m2 : fK t a2 k2 c2 ∈ F) (m3 : fL l a3 k3 c3 ∈ F)
    (hT : madeP l t → R (.bool true) L F) (hF : ¬ madeP l t → R (.bool false) L F) : ACalls Tryz.prog W0 101 #[.slice a3 k3 c3, vTy t a1 k1 c1 a2 k2 c2] L F R := by
  have hnm := ht.name
  refine Gg Tryz.func101 HZ Tryz.ntmps101 HZ ?_
  refine qs 2 ?_
  refine Ga (GL HZ HZ (fun b2 => (Ga (GL HZ HZ (fun b3 => ?_)))))
  refine qs 8 ?_
  refine Ga (HO HZ HZ ?_)
  refine Ga (Ge HZ HZ (containsFuncI_c t.kids m2 _ [.pointer (some ⟨b2, 0, none⟩)] (fun s => s < 0 ∨ s ≥ l.length) (fun s F' hF' R hT hF => made1_c l s (i := 1) (hF' _ m3) HZ hT hF) (fun c9 => ?_) (fun c9 => ?_)))
  ·refine qs 16 ?_
   first | refine Gb (L' := L) (F' := F) Tryz.results101 HZ subA (hT ?_) | refine Gb (L' := L) (F' := F) Tryz.results101 HZ subA (hF ?_)
   first
   | exact made_nokids c9
   | exact made_long c14
   | exact made_noK (madeK_no c22 c23 c36 c54 c67 c85 c89 c94 c110)
  refine qs 3 ?_
  refine Gc HZ HZ (Gt HZ HZ (fun hl13 => ?_) (hm := by repeat (first | exact mem0 | assumption | refine memS ?_)))
  refine Gc HZ HZ (Hv HZ HZ HZ (fun c14 => ?_) (fun c14 => ?_))
  ·refine qs 11 ?_
   first | refine Gb (L' := L) (F' := F) Tryz.results101 HZ subA (hT ?_) | refine Gb (L' := L) (F' := F) Tryz.results101 HZ subA (hF ?_)
   first
   | exact made_nokids c9
   | exact made_long c14
   | exact made_noK (madeK_no c22 c23 c36 c54 c67 c85 c89 c94 c110)
  refine qs 10 ?_
  refine Ga (Gt HZ HZ (fun hl18 => ?_) (hm := by repeat (first | exact mem0 | assumption | refine memS ?_)))
  refine qs 14 ?_
  refine Ga (Gr HZ HZ HZ (fun c22 => ?_) (fun c22 => ?_))
  ·refine qs 10 ?_
   refine Ga (Ge HZ HZ (bare_c t memA (fun c25 => ?_) (fun c25 => ?_)))
   ·refine qs 3 ?_
    refine Gc HZ HZ (Gr HZ HZ HZ (fun c29 => ?_) (fun c29 => ?_))
    ·refine qs 3 ?_
     refine Gc HZ HZ (Gr HZ HZ HZ (fun c33 => ?_) (fun c33 => ?_))
     ·refine qs 7 ?_
      first | refine Gb (L' := L) (F' := F) Tryz.results101 HZ subA (hT ?_) | refine Gb (L' := L) (F' := F) Tryz.results101 HZ subA (hF ?_)
      first
      | exact made_bare (GW c9) c14 c25 ((madeK_1 c22).2 Jb)
      | exact made_nobare Jb Jb Jb c25
      | (refine made_noK (fun e => ?_); have e := (madeK_1 c22).1 e; omega)
     refine qs 7 ?_
     first | refine Gb (L' := L) (F' := F) Tryz.results101 HZ subA (hT ?_) | refine Gb (L' := L) (F' := F) Tryz.results101 HZ subA (hF ?_)
     first
     | exact made_bare (GW c9) c14 c25 ((madeK_1 c22).2 Jb)
     | exact made_nobare Jb Jb Jb c25
     | (refine made_noK (fun e => ?_); have e := (madeK_1 c22).1 e; omega)
    refine qs 11 ?_
    first | refine Gb (L' := L) (F' := F) Tryz.results101 HZ subA (hT ?_) | refine Gb (L' := L) (F' := F) Tryz.results101 HZ subA (hF ?_)
    first
    | exact made_bare (GW c9) c14 c25 ((madeK_1 c22).2 Jb)
    | exact made_nobare Jb Jb Jb c25
    | (refine made_noK (fun e => ?_); have e := (madeK_1 c22).1 e; omega)
   refine qs 15 ?_
   first | refine Gb (L' := L) (F' := F) Tryz.results101 HZ subA (hT ?_) | refine Gb (L' := L) (F' := F) Tryz.results101 HZ subA (hF ?_)
   first
   | exact made_bare (GW c9) c14 c25 ((madeK_1 c22).2 Jb)
   | exact made_nobare Jb Jb Jb c25
   | (refine made_noK (fun e => ?_); have e := (madeK_1 c22).1 e; omega)
  refine qs 5 ?_
  refine Ga (Gr HZ HZ HZ (fun c23 => ?_) (fun c23 => ?_))
  ·refine qs 7 ?_
   refine Ga (Ge HZ HZ (bare_c t memA (fun c25 => ?_) (fun c25 => ?_)))
   ·refine qs 3 ?_
    refine Gc HZ HZ (Gr HZ HZ HZ (fun c29 => ?_) (fun c29 => ?_))
    ·refine qs 3 ?_
     refine Gc HZ HZ (Gr HZ HZ HZ (fun c33 => ?_) (fun c33 => ?_))
     ·refine qs 7 ?_
      first | refine Gb (L' := L) (F' := F) Tryz.results101 HZ subA (hT ?_) | refine Gb (L' := L) (F' := F) Tryz.results101 HZ subA (hF ?_)
      first
      | exact made_bare (GW c9) c14 c25 ((madeK_2 c23).2 Jb)
      | exact made_nobare Jb Jb Jb c25
      | (refine made_noK (fun e => ?_); have e := (madeK_2 c23).1 e; omega)
     refine qs 7 ?_
     first | refine Gb (L' := L) (F' := F) Tryz.results101 HZ subA (hT ?_) | refine Gb (L' := L) (F' := F) Tryz.results101 HZ subA (hF ?_)
     first
     | exact made_bare (GW c9) c14 c25 ((madeK_2 c23).2 Jb)
     | exact made_nobare Jb Jb Jb c25
     | (refine made_noK (fun e => ?_); have e := (madeK_2 c23).1 e; omega)
    refine qs 11 ?_
    first | refine Gb (L' := L) (F' := F) Tryz.results101 HZ subA (hT ?_) | refine Gb (L' := L) (F' := F) Tryz.results101 HZ subA (hF ?_)
    first
    | exact made_bare (GW c9) c14 c25 ((madeK_2 c23).2 Jb)
    | exact made_nobare Jb Jb Jb c25
    | (refine made_noK (fun e => ?_); have e := (madeK_2 c23).1 e; omega)
   refine qs 15 ?_
   first | refine Gb (L' := L) (F' := F) Tryz.results101 HZ subA (hT ?_) | refine Gb (L' := L) (F' := F) Tryz.results101 HZ subA (hF ?_)
   first
   | exact made_bare (GW c9) c14 c25 ((madeK_2 c23).2 Jb)
   | exact made_nobare Jb Jb Jb c25
   | (refine made_noK (fun e => ?_); have e := (madeK_2 c23).1 e; omega)
  refine qs 6 ?_
  refine Ga (Gr HZ HZ HZ (fun c36 => ?_) (fun c36 => ?_))
  ·refine qs 7 ?_
   refine Ga (Ge HZ HZ (bare_c t memA (fun c38 => ?_) (fun c38 => ?_)))
   ·refine qs 3 ?_
    refine Gc HZ HZ (GY HZ HZ HZ (fun c42 => ?_) (fun c42 => ?_))
    ·refine qs 4 ?_
     refine Gc HZ HZ (HG HZ HZ HZ (fun c47 => ?_) (fun c47 => ?_))
     ·refine qs 3 ?_
      refine Gc HZ HZ (Gr HZ HZ HZ (fun c51 => ?_) (fun c51 => ?_))
      ·refine qs 7 ?_
       first | refine Gb (L' := L) (F' := F) Tryz.results101 HZ subA (hT ?_) | refine Gb (L' := L) (F' := F) Tryz.results101 HZ subA (hF ?_)
       first
       | exact made_bare (GW c9) c14 c38 ((madeK_3 c36).2 Jb)
       | exact made_nobare Jb Jb Jb c38
       | (refine made_noK (fun e => ?_); have e := (madeK_3 c36).1 e; omega)
      refine qs 7 ?_
      first | refine Gb (L' := L) (F' := F) Tryz.results101 HZ subA (hT ?_) | refine Gb (L' := L) (F' := F) Tryz.results101 HZ subA (hF ?_)
      first
      | exact made_bare (GW c9) c14 c38 ((madeK_3 c36).2 Jb)
      | exact made_nobare Jb Jb Jb c38
      | (refine made_noK (fun e => ?_); have e := (madeK_3 c36).1 e; omega)
     refine qs 11 ?_
     first | refine Gb (L' := L) (F' := F) Tryz.results101 HZ subA (hT ?_) | refine Gb (L' := L) (F' := F) Tryz.results101 HZ subA (hF ?_)
     first
     | exact made_bare (GW c9) c14 c38 ((madeK_3 c36).2 Jb)
     | exact made_nobare Jb Jb Jb c38
     | (refine made_noK (fun e => ?_); have e := (madeK_3 c36).1 e; omega)
    refine qs 16 ?_
    first | refine Gb (L' := L) (F' := F) Tryz.results101 HZ subA (hT ?_) | refine Gb (L' := L) (F' := F) Tryz.results101 HZ subA (hF ?_)
    first
    | exact made_bare (GW c9) c14 c38 ((madeK_3 c36).2 Jb)
    | exact made_nobare Jb Jb Jb c38
    | (refine made_noK (fun e => ?_); have e := (madeK_3 c36).1 e; omega)
   refine qs 20 ?_
   first | refine Gb (L' := L) (F' := F) Tryz.results101 HZ subA (hT ?_) | refine Gb (L' := L) (F' := F) Tryz.results101 HZ subA (hF ?_)
   first
   | exact made_bare (GW c9) c14 c38 ((madeK_3 c36).2 Jb)
   | exact made_nobare Jb Jb Jb c38
   | (refine made_noK (fun e => ?_); have e := (madeK_3 c36).1 e; omega)
  refine qs 6 ?_
  refine Ga (Gr HZ HZ HZ (fun c54 => ?_) (fun c54 => ?_))
  ·refine qs 7 ?_
   refine Ga (Ge HZ HZ (bare_c t memA (fun c56 => ?_) (fun c56 => ?_)))
   ·refine qs 3 ?_
    refine Gc HZ HZ (Gr HZ HZ HZ (fun c60 => ?_) (fun c60 => ?_))
    ·refine qs 3 ?_
     refine Gc HZ HZ (Gr HZ HZ HZ (fun c64 => ?_) (fun c64 => ?_))
     ·refine qs 7 ?_
      first | refine Gb (L' := L) (F' := F) Tryz.results101 HZ subA (hT ?_) | refine Gb (L' := L) (F' := F) Tryz.results101 HZ subA (hF ?_)
      first
      | exact made_bare (GW c9) c14 c56 ((madeK_4 c54).2 Jb)
      | exact made_nobare Jb Jb Jb c56
      | (refine made_noK (fun e => ?_); have e := (madeK_4 c54).1 e; omega)
     refine qs 7 ?_
     first | refine Gb (L' := L) (F' := F) Tryz.results101 HZ subA (hT ?_) | refine Gb (L' := L) (F' := F) Tryz.results101 HZ subA (hF ?_)
     first
     | exact made_bare (GW c9) c14 c56 ((madeK_4 c54).2 Jb)
     | exact made_nobare Jb Jb Jb c56
     | (refine made_noK (fun e => ?_); have e := (madeK_4 c54).1 e; omega)
    refine qs 11 ?_
    first | refine Gb (L' := L) (F' := F) Tryz.results101 HZ subA (hT ?_) | refine Gb (L' := L) (F' := F) Tryz.results101 HZ subA (hF ?_)
    first
    | exact made_bare (GW c9) c14 c56 ((madeK_4 c54).2 Jb)
    | exact made_nobare Jb Jb Jb c56
    | (refine made_noK (fun e => ?_); have e := (madeK_4 c54).1 e; omega)
   refine qs 15 ?_
   first | refine Gb (L' := L) (F' := F) Tryz.results101 HZ subA (hT ?_) | refine Gb (L' := L) (F' := F) Tryz.results101 HZ subA (hF ?_)
   first
   | exact made_bare (GW c9) c14 c56 ((madeK_4 c54).2 Jb)
   | exact made_nobare Jb Jb Jb c56
   | (refine made_noK (fun e => ?_); have e := (madeK_4 c54).1 e; omega)
  refine qs 6 ?_
  refine Ga (Gr HZ HZ HZ (fun c67 => ?_) (fun c67 => ?_))
  ·refine qs 7 ?_
   refine Ga (Ge HZ HZ (bare_c t memA (fun c69 => ?_) (fun c69 => ?_)))
   ·refine qs 3 ?_
    refine Gc HZ HZ (Gr HZ HZ HZ (fun c73 => ?_) (fun c73 => ?_))
    ·refine qs 16 ?_
     first | refine Gb (L' := L) (F' := F) Tryz.results101 HZ subA (hT ?_) | refine Gb (L' := L) (F' := F) Tryz.results101 HZ subA (hF ?_)
     first
     | exact made_bare (GW c9) c14 c69 ((madeK_5 c67).2 Jb)
     | exact made_nobare Jb Jb Jb c69
     | (refine made_noK (fun e => ?_); have e := (madeK_5 c67).1 e; omega)
    refine qs 3 ?_
    refine Gc HZ HZ (Gr HZ HZ HZ (fun c77 => ?_) (fun c77 => ?_))
    ·refine qs 2 ?_
     refine Gc HZ HZ (Hv HZ HZ HZ (fun c80 => ?_) (fun c80 => ?_))
     ·refine qs 9 ?_
      first | refine Gb (L' := L) (F' := F) Tryz.results101 HZ subA (hT ?_) | refine Gb (L' := L) (F' := F) Tryz.results101 HZ subA (hF ?_)
      first
      | exact made_bare (GW c9) c14 c69 ((madeK_5 c67).2 Jb)
      | exact made_nobare Jb Jb Jb c69
      | (refine made_noK (fun e => ?_); have e := (madeK_5 c67).1 e; omega)
     refine qs 9 ?_
     first | refine Gb (L' := L) (F' := F) Tryz.results101 HZ subA (hT ?_) | refine Gb (L' := L) (F' := F) Tryz.results101 HZ subA (hF ?_)
     first
     | exact made_bare (GW c9) c14 c69 ((madeK_5 c67).2 Jb)
     | exact made_nobare Jb Jb Jb c69
     | (refine made_noK (fun e => ?_); have e := (madeK_5 c67).1 e; omega)
    refine qs 12 ?_
    first | refine Gb (L' := L) (F' := F) Tryz.results101 HZ subA (hT ?_) | refine Gb (L' := L) (F' := F) Tryz.results101 HZ subA (hF ?_)
    first
    | exact made_bare (GW c9) c14 c69 ((madeK_5 c67).2 Jb)
    | exact made_nobare Jb Jb Jb c69
    | (refine made_noK (fun e => ?_); have e := (madeK_5 c67).1 e; omega)
   refine qs 20 ?_
   first | refine Gb (L' := L) (F' := F) Tryz.results101 HZ subA (hT ?_) | refine Gb (L' := L) (F' := F) Tryz.results101 HZ subA (hF ?_)
   first
   | exact made_bare (GW c9) c14 c69 ((madeK_5 c67).2 Jb)
   | exact made_nobare Jb Jb Jb c69
   | (refine made_noK (fun e => ?_); have e := (madeK_5 c67).1 e; omega)
  refine qs 6 ?_
  refine Ga (Gr HZ HZ HZ (fun c85 => ?_) (fun c85 => ?_))
  ·refine qs 7 ?_
   refine Ga (Ge HZ HZ (fields_c t memA memA (fun c87 => ?_) (fun c87 => ?_)))
   ·refine qs 6 ?_
    first | refine Gb (L' := L) (F' := F) Tryz.results101 HZ subA (hT ?_) | refine Gb (L' := L) (F' := F) Tryz.results101 HZ subA (hF ?_)
    first
    | exact ⟨GW c9, by omega, fun _ => c87.2.1, fun h => absurd c85 h, (madeK_6 c85).2 ⟨c87.2.2.1, c87.1, c87.2.2.2⟩⟩
    | exact fun e => c87 ⟨((madeK_6 c85).1 e.2.2.2.2).2.1, e.2.2.1 Jb, ((madeK_6 c85).1 e.2.2.2.2).1, ((madeK_6 c85).1 e.2.2.2.2).2.2⟩
   refine qs 6 ?_
   first | refine Gb (L' := L) (F' := F) Tryz.results101 HZ subA (hT ?_) | refine Gb (L' := L) (F' := F) Tryz.results101 HZ subA (hF ?_)
   first
   | exact ⟨GW c9, by omega, fun _ => c87.2.1, fun h => absurd c85 h, (madeK_6 c85).2 ⟨c87.2.2.1, c87.1, c87.2.2.2⟩⟩
   | exact fun e => c87 ⟨((madeK_6 c85).1 e.2.2.2.2).2.1, e.2.2.1 Jb, ((madeK_6 c85).1 e.2.2.2.2).1, ((madeK_6 c85).1 e.2.2.2.2).2.2⟩
  refine qs 6 ?_
  refine Ga (Gr HZ HZ HZ (fun c89 => ?_) (fun c89 => ?_))
  ·refine qs 8 ?_
   refine Ga (Ge HZ HZ (elems_c l t (GW c9) memA memA memA (fun c92 => ?_) (fun c92 => ?_)))
   ·refine qs 6 ?_
    first | refine Gb (L' := L) (F' := F) Tryz.results101 HZ subA (hT ?_) | refine Gb (L' := L) (F' := F) Tryz.results101 HZ subA (hF ?_)
    first
    | exact ⟨GW c9, by omega, fun _ => c92.2, fun _ h => absurd c89 h, (madeK_7 c89).2 c92.1⟩
    | exact fun e => c92 ⟨(madeK_7 c89).1 e.2.2.2.2, e.2.2.1 Jb⟩
   refine qs 6 ?_
   first | refine Gb (L' := L) (F' := F) Tryz.results101 HZ subA (hT ?_) | refine Gb (L' := L) (F' := F) Tryz.results101 HZ subA (hF ?_)
   first
   | exact ⟨GW c9, by omega, fun _ => c92.2, fun _ h => absurd c89 h, (madeK_7 c89).2 c92.1⟩
   | exact fun e => c92 ⟨(madeK_7 c89).1 e.2.2.2.2, e.2.2.1 Jb⟩
  refine qs 6 ?_
  refine Ga (Gr HZ HZ HZ (fun c94 => ?_) (fun c94 => ?_))
  ·refine qs 8 ?_
   refine Ga (Ge HZ HZ (named_c g t.name Jb (fun c97 => ?_) (fun c97 => ?_)))
   ·refine qs 3 ?_
    refine Gc HZ HZ (Gr HZ HZ HZ (fun c101 => ?_) (fun c101 => ?_))
    ·refine qs 4 ?_
     refine Gc HZ HZ (Gt HZ HZ (fun hl106 => ?_) (hm := by repeat (first | exact mem0 | assumption | refine memS ?_)))
     refine Gc HZ HZ (Gr HZ HZ HZ (fun c107 => ?_) (fun c107 => ?_))
     ·refine qs 7 ?_
      first | refine Gb (L' := L) (F' := F) Tryz.results101 HZ subA (hT ?_) | refine Gb (L' := L) (F' := F) Tryz.results101 HZ subA (hF ?_)
      first
      | exact ⟨GW c9, by omega, fun h => absurd c94 h, fun _ _ => nil_of c107, (madeK_8 c94).2 ⟨c101, c97⟩⟩
      | exact fun e => c97 ((madeK_8 c94).1 e.2.2.2.2).2
      | exact fun e => c101 ((madeK_8 c94).1 e.2.2.2.2).1
      | exact fun e => c107 (by rw [e.2.2.2.1 Jb Jb]; rfl)
     refine qs 7 ?_
     first | refine Gb (L' := L) (F' := F) Tryz.results101 HZ subA (hT ?_) | refine Gb (L' := L) (F' := F) Tryz.results101 HZ subA (hF ?_)
     first
     | exact ⟨GW c9, by omega, fun h => absurd c94 h, fun _ _ => nil_of c107, (madeK_8 c94).2 ⟨c101, c97⟩⟩
     | exact fun e => c97 ((madeK_8 c94).1 e.2.2.2.2).2
     | exact fun e => c101 ((madeK_8 c94).1 e.2.2.2.2).1
     | exact fun e => c107 (by rw [e.2.2.2.1 Jb Jb]; rfl)
    refine qs 13 ?_
    first | refine Gb (L' := L) (F' := F) Tryz.results101 HZ subA (hT ?_) | refine Gb (L' := L) (F' := F) Tryz.results101 HZ subA (hF ?_)
    first
    | exact ⟨GW c9, by omega, fun h => absurd c94 h, fun _ _ => nil_of c107, (madeK_8 c94).2 ⟨c101, c97⟩⟩
    | exact fun e => c97 ((madeK_8 c94).1 e.2.2.2.2).2
    | exact fun e => c101 ((madeK_8 c94).1 e.2.2.2.2).1
    | exact fun e => c107 (by rw [e.2.2.2.1 Jb Jb]; rfl)
   refine qs 17 ?_
   first | refine Gb (L' := L) (F' := F) Tryz.results101 HZ subA (hT ?_) | refine Gb (L' := L) (F' := F) Tryz.results101 HZ subA (hF ?_)
   first
   | exact ⟨GW c9, by omega, fun h => absurd c94 h, fun _ _ => nil_of c107, (madeK_8 c94).2 ⟨c101, c97⟩⟩
   | exact fun e => c97 ((madeK_8 c94).1 e.2.2.2.2).2
   | exact fun e => c101 ((madeK_8 c94).1 e.2.2.2.2).1
   | exact fun e => c107 (by rw [e.2.2.2.1 Jb Jb]; rfl)
  refine qs 6 ?_
  refine Ga (Gr HZ HZ HZ (fun c110 => ?_) (fun c110 => ?_))
  ·refine qs 7 ?_
   refine Ga (Ge HZ HZ (bare_c t memA (fun c112 => ?_) (fun c112 => ?_)))
   ·refine qs 3 ?_
    refine Gc HZ HZ (GY HZ HZ HZ (fun c116 => ?_) (fun c116 => ?_))
    ·refine qs 4 ?_
     refine Gc HZ HZ (Gw HZ HZ HZ (fun c121 => ?_) (fun c121 => ?_))
     ·refine qs 3 ?_
      refine Gc HZ HZ (Gr HZ HZ HZ (fun c125 => ?_) (fun c125 => ?_))
      ·refine qs 7 ?_
       first | refine Gb (L' := L) (F' := F) Tryz.results101 HZ subA (hT ?_) | refine Gb (L' := L) (F' := F) Tryz.results101 HZ subA (hF ?_)
       first
       | exact made_bare (GW c9) c14 c112 ((madeK_9 c110).2 Jb)
       | exact made_nobare Jb Jb Jb c112
       | (refine made_noK (fun e => ?_); have e := (madeK_9 c110).1 e; omega)
      refine qs 7 ?_
      first | refine Gb (L' := L) (F' := F) Tryz.results101 HZ subA (hT ?_) | refine Gb (L' := L) (F' := F) Tryz.results101 HZ subA (hF ?_)
      first
      | exact made_bare (GW c9) c14 c112 ((madeK_9 c110).2 Jb)
      | exact made_nobare Jb Jb Jb c112
      | (refine made_noK (fun e => ?_); have e := (madeK_9 c110).1 e; omega)
     refine qs 11 ?_
     first | refine Gb (L' := L) (F' := F) Tryz.results101 HZ subA (hT ?_) | refine Gb (L' := L) (F' := F) Tryz.results101 HZ subA (hF ?_)
     first
     | exact made_bare (GW c9) c14 c112 ((madeK_9 c110).2 Jb)
     | exact made_nobare Jb Jb Jb c112
     | (refine made_noK (fun e => ?_); have e := (madeK_9 c110).1 e; omega)
    refine qs 16 ?_
    first | refine Gb (L' := L) (F' := F) Tryz.results101 HZ subA (hT ?_) | refine Gb (L' := L) (F' := F) Tryz.results101 HZ subA (hF ?_)
    first
    | exact made_bare (GW c9) c14 c112 ((madeK_9 c110).2 Jb)
    | exact made_nobare Jb Jb Jb c112
    | (refine made_noK (fun e => ?_); have e := (madeK_9 c110).1 e; omega)
   refine qs 20 ?_
   first | refine Gb (L' := L) (F' := F) Tryz.results101 HZ subA (hT ?_) | refine Gb (L' := L) (F' := F) Tryz.results101 HZ subA (hF ?_)
   first
   | exact made_bare (GW c9) c14 c112 ((madeK_9 c110).2 Jb)
   | exact made_nobare Jb Jb Jb c112
   | (refine made_noK (fun e => ?_); have e := (madeK_9 c110).1 e; omega)
  refine qs 13 ?_
  first | refine Gb (L' := L) (F' := F) Tryz.results101 HZ subA (hT ?_) | refine Gb (L' := L) (F' := F) Tryz.results101 HZ subA (hF ?_)
  first
  | exact made_nokids c9
  | exact made_long c14
  | exact made_noK (madeK_no c22 c23 c36 c54 c67 c85 c89 c94 c110)
end
end Go.Sy
namespace Go.Sy
abbrev GV := @made_noK
abbrev HY := @madeK_6
end Go.Sy
namespace Go.Sy
open Go Go.Proofs Go.RowKit
theorem isAgg_int {P : Program} {t : TypeId} {k : IntKind} (w : World) (h : P.underlying t = some (.int k)) : (isAgg t).run P w = .ok false w := by simp [isAgg, run_underlying h]
theorem isAgg_str {P : Program} {t : TypeId} (w : World) (h : P.underlying t = some .string) : (isAgg t).run P w = .ok false w := by simp [isAgg, run_underlying h]
theorem part_get {P : Program} {t : TypeId} {cs : Array Value} {off : Nat} {v : Value} (w : World) (h : (isAgg t).run P w = .ok false w) (hv : cs[off]? = some v) : (part t cs off).run P w = .ok v w := by
  simp [part, h, hv, Result.andThen]
theorem S_eq (x y : List UInt8) : ((⟨x.toArray⟩ : ByteArray).toList == (⟨y.toArray⟩ : ByteArray).toList) = (x == y) := by rw [S_toList, S_toList]
def keyB (x y : Key) : Bool := x.kind == y.kind && (x.n == y.n && (x.name == y.name && (x.words == y.words && (x.kids == y.kids && x.lengths == y.lengths))))
theorem keyB_iff (x y : Key) : keyB x y = true ↔ x = y := by
  cases x; cases y; simp [keyB]
theorem eqF_step {P : Program} {w : World} {d : Nat} {xs ys : Array Value} {f : Field} {fs : List Field} {a b : Value} {r s : Bool} (hn : (f.name != "_") = true) (ha : (part f.type xs f.offset).run P w = .ok a w) (hb : (part f.type ys f.offset).run P w = .ok b w)
    (hr : (Op.equalIn d f.type a b).run P w = .ok r w) (hs : (Op.eqFields d xs ys fs).run P w = .ok s w) : (Op.eqFields d xs ys (f :: fs)).run P w = .ok (r && s) w := by
  have hn' : f.name ≠ "_" := by simpa using hn
  rw [Op.eqFields, if_pos hn']
  simp only [Sem.run_bind, ha, hb, hr, Result.andThen]
  cases r
  · simp
  simpa using hs
theorem key_equalIn (x y : Key) (w : World) : (Op.equalIn 10000 163 (vKey x) (vKey y)).run Tryz.prog w = .ok (keyB x y) w := by
  have hu : Tryz.prog.underlying 163 = some (.struct (Tryz.prog.fieldsOf 163)) := by rw [Program.fieldsOf, Tryz.underlying163]
  have hp : Tryz.prog.stoodInHeld 163 = false := by decide +kernel
  rw [show (10000 : Nat) = 9998 + 1 + 1 from rfl, run_equalIn_struct w (9998 + 1) _ _ _ hu hp]
  rw [Program.fieldsOf, Tryz.underlying163]
  have hi := Tryz.underlying3
  have hs := Tryz.underlying9
  refine eqF_step HZ (part_get w (isAgg_int w hi) HZ) (part_get w (isAgg_int w hi) HZ) (run_equalIn_int w _ _ _ _ _ _ hi) ?_
  refine eqF_step HZ (part_get w (isAgg_int w hi) HZ) (part_get w (isAgg_int w hi) HZ) (run_equalIn_int w _ _ _ _ _ _ hi) ?_
  refine eqF_step HZ (part_get w (isAgg_str w hs) HZ) (part_get w (isAgg_str w hs) HZ) ((run_equalIn_string w _ _ _ _ hs).trans (by rw [S_eq])) ?_
  refine eqF_step HZ (part_get w (isAgg_str w hs) HZ) (part_get w (isAgg_str w hs) HZ) ((run_equalIn_string w _ _ _ _ hs).trans (by rw [S_eq])) ?_
  refine eqF_step HZ (part_get w (isAgg_str w hs) HZ) (part_get w (isAgg_str w hs) HZ) ((run_equalIn_string w _ _ _ _ hs).trans (by rw [S_eq])) ?_
  have := eqF_step (P := Tryz.prog) (w := w) (d := 9998 + 1) (xs := #[.int .i64 x.kind, .int .i64 x.n, S x.name, S x.words, S x.kids, S x.lengths]) (ys := #[.int .i64 y.kind, .int .i64 y.n, S y.name, S y.words, S y.kids, S y.lengths]) (fs := []) (f := ⟨ "lengths", 9, 5, false, "", "indenture/typ", 72⟩) rfl (part_get w (isAgg_str w hs) rfl) (part_get w (isAgg_str w hs) rfl) ((run_equalIn_string w _ _ _ _ hs).trans (by rw [S_eq])) (s := true) (by rw [Op.eqFields]; rfl)
  rw [Bool.and_true] at this
  exact this
theorem vKey_inj (x y : Key) (h : vKey x = vKey y) : x = y := by
  cases x; cases y
  injection h with h
  have h := congrArg Array.toList h
  simp only [List.cons.injEq, Value.int.injEq, true_and, and_true] at h
  obtain ⟨h1, h2, h3, h4, h5, h6⟩ := h
  injection h3 with h3; injection h4 with h4; injection h5 with h5; injection h6 with h6
  rw [h1, h2, S_inj h3, S_inj h4, S_inj h5, S_inj h6]
theorem same_str (n : Nat) (x : List UInt8) : Instr.sameBits (n + 1) (S x) (S x) = true := by
  show ((⟨x.toArray⟩ : ByteArray) == ⟨x.toArray⟩) = true
  rw [S_beq]; simp
theorem same_int (n : Nat) (x : Int) : Instr.sameBits (n + 1) (.int .i64 x) (.int .i64 x) = true := by
  show (IntKind.i64 == IntKind.i64 && x == x) = true
  simp
instance : KyT Tryz.prog 163 vKey := by
  refine KyT.ask Tryz.underlying163 (fun x y w => ⟨keyB x y, ?_, keyB_iff x y⟩) vKey_inj (fun em x w => ?_) (fun x => ?_)
  · exact key_equalIn x y w
  · have hi := Tryz.underlying3
    have hs := Tryz.underlying9
    rw [show (10000 : Nat) = 9998 + 1 + 1 from rfl, Instr.checkKey]
    have p1 := fun (off : Nat) (v : Value) (hv : (#[Value.int .i64 x.kind, .int .i64 x.n, S x.name, S x.words, S x.kids, S x.lengths])[off]? = some v) => part_get (P := Tryz.prog) w (isAgg_int w hi) hv
    have p2 := fun (off : Nat) (v : Value) (hv : (#[Value.int .i64 x.kind, .int .i64 x.n, S x.name, S x.words, S x.kids, S x.lengths])[off]? = some v) => part_get (P := Tryz.prog) w (isAgg_str w hs) hv
    have c1 : ∀ v, (Instr.checkKey em (9998 + 1) 3 v).run Tryz.prog w = .ok () w := by intro v; rw [Instr.checkKey]; simp [run_underlying hi]
    have c2 : ∀ v, (Instr.checkKey em (9998 + 1) 9 v).run Tryz.prog w = .ok () w := by intro v; rw [Instr.checkKey]; simp [run_underlying hs]
    simp only [Sem.run_bind, run_underlying Tryz.underlying163, Result.andThen_ok]
    simp [p1 0 _ rfl, p1 1 _ rfl, p2 2 _ rfl, p2 3 _ rfl, p2 4 _ rfl, p2 5 _ rfl, c1, c2, Result.andThen]
  rw [show (10000 : Nat) = 9998 + 1 + 1 from rfl, Instr.sameBits]
  simp [same_str, same_int]
theorem key_guard : Tryz.prog.eqGuardType Tryz.prog.depth 163 = false := by decide +kernel
end Go.Sy
namespace Go.Sy
open Go Go.Proofs Go.RowKit
theorem start_len : startL.length = 22 := by decide
theorem names_len : startNames.length = 20 := by decide
theorem basic_step {q : Nat} (hq : q < startNames.length) : (startNames.take q).map basicT ++ [basicT startNames[q]] = (startNames.take (q + 1)).map basicT := by
  rw [List.take_succ_eq_append_getElem hq, List.map_append]; rfl
theorem start_ok : ∀ t ∈ startL, TyOk t := by
  have h1 : ∀ t ∈ startL, -9223372036854775808 ≤ t.kind ∧ t.kind ≤ 9223372036854775807 := by decide
  have h2 : ∀ t ∈ startL, -9223372036854775808 ≤ t.n ∧ t.n ≤ 9223372036854775807 := by decide
  have h3 : ∀ t ∈ startL, t.name.length ≤ 60 := by decide
  have h4 : ∀ t ∈ startL, t.words = [] := by decide
  have h5 : ∀ t ∈ startL, t.kids = [] := by decide
  intro t ht
  refine ⟨h1 t ht, h2 t ht, h3 t ht, by rw [h4 t ht]; decide, by rw [h4 t ht]; simp, by rw [h5 t ht]; decide, by rw [h5 t ht]; simp⟩
theorem start_get {q : Nat} (hq : q < startL.length) : startL.getD q (basicT []) = startL[q] := by simp [List.getD, List.getElem?_eq_getElem hq]
theorem cells_S {F : List Fact} : ∀ (l : List (List UInt8)), Cells F (l.map S) (l.map eS).flatten
  | [] => .nil
  | _ :: l => .val (cells_S l)
def SeenK (l : List Ty) (q : Nat) (m : Key → Option Bool) : Prop := ∀ x, m x = some true ↔ ∃ t ∈ l.take q, keyT t = x
theorem SeenK.zero (l : List Ty) : SeenK l 0 (fun _ => none) := fun x => ⟨fun h => by simp at h, fun ⟨t, h, _⟩ => by simp at h⟩
theorem SeenK.step {l : List Ty} {q : Nat} {m : Key → Option Bool} (h : SeenK l q m) (hq : q < l.length) : SeenK l (q + 1) (upd m (keyT l[q]) true) := by
  intro x
  rw [List.take_succ_eq_append_getElem hq]
  by_cases hx : x = keyT l[q]
  · subst hx
    rw [upd_self]
    exact ⟨fun _ => ⟨l[q], List.mem_append_right _ (by simp), rfl⟩, fun _ => rfl⟩
  rw [upd_ne _ hx, h x]
  constructor
  · rintro ⟨t, h1, h2⟩; exact ⟨t, List.mem_append_left _ h1, h2⟩
  rintro ⟨t, h1, h2⟩
  rcases List.mem_append.1 h1 with k | k
  · exact ⟨t, k, h2⟩
  have : t = l[q] := by simpa using k
  subst this; exact absurd h2.symm hx
theorem SeenK.yes {l : List Ty} {q : Nat} {m : Key → Option Bool} (h : SeenK l q m) {t : Ty} (hm : m (keyT t) = some true) : t ∈ l.take q := by
  obtain ⟨u, h1, h2⟩ := (h _).1 hm
  rwa [key_inj h2] at h1
theorem SeenK.no {l : List Ty} {q : Nat} {m : Key → Option Bool} (h : SeenK l q m) {t : Ty} (hm : m (keyT t) ≠ some true) : t ∉ l.take q := fun hk => hm ((h _).2 ⟨t, hk, rfl⟩)
theorem row_ne {l : List Ty} (e : rightP l) {q : Nat} (hq : q < l.length) (h8 : q < startL.length) (hc : (!keyB (keyT l[q]) (keyT startL[q])) = true) : False := by
  have h := e.2.2 q hq
  have hsl := start_len
  unfold rowAt at h
  rw [if_pos Jb, start_get h8] at h
  rw [h, (keyB_iff _ _).2 rfl] at hc
  exact absurd hc (by decide)
theorem row_eq {l : List Ty} {q : Nat} (hq : q < l.length) (h8 : q < startL.length) (hc : (!keyB (keyT l[q]) (keyT startL[q])) = false) : rowAt l q hq := by
  have hsl := start_len
  unfold rowAt
  rw [if_pos Jb, start_get h8]
  have : keyB (keyT l[q]) (keyT startL[q]) = true := by simpa using hc
  exact key_inj ((keyB_iff _ _).1 this)
theorem row_made {l : List Ty} {q : Nat} (hq : q < l.length) (h : ¬ q < 22) (h1 : madeP (l.take q) l[q]) (h2 : l[q] ∉ l.take q) : rowAt l q hq := by
  unfold rowAt; rw [if_neg h]; exact ⟨h1, h2⟩
theorem row_nomade {l : List Ty} (e : rightP l) {q : Nat} (hq : q < l.length) (h : ¬ q < 22) (h1 : ¬ madeP (l.take q) l[q]) : False := by
  have h2 := e.2.2 q hq
  unfold rowAt at h2; rw [if_neg h] at h2; exact h1 h2.1
theorem rows_step {l : List Ty} {q : Nat} (hr : ∀ j (hj : j < l.length), j < q → rowAt l j hj) (hq : q < l.length) (h : rowAt l q hq) : ∀ j (hj : j < l.length), j < q + 1 → rowAt l j hj := by
  intro j hj hjq
  rcases Nat.lt_succ_iff_lt_or_eq.1 hjq with k | rfl
  · exact hr j hj k
  exact h
attribute [local irreducible] AC AT AO AK AH ACalls Sub Res.cells Res.obj Res.nix Res.own Res.map Exit.then Exit.inBlock bodyPost Code.wp Code.wpIn WL Next Post Kont
section
variable {W0 : World} {L : List Res} {F : List Fact} {R : Value → List Res → List Fact → Prop}
theorem Y.neqK {n : Nat} {ρ : Rho} {T : World → Prop} {a b : Key} {x y : Operand} {d : Option Tmp} {yt ty : TypeId} {pos : String} {af : Array Edge} {g : Option (Nat × Bool)} (hx : ev ρ x = some (vKey a)) (hy : ev ρ y = some (vKey b)) : Yd Tryz.prog n ρ T ⟨d, .binOp .neq 163 x y yt, ty, pos, af, g⟩ (.bool (!keyB a b)) := ⟨fun s w st _ => by
  simp only [execOp, GQ st hx, GQ st hy, Sem.run_bind, run_eqGuard_agg w _ _ _ _ _ _ key_guard, run_neq_struct, key_equalIn, Result.andThen, Sem.run_pure]⟩
set_option maxRecDepth 100000
set_option maxHeartbeats 4000000
theorem start_c (h : ∀ a k c, R (.slice a k c) L (fL startL a k c :: F)) : ACalls Tryz.prog W0 99 #[] L F R := by
  refine Gg Tryz.func99 HZ Tryz.ntmps99 HZ ?_
  refine qs 13 ?_
  refine Ga (Gl HZ HZ HZ HZ HZ (fun b4 => ?_))
  refine GH (GI (Hg (i := 0) (enc := eS) (sz := 1) startNames HZ (cells_S startNames) (fun _ => rfl) HZ (by decide)) (Sub.drop.trans (Hr (sz := 1)))) ?_
  refine Ga (Gt HZ HZ (fun hl5 => ?_) (hm := by repeat (first | exact mem0 | assumption | refine memS ?_)))
  refine qs 4 ?_
  refine GB (fun (i : Nat × Option Addr × Nat × Nat) => i.1 ≤ startNames.length) (fun i => [(1, .slice i.2.1 i.2.2.1 i.2.2.2), (4, .slice (some ⟨b4, 0, none⟩) 20 20), (5, .int .i64 startNames.length), (6, .int .i64 (i.1 : Int))]) (fun i => Res.own (.slice i.2.1 i.2.2.1 i.2.2.2) 29 5 (((startNames.take i.1).map basicT).map eTy) :: L) (fun _ => _) (fun i => startNames.length - i.1) (0, none, 0, 0) (by simp) srA GZ ?_
  rintro ⟨q, a1, k1, c1⟩ hq
  simp only at hq ⊢
  refine qs 2 ?_
  refine Ga (Gw HZ HZ HZ (fun c7 => ?_) (fun c7 => ?_))
  ·refine qs 10 ?_
   have hql : q < startNames.length := by omega
   have hnl := names_len
   have htl : ((startNames.take q).map basicT).length = q := by simp; omega
   refine Ga (Gd HZ HZ HZ HZ memA hql (fun _ _ => ?_))
   refine Ga (Gs HZ HZ ?_)
   intros
   refine qs 6 ?_
   refine Ga (GO HZ HZ HZ ?_)
   refine Ga (Gl HZ HZ HZ HZ HZ (fun b13 => ?_))
   refine Ga (GJ (i := 0) (enc := eTy) (lst := (startNames.take q).map basicT) [basicT startNames[q]] HZ HZ HZ HZ (.val (.val (.val (.slc (.slc .nil memA) memA)))) HZ HZ (fun _ => rfl) (by rw [htl]; simp [maxLen]; omega) (by rw [htl]; omega) (fun a14 k14 c14 => ?_))
   rw [basic_step hql]
   refine qs 8 ?_
   refine Gk (q + 1, a14, k14, c14) (by simp only; omega) (by simp only; omega) srA subF
  refine qs 11 ?_
  refine Ga (HV HZ HZ ?_)
  have hall : startNames.take q = startNames := List.take_of_length_le Jb
  rw [hall]
  refine Ga (GO HZ HZ HZ (Ga (GO HZ HZ HZ ?_)))
  refine Ga (Gl HZ HZ HZ HZ HZ (fun b19 => ?_))
  refine Ga (GJ (i := 0) (enc := eTy) (lst := startNames.map basicT) [⟨7, [], 0, [], []⟩, ⟨7, [], 1, [], []⟩] HZ HZ HZ HZ (.val (.val (.val (.slc (.slc (.val (.val (.val (.slc (.slc .nil memA) memA)))) memA) memA)))) HZ HZ (fun _ => rfl) (by decide) (by decide) (fun a20 k20 c20 => ?_))
  refine qs 4 ?_
  refine Gb (L' := L) (F' := fL startL a20 k20 c20 :: F) Tryz.results99 HZ ?_ (h _ _ _)
  exact (Gz (i := 0) rfl).trans (Sub.drop.trans (GX (fun x hx => by repeat (first | exact hx | refine List.mem_cons_of_mem _ ?_))))
theorem right_c (g : Glob W0) (l : List Ty) (hok : ∀ t ∈ l, TyOk t) {a : Option Addr} {k c : Nat} (m1 : fL l a k c ∈ F) (hT : rightP l → R (.bool true) L F) (hF : ¬ rightP l → R (.bool false) L F) : ACalls Tryz.prog W0 41 #[.slice a k c] L F R := by
  refine Gg Tryz.func41 HZ Tryz.ntmps41 HZ ?_
  refine qs 7 ?_
  refine Ga (Ge HZ HZ (start_c (fun a8 k8 c8 => ?_)))
  have hsl := start_len
  refine qs 7 ?_
  refine Ga (Gt HZ HZ (fun hl10 => ?_) (hm := by repeat (first | exact mem0 | assumption | refine memS ?_)))
  refine Ga (Hv HZ HZ HZ (fun c11 => ?_) (fun c11 => ?_))
  ·refine qs 17 ?_
   first | refine Gb (L' := L) (F' := F) Tryz.results41 HZ subA (hT ?_) | refine Gb (L' := L) (F' := F) Tryz.results41 HZ subA (hF ?_)
   first
   | exact fun e => absurd e.2.1 Jb
   | exact fun e => absurd e.1 Jb
   | exact fun e => row_ne e hql hq8 c40
   | exact fun e => row_nomade e hql Jb c52
   | exact fun e => Hy e q hql (hseen.yes c59)
   | exact ⟨by omega, by omega, fun i hi => hrow i hi Jb⟩
  refine qs 2 ?_
  refine Gc HZ HZ (Gt HZ HZ (fun hl14 => ?_) (hm := by repeat (first | exact mem0 | assumption | refine memS ?_)))
  refine qs 1 ?_
  refine Gc HZ HZ (Gt HZ HZ (fun hl16 => ?_) (hm := by repeat (first | exact mem0 | assumption | refine memS ?_)))
  refine Gc HZ HZ (Gw HZ HZ HZ (fun c17 => ?_) (fun c17 => ?_))
  ·refine qs 11 ?_
   first | refine Gb (L' := L) (F' := F) Tryz.results41 HZ subA (hT ?_) | refine Gb (L' := L) (F' := F) Tryz.results41 HZ subA (hF ?_)
   first
   | exact fun e => absurd e.2.1 Jb
   | exact fun e => absurd e.1 Jb
   | exact fun e => row_ne e hql hq8 c40
   | exact fun e => row_nomade e hql Jb c52
   | exact fun e => Hy e q hql (hseen.yes c59)
   | exact ⟨by omega, by omega, fun i hi => hrow i hi Jb⟩
  refine qs 8 ?_
  refine Ga (AO.makeMap vKey Value.bool HZ (fun b19 => ?_))
  refine qs 7 ?_
  refine Ga (Gt HZ HZ (fun hl21 => ?_) (hm := by repeat (first | exact mem0 | assumption | refine memS ?_)))
  refine qs 4 ?_
  refine GB (fun (i : Nat × (Key → Option Bool)) => i.1 ≤ l.length ∧ SeenK l i.1 i.2 ∧ ∀ j (hj : j < l.length), j < i.1 → rowAt l j hj) (fun i => [(0, .slice a k c), (3, .slice a8 k8 c8), (4, .map (some b19)), (20, .slice a k c), (21, .int .i64 l.length), (22, .int .i64 (i.1 : Int))]) (fun i => Res.map b19 vKey Value.bool i.2 :: _) (fun _ => fL startL a8 k8 c8 :: F) (fun i => l.length - i.1) (0, fun _ => none) ⟨by omega, SeenK.zero _, by omega⟩ srA (Gf _ _) ?_
  rintro ⟨q, m⟩ ⟨hq, hseen, hrow⟩
  simp only at hq hseen hrow ⊢
  refine qs 2 ?_
  refine Ga (Gw HZ HZ HZ (fun c23 => ?_) (fun c23 => ?_))
  ·refine qs 11 ?_
   have hql : q < l.length := by omega
   refine Ga (Gd HZ HZ HZ HZ memA hql (fun _ _ => ?_))
   refine Ga (GN HZ HZ ?_)
   intro a26 k26 z26 d26 e26 f26
   refine Ga (Gj HZ (fun b6 => ?_))
   refine qs 7 ?_
   refine Ga (Ge HZ HZ (keyOf_c g l[q] (hok _ (List.getElem_mem hql)).up memA memA ?_))
   refine Ga (Gj HZ (fun b7 => ?_))
   refine qs 5 ?_
   refine GP (fun _ => false) [(b6, _, _), (b7, _, _)] bxA HZ (fun hx hX => ?_)
   have hll := (Gu (hX (fL l a k c) memA)).1
   have hlc := (Gu (hX (fL l a k c) memA)).2
   have hl8 := (Gu (hX (fL startL a8 k8 c8) memA)).1
   refine qt [0, 1] ?_
   refine GD (i := 2) HZ (Y.lenV HZ) Ja HZ HZ ?_
   refine Hf (i := 3) HZ (Y.lss HZ HZ) Ja HZ HZ (fun c32 => ?_) (fun c32 => ?_)
   ·replace c32 := of_decide_eq_true c32
    refine qt [4, 5, 6, 7] ?_
    have hq8 : q < startL.length := by omega
    obtain ⟨p1, o1, rfl, at1⟩ := GA (hX (fL startL a8 k8 c8) memA) hq8
    obtain ⟨w1, x1, y1, w2, x2, y2, hv1, hw1, hw2⟩ := ty_cells at1
    refine Hx hw1 memA (Hx hw2 memA ?_)
    refine GD (i := 8) HZ (GE HZ HZ HZ Jb) Ja HZ HZ ?_
    refine GR (i := 9) HZ (HN HZ HZ hv1) Ja Ja HZ HZ HZ ?_
    refine Gm (i := 10) Ja HZ HZ (fun _ => ?_)
    refine Ge HZ HZ (keyOf_c g startL[q] (start_ok _ (List.getElem_mem hq8)).up memA memA ?_)
    refine Gi bxA memB ?_
    refine Hf (i := 11) HZ (Y.neqK HZ HZ) Ja HZ HZ (fun c40 => ?_) (fun c40 => ?_)
    ·refine qt [12, 13, 14, 15, 16, 17, 18, 19, 20, 21, 22, 23, 24, 25, 26, 27, 28, 29, 30, 31] ?_
     refine Gq Ja ?_
     refine qs 14 ?_
     first | refine Gb (L' := L) (F' := F) Tryz.results41 HZ subA (hT ?_) | refine Gb (L' := L) (F' := F) Tryz.results41 HZ subA (hF ?_)
     first
     | exact fun e => absurd e.2.1 Jb
     | exact fun e => absurd e.1 Jb
     | exact fun e => row_ne e hql hq8 c40
     | exact fun e => row_nomade e hql Jb c52
     | exact fun e => Hy e q hql (hseen.yes c59)
     | exact ⟨by omega, by omega, fun i hi => hrow i hi Jb⟩
    refine qt [12, 13, 14, 15, 16] ?_
    refine Hf (i := 17) HZ (Y.geq HZ HZ) Ja HZ HZ (fun c46 => absurd (of_decide_eq_true c46) Jb) (fun c46 => ?_)
    refine qt [18, 19, 20, 21, 22, 23, 24, 25, 26, 27, 28, 29] ?_
    refine Gm (i := 30) Ja HZ HZ (fun _ => ?_)
    refine AO.lookupB (kenc := vKey) (m := m) (i := 2) (keyT l[q]) HZ HZ HZ (by rfl) (fun c59 => ?_) (fun c59 => ?_)
    all_goals refine Gi bxA memB ?_
    ·refine qt [31] ?_
     refine Gq Ja ?_
     refine qs 14 ?_
     first | refine Gb (L' := L) (F' := F) Tryz.results41 HZ subA (hT ?_) | refine Gb (L' := L) (F' := F) Tryz.results41 HZ subA (hF ?_)
     first
     | exact fun e => absurd e.2.1 Jb
     | exact fun e => absurd e.1 Jb
     | exact fun e => row_ne e hql hq8 c40
     | exact fun e => row_nomade e hql Jb c52
     | exact fun e => Hy e q hql (hseen.yes c59)
     | exact ⟨by omega, by omega, fun i hi => hrow i hi Jb⟩
    refine qt [31] ?_
    refine Gq Ja ?_
    refine qs 7 ?_
    refine Ga (Hu (kenc := vKey) (venc := Value.bool) (m := m) (i := 2) (keyT l[q]) true HZ HZ HZ (by rfl) ?_)
    refine qs 7 ?_
    first | refine Gk (q + 1, upd m (keyT l[q]) true) ⟨by simp only; omega, hseen.step hql, rows_step hrow hql (row_eq hql hq8 c40)⟩ (by simp only; omega) srA (Sub.drop.trans (Sub.drop.trans subF)) | refine Gk (q + 1, upd m (keyT l[q]) true) ⟨by simp only; omega, hseen.step hql, rows_step hrow hql (row_made hql Jb c52 (hseen.no c59))⟩ (by simp only; omega) srA (Sub.drop.trans (Sub.drop.trans subF))
   replace c32 := of_decide_eq_false c32
   refine qt [4, 5, 6, 7, 8, 9, 10, 11, 12, 13, 14, 15, 16] ?_
   refine Hf (i := 17) HZ (Y.geq HZ HZ) Ja HZ HZ (fun c46 => ?_) (fun c46 => absurd (of_decide_eq_false c46) Jb)
   refine qt [18, 19, 20] ?_
   refine AH.weak (Sub.part (enc := eTy) (lst := l) 0 q c (show fL l a k c ∈ _ from memA) Jb Jb Jb Jb) ?_
   refine GD (i := 21) HZ (Y.sliceH HZ HZ HZ Jb) Ja HZ HZ ?_
   refine qt [22] ?_
   refine Gm (i := 23) Ja HZ HZ (fun _ => ?_)
   refine Ge HZ HZ (made_c g (l.take q) l[q] (hok _ (List.getElem_mem hql)).up memA memA memA (fun c52 => ?_) (fun c52 => ?_))
   all_goals refine Gi bxA memB ?_
   ·refine qt [24, 25, 26, 27, 28, 29] ?_
    refine Gm (i := 30) Ja HZ HZ (fun _ => ?_)
    refine AO.lookupB (kenc := vKey) (m := m) (i := 2) (keyT l[q]) HZ HZ HZ (by rfl) (fun c59 => ?_) (fun c59 => ?_)
    all_goals refine Gi bxA memB ?_
    ·refine qt [31] ?_
     refine Gq Ja ?_
     refine qs 14 ?_
     first | refine Gb (L' := L) (F' := F) Tryz.results41 HZ subA (hT ?_) | refine Gb (L' := L) (F' := F) Tryz.results41 HZ subA (hF ?_)
     first
     | exact fun e => absurd e.2.1 Jb
     | exact fun e => absurd e.1 Jb
     | exact fun e => row_ne e hql hq8 c40
     | exact fun e => row_nomade e hql Jb c52
     | exact fun e => Hy e q hql (hseen.yes c59)
     | exact ⟨by omega, by omega, fun i hi => hrow i hi Jb⟩
    refine qt [31] ?_
    refine Gq Ja ?_
    refine qs 7 ?_
    refine Ga (Hu (kenc := vKey) (venc := Value.bool) (m := m) (i := 2) (keyT l[q]) true HZ HZ HZ (by rfl) ?_)
    refine qs 7 ?_
    first | refine Gk (q + 1, upd m (keyT l[q]) true) ⟨by simp only; omega, hseen.step hql, rows_step hrow hql (row_eq hql hq8 c40)⟩ (by simp only; omega) srA (Sub.drop.trans (Sub.drop.trans subF)) | refine Gk (q + 1, upd m (keyT l[q]) true) ⟨by simp only; omega, hseen.step hql, rows_step hrow hql (row_made hql Jb c52 (hseen.no c59))⟩ (by simp only; omega) srA (Sub.drop.trans (Sub.drop.trans subF))
   refine qt [24, 25, 26, 27, 28, 29, 30, 31] ?_
   refine Gq Ja ?_
   refine qs 14 ?_
   first | refine Gb (L' := L) (F' := F) Tryz.results41 HZ subA (hT ?_) | refine Gb (L' := L) (F' := F) Tryz.results41 HZ subA (hF ?_)
   first
   | exact fun e => absurd e.2.1 Jb
   | exact fun e => absurd e.1 Jb
   | exact fun e => row_ne e hql hq8 c40
   | exact fun e => row_nomade e hql Jb c52
   | exact fun e => Hy e q hql (hseen.yes c59)
   | exact ⟨by omega, by omega, fun i hi => hrow i hi Jb⟩
  refine qs 15 ?_
  first | refine Gb (L' := L) (F' := F) Tryz.results41 HZ subA (hT ?_) | refine Gb (L' := L) (F' := F) Tryz.results41 HZ subA (hF ?_)
  first
  | exact fun e => absurd e.2.1 Jb
  | exact fun e => absurd e.1 Jb
  | exact fun e => row_ne e hql hq8 c40
  | exact fun e => row_nomade e hql Jb c52
  | exact fun e => Hy e q hql (hseen.yes c59)
  | exact ⟨by omega, by omega, fun i hi => hrow i hi Jb⟩
end
end Go.Sy
namespace Go.Sy
open Go Go.Proofs Go.RowKit
theorem field_plus {s : List UInt8} (h0 : 0 < s.length) (h : (s[0].toNat : Int) = 43) : s.drop 1 = fieldN s := by
  cases s with
  | nil => simp at h0
  | cons x r =>
    have : x = 43 := UInt8.toNat_inj.1 (by simp only [List.getElem_cons_zero] at h; have : (43 : UInt8).toNat = 43 := rfl; omega)
    subst this; rfl
theorem field_bare {s : List UInt8} (h : (h0 : 0 < s.length) → (s[0].toNat : Int) ≠ 43) : s = fieldN s := by
  cases s with
  | nil => rfl
  | cons x r =>
    unfold fieldN
    split
    · rename_i e
      have := (List.cons.inj e).1
      subst this
      exact absurd rfl (h (by simp))
    rfl
theorem name_all {s : List UInt8} (h0 : 0 < s.length) (h1 : s.length ≤ 20) (h : ∀ j (hj : j < s.length), nameC s[j] = true ∧ (j = 0 → letter s[j] = true)) : isName s = true := by
  refine isName_yes (List.length_pos_iff.1 h0) h1 ?_ (fun j hj => (h j hj).1)
  have := (h 0 h0).2 rfl
  cases s with
  | nil => simp at h0
  | cons x r => exact this
theorem name_head {s : List UInt8} {k : Nat} (hk : k < s.length) (h0 : k = 0) (h : letter s[k] = false) : isName s = false := by
  subst h0
  cases s with
  | nil => simp at hk
  | cons x r => simp only [List.getElem_cons_zero] at h; simp [isName, h]
theorem name_long {s : List UInt8} (h : 20 < s.length) : isName s = false := by
  have : ¬ s.length ≤ 20 := by omega
  simp [isName, this]
theorem name_none {s : List UInt8} (h : s.length ≤ 0) : isName s = false := by
  have : s = [] := List.eq_nil_of_length_eq_zero Jb
  subst this; decide
attribute [local irreducible] AC AT AO AK AH ACalls Sub Res.cells Res.obj Res.nix Res.own Res.map Exit.then Exit.inBlock bodyPost Code.wp Code.wpIn WL Next Post Kont
section
variable {W0 : World} {L : List Res} {F : List Fact} {R : Value → List Res → List Fact → Prop}
set_option maxRecDepth 100000
set_option maxHeartbeats 4000000
theorem rletter_c (c : UInt8) (hT : letter c = true → R (.bool true) L F) (hF : letter c = false → R (.bool false) L F) : ACalls Tryz.prog W0 66 #[.int .u8 c.toNat] L F R := by
  refine Gg Tryz.func66 HZ Tryz.ntmps66 HZ ?_
  refine qs 8 ?_
  refine Ga (GY HZ HZ HZ (fun c4 => ?_) (fun c4 => ?_))
  ·refine qs 2 ?_
   refine Gc HZ HZ (HG HZ HZ HZ (fun c7 => ?_) (fun c7 => ?_))
   ·refine qs 17 ?_
    first | refine Gb Tryz.results66 HZ (Gf _ _) (hT ?_) | refine Gb Tryz.results66 HZ (Gf _ _) (hF ?_)
    simp [letter]; omega
   refine qs 3 ?_
   refine Gc HZ HZ (GY HZ HZ HZ (fun c11 => ?_) (fun c11 => ?_))
   ·refine qs 2 ?_
    refine Gc HZ HZ (HG HZ HZ HZ (fun c14 => ?_) (fun c14 => ?_))
    ·refine qs 10 ?_
     first | refine Gb Tryz.results66 HZ (Gf _ _) (hT ?_) | refine Gb Tryz.results66 HZ (Gf _ _) (hF ?_)
     simp [letter]; omega
    refine qs 4 ?_
    refine Gc HZ HZ (Gr HZ HZ HZ (fun c19 => ?_) (fun c19 => ?_))
    ·refine qs 5 ?_
     first | refine Gb Tryz.results66 HZ (Gf _ _) (hT ?_) | refine Gb Tryz.results66 HZ (Gf _ _) (hF ?_)
     simp [letter]; omega
    refine qs 5 ?_
    first | refine Gb Tryz.results66 HZ (Gf _ _) (hT ?_) | refine Gb Tryz.results66 HZ (Gf _ _) (hF ?_)
    simp [letter]; omega
   refine qs 7 ?_
   refine Gc HZ HZ (Gr HZ HZ HZ (fun c19 => ?_) (fun c19 => ?_))
   ·refine qs 5 ?_
    first | refine Gb Tryz.results66 HZ (Gf _ _) (hT ?_) | refine Gb Tryz.results66 HZ (Gf _ _) (hF ?_)
    simp [letter]; omega
   refine qs 5 ?_
   first | refine Gb Tryz.results66 HZ (Gf _ _) (hT ?_) | refine Gb Tryz.results66 HZ (Gf _ _) (hF ?_)
   simp [letter]; omega
  refine qs 6 ?_
  refine Gc HZ HZ (GY HZ HZ HZ (fun c11 => ?_) (fun c11 => ?_))
  ·refine qs 2 ?_
   refine Gc HZ HZ (HG HZ HZ HZ (fun c14 => ?_) (fun c14 => ?_))
   ·refine qs 10 ?_
    first | refine Gb Tryz.results66 HZ (Gf _ _) (hT ?_) | refine Gb Tryz.results66 HZ (Gf _ _) (hF ?_)
    simp [letter]; omega
   refine qs 4 ?_
   refine Gc HZ HZ (Gr HZ HZ HZ (fun c19 => ?_) (fun c19 => ?_))
   ·refine qs 5 ?_
    first | refine Gb Tryz.results66 HZ (Gf _ _) (hT ?_) | refine Gb Tryz.results66 HZ (Gf _ _) (hF ?_)
    simp [letter]; omega
   refine qs 5 ?_
   first | refine Gb Tryz.results66 HZ (Gf _ _) (hT ?_) | refine Gb Tryz.results66 HZ (Gf _ _) (hF ?_)
   simp [letter]; omega
  refine qs 7 ?_
  refine Gc HZ HZ (Gr HZ HZ HZ (fun c19 => ?_) (fun c19 => ?_))
  ·refine qs 5 ?_
   first | refine Gb Tryz.results66 HZ (Gf _ _) (hT ?_) | refine Gb Tryz.results66 HZ (Gf _ _) (hF ?_)
   simp [letter]; omega
  refine qs 5 ?_
  first | refine Gb Tryz.results66 HZ (Gf _ _) (hT ?_) | refine Gb Tryz.results66 HZ (Gf _ _) (hF ?_)
  simp [letter]; omega
theorem fieldN_len (s : List UInt8) : (fieldN s).length ≤ s.length := by
  unfold fieldN; split <;> simp
theorem rname_c (s : List UInt8) (hs : s.length < 4294967281) (hT : isName s = true → R (.bool true) L F) (hF : isName s = false → R (.bool false) L F) : ACalls Tryz.prog W0 24 #[S s] L F R := by
  refine Gg Tryz.func24 HZ Tryz.ntmps24 HZ ?_
  refine qs 12 ?_
  refine GB (fun k => k ≤ s.length ∧ ∀ j (hj : j < s.length), j < k → nameC s[j] = true ∧ (j = 0 → letter s[j] = true)) (fun k => [(0, S s), (3, .int .i64 (k : Int))]) (fun _ => L) (fun _ => F) (fun k => s.length - k) 0 ⟨by omega, by omega⟩ srA (Gf _ _) ?_
  rintro k ⟨hk, hok⟩
  refine qs 6 ?_
  refine Ga (Gw HZ HZ HZ (fun c8 => ?_) (fun c8 => ?_))
  ·refine qs 11 ?_
   refine Ga (HF HZ HZ HZ HZ Jb (Ga (GY HZ HZ HZ (fun c14 => ?_) (fun c14 => ?_))))
   ·refine qs 3 ?_
    refine Gc HZ HZ (HF HZ HZ HZ HZ Jb (Gc HZ HZ (HG HZ HZ HZ (fun c19 => ?_) (fun c19 => ?_))))
    ·refine qs 8 ?_
     refine Ga (HF HZ HZ HZ HZ Jb ?_)
     refine Ga (Ge HZ HZ (rletter_c _ (fun c24 => ?_) (fun c24 => ?_)))
     ·refine qs 20 ?_
      refine Gk (k + 1) ⟨by omega, ?_⟩ Jb srA (Gf _ _)
      intro j hj hjk
      rcases Nat.lt_succ_iff_lt_or_eq.1 hjk with h | rfl
      · exact hok j hj h
      refine ⟨?_, ?_⟩
      · simp only [nameC, Bool.or_eq_true, Bool.and_eq_true, decide_eq_true_eq]
        first | exact .inl ‹_› | (right; omega)
      first | exact fun _ => ‹_› | (intro e; exact absurd e Jb)
     refine qs 6 ?_
     refine Gc HZ HZ (Gr HZ HZ HZ (fun c31 => ?_) (fun c31 => ?_))
     ·refine qs 16 ?_
      first | refine Gb Tryz.results24 HZ (Gf _ _) (hT ?_) | refine Gb Tryz.results24 HZ (Gf _ _) (hF ?_)
      first
      | exact name_all Jb Jb (fun j hj => hok j hj Jb)
      | exact name_long Jb
      | exact name_none Jb
      | exact name_head (k := k) Jb Jb ‹_›
      | exact isName_no (j := k) Jb (by simp only [nameC, Bool.or_eq_false_iff, Bool.and_eq_false_iff, decide_eq_false_iff_not]; exact ⟨‹_›, by omega⟩)
     refine qs 13 ?_
     refine Gk (k + 1) ⟨by omega, ?_⟩ Jb srA (Gf _ _)
     intro j hj hjk
     rcases Nat.lt_succ_iff_lt_or_eq.1 hjk with h | rfl
     · exact hok j hj h
     refine ⟨?_, ?_⟩
     · simp only [nameC, Bool.or_eq_true, Bool.and_eq_true, decide_eq_true_eq]
       first | exact .inl ‹_› | (right; omega)
     first | exact fun _ => ‹_› | (intro e; exact absurd e Jb)
    refine qs 8 ?_
    refine Ga (HF HZ HZ HZ HZ Jb ?_)
    refine Ga (Ge HZ HZ (rletter_c _ (fun c24 => ?_) (fun c24 => ?_)))
    ·refine qs 20 ?_
     refine Gk (k + 1) ⟨by omega, ?_⟩ Jb srA (Gf _ _)
     intro j hj hjk
     rcases Nat.lt_succ_iff_lt_or_eq.1 hjk with h | rfl
     · exact hok j hj h
     refine ⟨?_, ?_⟩
     · simp only [nameC, Bool.or_eq_true, Bool.and_eq_true, decide_eq_true_eq]
       first | exact .inl ‹_› | (right; omega)
     first | exact fun _ => ‹_› | (intro e; exact absurd e Jb)
    refine qs 23 ?_
    first | refine Gb Tryz.results24 HZ (Gf _ _) (hT ?_) | refine Gb Tryz.results24 HZ (Gf _ _) (hF ?_)
    first
    | exact name_all Jb Jb (fun j hj => hok j hj Jb)
    | exact name_long Jb
    | exact name_none Jb
    | exact name_head (k := k) Jb Jb ‹_›
    | exact isName_no (j := k) Jb (by simp only [nameC, Bool.or_eq_false_iff, Bool.and_eq_false_iff, decide_eq_false_iff_not]; exact ⟨‹_›, by omega⟩)
   refine qs 13 ?_
   refine Ga (HF HZ HZ HZ HZ Jb ?_)
   refine Ga (Ge HZ HZ (rletter_c _ (fun c24 => ?_) (fun c24 => ?_)))
   ·refine qs 20 ?_
    refine Gk (k + 1) ⟨by omega, ?_⟩ Jb srA (Gf _ _)
    intro j hj hjk
    rcases Nat.lt_succ_iff_lt_or_eq.1 hjk with h | rfl
    · exact hok j hj h
    refine ⟨?_, ?_⟩
    · simp only [nameC, Bool.or_eq_true, Bool.and_eq_true, decide_eq_true_eq]
      first | exact .inl ‹_› | (right; omega)
    first | exact fun _ => ‹_› | (intro e; exact absurd e Jb)
   refine qs 23 ?_
   first | refine Gb Tryz.results24 HZ (Gf _ _) (hT ?_) | refine Gb Tryz.results24 HZ (Gf _ _) (hF ?_)
   first
   | exact name_all Jb Jb (fun j hj => hok j hj Jb)
   | exact name_long Jb
   | exact name_none Jb
   | exact name_head (k := k) Jb Jb ‹_›
   | exact isName_no (j := k) Jb (by simp only [nameC, Bool.or_eq_false_iff, Bool.and_eq_false_iff, decide_eq_false_iff_not]; exact ⟨‹_›, by omega⟩)
  refine qs 12 ?_
  refine Ga (Hv HZ HZ HZ (fun c36 => ?_) (fun c36 => ?_))
  ·refine qs 3 ?_
   refine Gc HZ HZ (HG HZ HZ HZ (fun c40 => ?_) (fun c40 => ?_))
   ·refine qs 5 ?_
    first | refine Gb Tryz.results24 HZ (Gf _ _) (hT ?_) | refine Gb Tryz.results24 HZ (Gf _ _) (hF ?_)
    first
    | exact name_all Jb Jb (fun j hj => hok j hj Jb)
    | exact name_long Jb
    | exact name_none Jb
    | exact name_head (k := k) Jb Jb ‹_›
    | exact isName_no (j := k) Jb (by simp only [nameC, Bool.or_eq_false_iff, Bool.and_eq_false_iff, decide_eq_false_iff_not]; exact ⟨‹_›, by omega⟩)
   refine qs 5 ?_
   first | refine Gb Tryz.results24 HZ (Gf _ _) (hT ?_) | refine Gb Tryz.results24 HZ (Gf _ _) (hF ?_)
   first
   | exact name_all Jb Jb (fun j hj => hok j hj Jb)
   | exact name_long Jb
   | exact name_none Jb
   | exact name_head (k := k) Jb Jb ‹_›
   | exact isName_no (j := k) Jb (by simp only [nameC, Bool.or_eq_false_iff, Bool.and_eq_false_iff, decide_eq_false_iff_not]; exact ⟨‹_›, by omega⟩)
  refine qs 9 ?_
  first | refine Gb Tryz.results24 HZ (Gf _ _) (hT ?_) | refine Gb Tryz.results24 HZ (Gf _ _) (hF ?_)
  first
  | exact name_all Jb Jb (fun j hj => hok j hj Jb)
  | exact name_long Jb
  | exact name_none Jb
  | exact name_head (k := k) Jb Jb ‹_›
  | exact isName_no (j := k) Jb (by simp only [nameC, Bool.or_eq_false_iff, Bool.and_eq_false_iff, decide_eq_false_iff_not]; exact ⟨‹_›, by omega⟩)
theorem rfield_c (s : List UInt8) (h : R (S (fieldN s)) L F) : ACalls Tryz.prog W0 214 #[S s] L F R := by
  refine Gg Tryz.func214 HZ Tryz.ntmps214 HZ ?_
  refine qs 10 ?_
  refine Ga (Hv HZ HZ HZ (fun c5 => ?_) (fun c5 => ?_))
  ·refine qs 2 ?_
   have h0 : 0 < s.length := by omega
   refine Gc HZ HZ (HF HZ HZ HZ HZ h0 (Gc HZ HZ (Gr HZ HZ HZ (fun c9 => ?_) (fun c9 => ?_))))
   ·refine qs 7 ?_
    refine Ga (AO.sliceSL (i' := 1) HZ HZ HZ HZ Jb ?_)
    refine qs 5 ?_
    first | refine Gb (v := S (s.drop 1)) Tryz.results214 HZ (Gf _ _) (by rw [field_plus h0 c9]; exact h) | refine Gb (v := S s) Tryz.results214 HZ (Gf _ _) (by rw [← field_bare (fun _ => c9)] at h; exact h) | refine Gb (v := S s) Tryz.results214 HZ (Gf _ _) (by rw [← field_bare (fun h0 => absurd h0 Jb)] at h; exact h)
   refine qs 13 ?_
   first | refine Gb (v := S (s.drop 1)) Tryz.results214 HZ (Gf _ _) (by rw [field_plus h0 c9]; exact h) | refine Gb (v := S s) Tryz.results214 HZ (Gf _ _) (by rw [← field_bare (fun _ => c9)] at h; exact h) | refine Gb (v := S s) Tryz.results214 HZ (Gf _ _) (by rw [← field_bare (fun h0 => absurd h0 Jb)] at h; exact h)
  refine qs 17 ?_
  first | refine Gb (v := S (s.drop 1)) Tryz.results214 HZ (Gf _ _) (by rw [field_plus h0 c9]; exact h) | refine Gb (v := S s) Tryz.results214 HZ (Gf _ _) (by rw [← field_bare (fun _ => c9)] at h; exact h) | refine Gb (v := S s) Tryz.results214 HZ (Gf _ _) (by rw [← field_bare (fun h0 => absurd h0 Jb)] at h; exact h)
theorem rmark_c (s : List UInt8) (hT : markP s → R (.bool true) L F) (hF : ¬ markP s → R (.bool false) L F) : ACalls Tryz.prog W0 215 #[S s] L F R := by
  refine Gg Tryz.func215 HZ Tryz.ntmps215 HZ ?_
  refine qs 8 ?_
  refine Ga (Hi HZ HZ HZ (fun c4 => ?_) (fun c4 => ?_))
  ·refine qs 8 ?_
   first | exact Gb Tryz.results215 rfl (Gf _ _) (hT (Or.inl c4)) | exact Gb Tryz.results215 rfl (Gf _ _) (hT (Or.inr c7)) | exact Gb Tryz.results215 rfl (Gf _ _) (hF (fun e => e.elim c4 c7))
  refine qs 2 ?_
  refine Gc HZ HZ (Hi HZ HZ HZ (fun c7 => ?_) (fun c7 => ?_))
  ·refine qs 5 ?_
   first | exact Gb Tryz.results215 rfl (Gf _ _) (hT (Or.inl c4)) | exact Gb Tryz.results215 rfl (Gf _ _) (hT (Or.inr c7)) | exact Gb Tryz.results215 rfl (Gf _ _) (hF (fun e => e.elim c4 c7))
  refine qs 5 ?_
  first | exact Gb Tryz.results215 rfl (Gf _ _) (hT (Or.inl c4)) | exact Gb Tryz.results215 rfl (Gf _ _) (hT (Or.inr c7)) | exact Gb Tryz.results215 rfl (Gf _ _) (hF (fun e => e.elim c4 c7))
theorem rfields_c (t : Ty) (ht : TyOk t) {a1 a2 : Option Addr} {k1 c1 k2 c2 : Nat} (m1 : fW t a1 k1 c1 ∈ F) (m2 : fK t a2 k2 c2 ∈ F) (hT : fieldsP t.words ∧ t.words.length = t.kids.length → R (.bool true) L F)
    (hF : ¬(fieldsP t.words ∧ t.words.length = t.kids.length) → R (.bool false) L F) : ACalls Tryz.prog W0 178 #[vTy t a1 k1 c1 a2 k2 c2] L F R := by
  refine Gg Tryz.func178 HZ Tryz.ntmps178 HZ ?_
  refine qs 2 ?_
  refine Ga (GL HZ HZ (fun b1 => ?_))
  refine qs 8 ?_
  refine Ga (Gt HZ HZ (fun hl9 => ?_) (hm := by repeat (first | exact mem0 | assumption | refine memS ?_)))
  refine qs 4 ?_
  refine AC.loopC (fun (q : Nat) => q ≤ t.words.length ∧ ∀ j (hj : j < t.words.length), j < q → fieldAt t.words j hj) (fun q => [(1, .pointer (some ⟨b1, 0, none⟩)), (8, .slice a1 k1 c1), (9, .int .i64 t.words.length), (10, .int .i64 (q : Int))]) (fun q => t.words.length - q) 0 ⟨by omega, by omega⟩ srA ?_
  rintro q ⟨hq, hok⟩
  refine qs 2 ?_
  refine Ga (Gw HZ HZ HZ (fun c11 => ?_) (fun c11 => ?_))
  ·refine qs 11 ?_
   have hql : q < t.words.length := by omega
   refine Ga (Gd HZ HZ HZ HZ memA hql (fun _ _ => ?_))
   refine Ga (Gs HZ HZ ?_)
   intros
   refine qs 8 ?_
   refine Ga (Ge HZ HZ (rfield_c t.words[q] ?_))
   have hwl := ht.word _ (List.getElem_mem hql)
   have hfl := fieldN_len t.words[q]
   refine Ga (Ge HZ HZ (rname_c (fieldN t.words[q]) Jb (fun c17 => ?_) (fun c17 => ?_)))
   ·refine qs 11 ?_
    refine Ga (AO.sliceH (j' := q) HZ HZ HZ Jb (enc := eS) (lst := t.words) memA Jb (fun a22 k22 c22 => ?_))
    have htl : (t.words.take q).length = q := by simp; omega
    refine Ga (Gt HZ HZ (fun hl23 => ?_) (hm := by repeat (first | exact mem0 | assumption | refine memS ?_)))
    refine qs 4 ?_
    refine AC.loopC (fun (u : Nat) => u ≤ q ∧ ∀ j (hj : j < t.words.length), j < u → fieldN t.words[j] = fieldN t.words[q] → fieldN t.words[q] = [95]) (fun u => [(1, .pointer (some ⟨b1, 0, none⟩)), (8, .slice a1 k1 c1), (9, .int .i64 t.words.length), (10, .int .i64 (q : Int)), (4, S t.words[q]), (22, .slice a22 k22 c22), (23, .int .i64 (t.words.take q).length), (24, .int .i64 (u : Int))]) (fun u => q - u) 0 ⟨by omega, by omega⟩ srA ?_
    rintro u ⟨hu, hou⟩
    refine qs 2 ?_
    refine Ga (Gw HZ HZ HZ (fun c25 => ?_) (fun c25 => ?_))
    ·refine qs 10 ?_
     have hul : u < (t.words.take q).length := by omega
     have hget : (t.words.take q)[u] = t.words[u] := List.getElem_take
     refine Ga (Gd HZ HZ HZ HZ memA hul (fun _ _ => ?_))
     refine Ga (Gs HZ HZ ?_)
     intros
     refine qs 6 ?_
     refine Ga (Ge HZ HZ (rfield_c (t.words.take q)[u] ?_))
     refine qs 1 ?_
     refine Ga (Ge HZ HZ (rfield_c t.words[q] ?_))
     refine Ga (Hi HZ HZ HZ (fun c32 => ?_) (fun c32 => ?_))
     ·refine qs 2 ?_
      refine Gc HZ HZ (Ge HZ HZ (rfield_c t.words[q] ?_))
      refine Gc HZ HZ (AO.neqS HZ HZ HZ (fun c36 => ?_) (fun c36 => ?_))
      ·refine qs 19 ?_
       first | refine Gb (L' := L) (F' := F) Tryz.results178 HZ subA (hT ?_) | refine Gb (L' := L) (F' := F) Tryz.results178 HZ subA (hF ?_)
       first
       | exact ⟨fun i hi => hok i hi Jb, by omega⟩
       | exact fun e => absurd (e.1 q hql).1 (by rw [c17]; decide)
       | (rw [hget] at c32; exact fun e => c36 ((e.1 q hql).2 u Jb c32))
       | exact fun e => c46 (by rw [e.2])
      refine qs 11 ?_
      refine Gk (u + 1) ⟨by omega, ?_⟩ Jb srA subF
      rw [hget] at c32
      intro j hj hju
      rcases Nat.lt_succ_iff_lt_or_eq.1 hju with k9 | rfl
      · exact hou j hj k9
      first | exact fun e => absurd e c32 | exact fun _ => c36
     refine qs 15 ?_
     refine Gk (u + 1) ⟨by omega, ?_⟩ Jb srA subF
     rw [hget] at c32
     intro j hj hju
     rcases Nat.lt_succ_iff_lt_or_eq.1 hju with k9 | rfl
     · exact hou j hj k9
     first | exact fun e => absurd e c32 | exact fun _ => c36
    refine qs 14 ?_
    refine Gk (q + 1) ⟨by omega, ?_⟩ Jb srA subF
    intro j hj hjq
    rcases Nat.lt_succ_iff_lt_or_eq.1 hjq with k9 | rfl
    · exact hok j hj k9
    exact ⟨c17, fun i hi => hou i Jb Jb⟩
   refine qs 16 ?_
   first | refine Gb (L' := L) (F' := F) Tryz.results178 HZ subA (hT ?_) | refine Gb (L' := L) (F' := F) Tryz.results178 HZ subA (hF ?_)
   first
   | exact ⟨fun i hi => hok i hi Jb, by omega⟩
   | exact fun e => absurd (e.1 q hql).1 (by rw [c17]; decide)
   | (rw [hget] at c32; exact fun e => c36 ((e.1 q hql).2 u Jb c32))
   | exact fun e => c46 (by rw [e.2])
  refine qs 13 ?_
  refine Ga (Gt HZ HZ (fun hl42 => ?_) (hm := by repeat (first | exact mem0 | assumption | refine memS ?_)))
  refine qs 2 ?_
  refine Ga (Gt HZ HZ (fun hl45 => ?_) (hm := by repeat (first | exact mem0 | assumption | refine memS ?_)))
  refine Ga (Gr HZ HZ HZ (fun c46 => ?_) (fun c46 => ?_))
  ·refine qs 4 ?_
   first | refine Gb (L' := L) (F' := F) Tryz.results178 HZ subA (hT ?_) | refine Gb (L' := L) (F' := F) Tryz.results178 HZ subA (hF ?_)
   first
   | exact ⟨fun i hi => hok i hi Jb, by omega⟩
   | exact fun e => absurd (e.1 q hql).1 (by rw [c17]; decide)
   | (rw [hget] at c32; exact fun e => c36 ((e.1 q hql).2 u Jb c32))
   | exact fun e => c46 (by rw [e.2])
  refine qs 4 ?_
  first | refine Gb (L' := L) (F' := F) Tryz.results178 HZ subA (hT ?_) | refine Gb (L' := L) (F' := F) Tryz.results178 HZ subA (hF ?_)
  first
  | exact ⟨fun i hi => hok i hi Jb, by omega⟩
  | exact fun e => absurd (e.1 q hql).1 (by rw [c17]; decide)
  | (rw [hget] at c32; exact fun e => c36 ((e.1 q hql).2 u Jb c32))
  | exact fun e => c46 (by rw [e.2])
end
end Go.Sy
namespace Go.Sy
open Go Go.Proofs Go.RowKit
theorem cutD_at {c : UInt8} : ∀ {s : List UInt8} {i : Nat} (hi : i < s.length) (_ : s[i] = c) (_ : ∀ j (hj : j < s.length), j < i → s[j] ≠ c), cutD c s = (s.take i, s.drop (i + 1), true)
  | [], i, hi, _, _ => by simp at hi
  | b :: s, 0, hi, h, _ => by
    simp only [List.getElem_cons_zero] at h
    simp [cutD, h]
  | b :: s, i + 1, hi, h, hb => by
    have hb0 := hb 0 (by simp) Jb
    simp only [List.getElem_cons_zero] at hb0
    have ih := cutD_at (s := s) (i := i) (by simpa using hi) (by simpa using h) (fun j hj hji => by have := hb (j + 1) (by simpa using hj) Jb; simpa using this)
    simp [cutD, hb0, ih]
theorem cutD_none {c : UInt8} : ∀ {s : List UInt8} (_ : ∀ j (hj : j < s.length), s[j] ≠ c), (cutD c s).2.2 = false
  | [], _ => rfl
  | b :: s, hb => by
    have hb0 := hb 0 (by simp)
    simp only [List.getElem_cons_zero] at hb0
    have ih := cutD_none (s := s) (fun j hj => by have := hb (j + 1) (by simpa using hj); simpa using this)
    simp [cutD, hb0, ih]
theorem named_at {s : List UInt8} {i : Nat} (hi : i < s.length) (h : (s[i].toNat : Int) = 46) (hb : ∀ j (hj : j < s.length), j < i → (s[j].toNat : Int) ≠ 46) : namedP s ↔ isName (s.take i) = true ∧ isName (s.drop (i + 1)) = true := by
  have h46 : (46 : UInt8).toNat = 46 := rfl
  unfold namedP
  rw [cutD_at hi (c := 46) (UInt8.toNat_inj.1 Jb) (fun j hj hji e => hb j hj hji (by rw [e]; rfl))]
  simp
theorem named_none {s : List UInt8} (hb : ∀ j (hj : j < s.length), (s[j].toNat : Int) ≠ 46) : ¬ namedP s := by
  unfold namedP
  rw [cutD_none (c := 46) (fun j hj e => hb j hj (by rw [e]; rfl))]
  simp
attribute [local irreducible] AC AT AO AK AH ACalls Sub Res.cells Res.obj Res.nix Res.own Res.map Exit.then Exit.inBlock bodyPost Code.wp Code.wpIn WL Next Post Kont
section
variable {W0 : World} {L : List Res} {F : List Fact} {R : Value → List Res → List Fact → Prop}
set_option maxRecDepth 100000
set_option maxHeartbeats 4000000
theorem rnamed_c (s : List UInt8) (hs : s.length < 4294967281) (hT : namedP s → R (.bool true) L F) (hF : ¬ namedP s → R (.bool false) L F) : ACalls Tryz.prog W0 180 #[S s] L F R := by
  refine Gg Tryz.func180 HZ Tryz.ntmps180 HZ ?_
  refine qs 12 ?_
  refine GB (fun k => k ≤ s.length ∧ ∀ j (hj : j < s.length), j < k → (s[j].toNat : Int) ≠ 46) (fun k => [(0, S s), (3, .int .i64 (k : Int))]) (fun _ => L) (fun _ => F) (fun k => s.length - k) 0 ⟨by omega, by omega⟩ srA (Gf _ _) ?_
  rintro k ⟨hk, hok⟩
  refine qs 6 ?_
  refine Ga (Gw HZ HZ HZ (fun c7 => ?_) (fun c7 => ?_))
  ·refine qs 11 ?_
   have hkl : k < s.length := by omega
   have hl1 : (s.take k).length ≤ s.length := by simp only [List.length_take]; omega
   have hl2 : (s.drop (k + 1)).length ≤ s.length := by simp only [List.length_drop]; omega
   refine Ga (HF HZ HZ HZ HZ hkl ?_)
   refine Ga (Gr HZ HZ HZ (fun c13 => ?_) (fun c13 => ?_))
   ·refine qs 7 ?_
    refine Ga (AO.sliceSH (j' := k) HZ HZ HZ HZ Jb ?_)
    refine Ga (Ge HZ HZ (rname_c (s.take k) Jb (fun c17 => ?_) (fun c17 => ?_)))
    ·refine qs 4 ?_
     refine Gc HZ HZ (AO.sliceSL (i' := k + 1) HZ HZ HZ Jb Jb ?_)
     refine Gc HZ HZ (Ge HZ HZ (rname_c (s.drop (k + 1)) Jb (fun c23 => ?_) (fun c23 => ?_)))
     ·refine qs 10 ?_
      first | refine Gb Tryz.results180 HZ (Gf _ _) (hT ?_) | refine Gb Tryz.results180 HZ (Gf _ _) (hF ?_)
      first
      | exact (named_at hkl c13 hok).2 ⟨c17, c23⟩
      | (rw [named_at hkl c13 hok]; exact fun e => absurd e.2 (by rw [c23]; decide))
      | (rw [named_at hkl c13 hok]; exact fun e => absurd e.1 (by rw [c17]; decide))
      | exact named_none (fun j hj => hok j hj Jb)
     refine qs 10 ?_
     first | refine Gb Tryz.results180 HZ (Gf _ _) (hT ?_) | refine Gb Tryz.results180 HZ (Gf _ _) (hF ?_)
     first
     | exact (named_at hkl c13 hok).2 ⟨c17, c23⟩
     | (rw [named_at hkl c13 hok]; exact fun e => absurd e.2 (by rw [c23]; decide))
     | (rw [named_at hkl c13 hok]; exact fun e => absurd e.1 (by rw [c17]; decide))
     | exact named_none (fun j hj => hok j hj Jb)
    refine qs 16 ?_
    first | refine Gb Tryz.results180 HZ (Gf _ _) (hT ?_) | refine Gb Tryz.results180 HZ (Gf _ _) (hF ?_)
    first
    | exact (named_at hkl c13 hok).2 ⟨c17, c23⟩
    | (rw [named_at hkl c13 hok]; exact fun e => absurd e.2 (by rw [c23]; decide))
    | (rw [named_at hkl c13 hok]; exact fun e => absurd e.1 (by rw [c17]; decide))
    | exact named_none (fun j hj => hok j hj Jb)
   refine qs 11 ?_
   refine Gk (k + 1) ⟨by omega, ?_⟩ Jb srA (Gf _ _)
   intro j hj hjk
   rcases Nat.lt_succ_iff_lt_or_eq.1 hjk with h | rfl
   · exact hok j hj h
   exact c13
  refine qs 14 ?_
  first | refine Gb Tryz.results180 HZ (Gf _ _) (hT ?_) | refine Gb Tryz.results180 HZ (Gf _ _) (hF ?_)
  first
  | exact (named_at hkl c13 hok).2 ⟨c17, c23⟩
  | (rw [named_at hkl c13 hok]; exact fun e => absurd e.2 (by rw [c23]; decide))
  | (rw [named_at hkl c13 hok]; exact fun e => absurd e.1 (by rw [c17]; decide))
  | exact named_none (fun j hj => hok j hj Jb)
theorem relems_c (l : List Ty) (t : Ty) (ht : TyOk t) (hk : kidsP l t) {a1 a2 a3 : Option Addr} {k1 c1 k2 c2 k3 c3 : Nat} (m1 : fW t a1 k1 c1 ∈ F) (m2 : fK t a2 k2 c2 ∈ F) (m3 : fL l a3 k3 c3 ∈ F)
    (hT : elemsP l t → R (.bool true) L F) (hF : ¬ elemsP l t → R (.bool false) L F) : ACalls Tryz.prog W0 179 #[.slice a3 k3 c3, vTy t a1 k1 c1 a2 k2 c2] L F R := by
  refine Gg Tryz.func179 HZ Tryz.ntmps179 HZ ?_
  refine qs 2 ?_
  refine Ga (GL HZ HZ (fun b3 => ?_))
  refine qs 8 ?_
  refine Ga (Gt HZ HZ (fun hl10 => ?_) (hm := by repeat (first | exact mem0 | assumption | refine memS ?_)))
  refine qs 2 ?_
  refine Ga (Gt HZ HZ (fun hl13 => ?_) (hm := by repeat (first | exact mem0 | assumption | refine memS ?_)))
  refine Ga (GG HZ HZ HZ (fun c14 => ?_) (fun c14 => ?_))
  ·refine qs 20 ?_
   first | refine Gb (L' := L) (F' := F) Tryz.results179 HZ subA (hT ?_) | refine Gb (L' := L) (F' := F) Tryz.results179 HZ subA (hF ?_)
   first
   | exact ⟨by omega, by omega, by omega, fun i hi => hok i hi Jb⟩
   | exact fun e => absurd e.1 Jb
   | exact fun e => absurd e.2.1 Jb
   | exact fun e => absurd e.2.2.1 Jb
   | (intro e
      have he := e.2.2.2 q hql
      unfold elemAtP at he
      rw [hK, hKid, hKidP, hPrev] at he
      rcases he with ⟨h1, h2, h3, h4, h5, h6⟩ | ⟨h1, h2, h3, h4⟩
      first | exact c39 h1 | exact h3 c49 | exact h4 c57 | (have := h6 Jb c76; omega) | omega
      first | exact h1 c39 | exact absurd h2 (by rw [c89]; decide) | exact (h4 Jb).1 c108 | exact c97 h3 | exact absurd (h4 Jb).2 (by rw [c117]; decide) | omega)
  refine qs 3 ?_
  refine Gc HZ HZ (Gw HZ HZ HZ (fun c18 => ?_) (fun c18 => ?_))
  ·refine qs 16 ?_
   first | refine Gb (L' := L) (F' := F) Tryz.results179 HZ subA (hT ?_) | refine Gb (L' := L) (F' := F) Tryz.results179 HZ subA (hF ?_)
   first
   | exact ⟨by omega, by omega, by omega, fun i hi => hok i hi Jb⟩
   | exact fun e => absurd e.1 Jb
   | exact fun e => absurd e.2.1 Jb
   | exact fun e => absurd e.2.2.1 Jb
   | (intro e
      have he := e.2.2.2 q hql
      unfold elemAtP at he
      rw [hK, hKid, hKidP, hPrev] at he
      rcases he with ⟨h1, h2, h3, h4, h5, h6⟩ | ⟨h1, h2, h3, h4⟩
      first | exact c39 h1 | exact h3 c49 | exact h4 c57 | (have := h6 Jb c76; omega) | omega
      first | exact h1 c39 | exact absurd h2 (by rw [c89]; decide) | exact (h4 Jb).1 c108 | exact c97 h3 | exact absurd (h4 Jb).2 (by rw [c117]; decide) | omega)
  refine qs 4 ?_
  refine Gc HZ HZ (Hv HZ HZ HZ (fun c23 => ?_) (fun c23 => ?_))
  ·refine qs 11 ?_
   first | refine Gb (L' := L) (F' := F) Tryz.results179 HZ subA (hT ?_) | refine Gb (L' := L) (F' := F) Tryz.results179 HZ subA (hF ?_)
   first
   | exact ⟨by omega, by omega, by omega, fun i hi => hok i hi Jb⟩
   | exact fun e => absurd e.1 Jb
   | exact fun e => absurd e.2.1 Jb
   | exact fun e => absurd e.2.2.1 Jb
   | (intro e
      have he := e.2.2.2 q hql
      unfold elemAtP at he
      rw [hK, hKid, hKidP, hPrev] at he
      rcases he with ⟨h1, h2, h3, h4, h5, h6⟩ | ⟨h1, h2, h3, h4⟩
      first | exact c39 h1 | exact h3 c49 | exact h4 c57 | (have := h6 Jb c76; omega) | omega
      first | exact h1 c39 | exact absurd h2 (by rw [c89]; decide) | exact (h4 Jb).1 c108 | exact c97 h3 | exact absurd (h4 Jb).2 (by rw [c117]; decide) | omega)
  refine qs 11 ?_
  refine Ga (Gt HZ HZ (fun hl27 => ?_) (hm := by repeat (first | exact mem0 | assumption | refine memS ?_)))
  refine qs 4 ?_
  refine AC.loopC (fun (q : Nat) => q ≤ t.words.length ∧ ∀ j (hj : j < t.words.length), j < q → elemAtP l t j hj) (fun q => [(0, .slice a3 k3 c3), (3, .pointer (some ⟨b3, 0, none⟩)), (26, .slice a1 k1 c1), (27, .int .i64 t.words.length), (28, .int .i64 (q : Int))]) (fun q => t.words.length - q) 0 ⟨by omega, by omega⟩ srA ?_
  rintro q ⟨hq, hok⟩
  refine qs 2 ?_
  refine Ga (Gw HZ HZ HZ (fun c29 => ?_) (fun c29 => ?_))
  ·refine qs 11 ?_
   have hql : q < t.words.length := by omega
   have hwl := ht.word _ (List.getElem_mem hql)
   have hqk : q < t.kids.length := by omega
   obtain ⟨hkn, hkl⟩ := kid_nat hk hqk
   have hKid := kid_get hqk
   have hK : kindAt l (kidAt t q) = l[t.kids[q].toNat].kind := by rw [hKid]; exact kind_get hkn hkl
   have hKidP := kid_get (t := t) (i := q - 1) Jb
   have hPrev := word_get (ws := t.words) (i := q - 1) Jb
   refine Ga (Gd HZ HZ HZ HZ memA hql (fun _ _ => ?_))
   refine Ga (Gs HZ HZ ?_)
   intros
   refine qs 9 ?_
   refine Ga (Gd HZ HZ HZ HZ memA hqk (fun _ _ => ?_))
   refine Ga (Gs HZ HZ ?_)
   intros
   refine qs 7 ?_
   refine Ga (Ge HZ HZ (rmark_c t.words[q] (fun c39 => ?_) (fun c39 => ?_)))
   ·refine qs 8 ?_
    refine Ga (Gw HZ HZ HZ (fun c42 => ?_) (fun c42 => ?_))
    ·refine qs 40 ?_
     first | refine Gb (L' := L) (F' := F) Tryz.results179 HZ subA (hT ?_) | refine Gb (L' := L) (F' := F) Tryz.results179 HZ subA (hF ?_)
     first
     | exact ⟨by omega, by omega, by omega, fun i hi => hok i hi Jb⟩
     | exact fun e => absurd e.1 Jb
     | exact fun e => absurd e.2.1 Jb
     | exact fun e => absurd e.2.2.1 Jb
     | (intro e
        have he := e.2.2.2 q hql
        unfold elemAtP at he
        rw [hK, hKid, hKidP, hPrev] at he
        rcases he with ⟨h1, h2, h3, h4, h5, h6⟩ | ⟨h1, h2, h3, h4⟩
        first | exact c39 h1 | exact h3 c49 | exact h4 c57 | (have := h6 Jb c76; omega) | omega
        first | exact h1 c39 | exact absurd h2 (by rw [c89]; decide) | exact (h4 Jb).1 c108 | exact c97 h3 | exact absurd (h4 Jb).2 (by rw [c117]; decide) | omega)
    refine qs 3 ?_
    refine Gc HZ HZ (Gd (k := t.kids[q].toNat) HZ HZ HZ hkn memA hkl (fun _ _ => ?_))
    refine Gc HZ HZ (Ha HZ HZ (fun _ => ?_))
    refine Gc HZ HZ (Gs HZ HZ ?_)
    intros
    refine Gc HZ HZ (Gr HZ HZ HZ (fun c49 => ?_) (fun c49 => ?_))
    ·refine qs 33 ?_
     first | refine Gb (L' := L) (F' := F) Tryz.results179 HZ subA (hT ?_) | refine Gb (L' := L) (F' := F) Tryz.results179 HZ subA (hF ?_)
     first
     | exact ⟨by omega, by omega, by omega, fun i hi => hok i hi Jb⟩
     | exact fun e => absurd e.1 Jb
     | exact fun e => absurd e.2.1 Jb
     | exact fun e => absurd e.2.2.1 Jb
     | (intro e
        have he := e.2.2.2 q hql
        unfold elemAtP at he
        rw [hK, hKid, hKidP, hPrev] at he
        rcases he with ⟨h1, h2, h3, h4, h5, h6⟩ | ⟨h1, h2, h3, h4⟩
        first | exact c39 h1 | exact h3 c49 | exact h4 c57 | (have := h6 Jb c76; omega) | omega
        first | exact h1 c39 | exact absurd h2 (by rw [c89]; decide) | exact (h4 Jb).1 c108 | exact c97 h3 | exact absurd (h4 Jb).2 (by rw [c117]; decide) | omega)
    refine qs 4 ?_
    refine Gc HZ HZ (Gd (k := t.kids[q].toNat) HZ HZ HZ hkn memA hkl (fun _ _ => ?_))
    refine Gc HZ HZ (Ha HZ HZ (fun _ => ?_))
    refine Gc HZ HZ (Gs HZ HZ ?_)
    intros
    refine Gc HZ HZ (Gr HZ HZ HZ (fun c57 => ?_) (fun c57 => ?_))
    ·refine qs 25 ?_
     first | refine Gb (L' := L) (F' := F) Tryz.results179 HZ subA (hT ?_) | refine Gb (L' := L) (F' := F) Tryz.results179 HZ subA (hF ?_)
     first
     | exact ⟨by omega, by omega, by omega, fun i hi => hok i hi Jb⟩
     | exact fun e => absurd e.1 Jb
     | exact fun e => absurd e.2.1 Jb
     | exact fun e => absurd e.2.2.1 Jb
     | (intro e
        have he := e.2.2.2 q hql
        unfold elemAtP at he
        rw [hK, hKid, hKidP, hPrev] at he
        rcases he with ⟨h1, h2, h3, h4, h5, h6⟩ | ⟨h1, h2, h3, h4⟩
        first | exact c39 h1 | exact h3 c49 | exact h4 c57 | (have := h6 Jb c76; omega) | omega
        first | exact h1 c39 | exact absurd h2 (by rw [c89]; decide) | exact (h4 Jb).1 c108 | exact c97 h3 | exact absurd (h4 Jb).2 (by rw [c117]; decide) | omega)
    refine qs 3 ?_
    refine Gc HZ HZ (GY HZ HZ HZ (fun c61 => ?_) (fun c61 => ?_))
    ·refine qs 2 ?_
     refine Gc HZ HZ (HG HZ HZ HZ (fun c64 => ?_) (fun c64 => ?_))
     ·refine qs 18 ?_
      first | refine Gb (L' := L) (F' := F) Tryz.results179 HZ subA (hT ?_) | refine Gb (L' := L) (F' := F) Tryz.results179 HZ subA (hF ?_)
      first
      | exact ⟨by omega, by omega, by omega, fun i hi => hok i hi Jb⟩
      | exact fun e => absurd e.1 Jb
      | exact fun e => absurd e.2.1 Jb
      | exact fun e => absurd e.2.2.1 Jb
      | (intro e
         have he := e.2.2.2 q hql
         unfold elemAtP at he
         rw [hK, hKid, hKidP, hPrev] at he
         rcases he with ⟨h1, h2, h3, h4, h5, h6⟩ | ⟨h1, h2, h3, h4⟩
         first | exact c39 h1 | exact h3 c49 | exact h4 c57 | (have := h6 Jb c76; omega) | omega
         first | exact h1 c39 | exact absurd h2 (by rw [c89]; decide) | exact (h4 Jb).1 c108 | exact c97 h3 | exact absurd (h4 Jb).2 (by rw [c117]; decide) | omega)
     refine qs 11 ?_
     refine Ga (Hv HZ HZ HZ (fun c68 => ?_) (fun c68 => ?_))
     ·refine qs 5 ?_
      refine Gc HZ HZ (Gd (k := q - 1) HZ HZ HZ Jb memA Jb (fun _ _ => ?_))
      refine Gc HZ HZ (Gs HZ HZ ?_)
      intros
      refine Gc HZ HZ (Ge HZ HZ (rmark_c t.words[q - 1] (fun c76 => ?_) (fun c76 => ?_)))
      ·refine qs 6 ?_
       refine Gc HZ HZ (Gd (k := q - 1) HZ HZ HZ Jb memA Jb (fun _ _ => ?_))
       refine Gc HZ HZ (Gs HZ HZ ?_)
       intros
       refine qs 1 ?_
       refine Gc HZ HZ (GY HZ HZ HZ (fun c86 => ?_) (fun c86 => ?_))
       ·refine qs 17 ?_
        first | refine Gb (L' := L) (F' := F) Tryz.results179 HZ subA (hT ?_) | refine Gb (L' := L) (F' := F) Tryz.results179 HZ subA (hF ?_)
        first
        | exact ⟨by omega, by omega, by omega, fun i hi => hok i hi Jb⟩
        | exact fun e => absurd e.1 Jb
        | exact fun e => absurd e.2.1 Jb
        | exact fun e => absurd e.2.2.1 Jb
        | (intro e
           have he := e.2.2.2 q hql
           unfold elemAtP at he
           rw [hK, hKid, hKidP, hPrev] at he
           rcases he with ⟨h1, h2, h3, h4, h5, h6⟩ | ⟨h1, h2, h3, h4⟩
           first | exact c39 h1 | exact h3 c49 | exact h4 c57 | (have := h6 Jb c76; omega) | omega
           first | exact h1 c39 | exact absurd h2 (by rw [c89]; decide) | exact (h4 Jb).1 c108 | exact c97 h3 | exact absurd (h4 Jb).2 (by rw [c117]; decide) | omega)
       refine qs 14 ?_
       refine Gk (q + 1) ⟨by omega, ?_⟩ Jb srA (by first | exact Gf _ _ | exact Hh | exact Sub.drop.trans Hh | repeat (first | exact Gf _ _ | refine GI Hh ?_))
       intro j hj hjq
       rcases Nat.lt_succ_iff_lt_or_eq.1 hjq with k9 | rfl
       · exact hok j hj k9
       unfold elemAtP
       rw [hK, hKid, hKidP, hPrev]
       first
       | exact Or.inl ⟨c39, by omega, c49, c57, by omega, fun _ _ => by omega⟩
       | exact Or.inl ⟨c39, by omega, c49, c57, by omega, fun _ h1 => absurd h1 c76⟩
       | exact Or.inl ⟨c39, by omega, c49, c57, by omega, fun h0 _ => absurd h0 Jb⟩
       | exact Or.inr ⟨c39, c89, c97, fun _ => ⟨c108, c117⟩⟩
       | exact Or.inr ⟨c39, c89, c97, fun h0 => absurd h0 Jb⟩
      refine qs 24 ?_
      refine Gk (q + 1) ⟨by omega, ?_⟩ Jb srA (by first | exact Gf _ _ | exact Hh | exact Sub.drop.trans Hh | repeat (first | exact Gf _ _ | refine GI Hh ?_))
      intro j hj hjq
      rcases Nat.lt_succ_iff_lt_or_eq.1 hjq with k9 | rfl
      · exact hok j hj k9
      unfold elemAtP
      rw [hK, hKid, hKidP, hPrev]
      first
      | exact Or.inl ⟨c39, by omega, c49, c57, by omega, fun _ _ => by omega⟩
      | exact Or.inl ⟨c39, by omega, c49, c57, by omega, fun _ h1 => absurd h1 c76⟩
      | exact Or.inl ⟨c39, by omega, c49, c57, by omega, fun h0 _ => absurd h0 Jb⟩
      | exact Or.inr ⟨c39, c89, c97, fun _ => ⟨c108, c117⟩⟩
      | exact Or.inr ⟨c39, c89, c97, fun h0 => absurd h0 Jb⟩
     refine qs 32 ?_
     refine Gk (q + 1) ⟨by omega, ?_⟩ Jb srA (by first | exact Gf _ _ | exact Hh | exact Sub.drop.trans Hh | repeat (first | exact Gf _ _ | refine GI Hh ?_))
     intro j hj hjq
     rcases Nat.lt_succ_iff_lt_or_eq.1 hjq with k9 | rfl
     · exact hok j hj k9
     unfold elemAtP
     rw [hK, hKid, hKidP, hPrev]
     first
     | exact Or.inl ⟨c39, by omega, c49, c57, by omega, fun _ _ => by omega⟩
     | exact Or.inl ⟨c39, by omega, c49, c57, by omega, fun _ h1 => absurd h1 c76⟩
     | exact Or.inl ⟨c39, by omega, c49, c57, by omega, fun h0 _ => absurd h0 Jb⟩
     | exact Or.inr ⟨c39, c89, c97, fun _ => ⟨c108, c117⟩⟩
     | exact Or.inr ⟨c39, c89, c97, fun h0 => absurd h0 Jb⟩
    refine qs 14 ?_
    refine Ga (Hv HZ HZ HZ (fun c68 => ?_) (fun c68 => ?_))
    ·refine qs 5 ?_
     refine Gc HZ HZ (Gd (k := q - 1) HZ HZ HZ Jb memA Jb (fun _ _ => ?_))
     refine Gc HZ HZ (Gs HZ HZ ?_)
     intros
     refine Gc HZ HZ (Ge HZ HZ (rmark_c t.words[q - 1] (fun c76 => ?_) (fun c76 => ?_)))
     ·refine qs 6 ?_
      refine Gc HZ HZ (Gd (k := q - 1) HZ HZ HZ Jb memA Jb (fun _ _ => ?_))
      refine Gc HZ HZ (Gs HZ HZ ?_)
      intros
      refine qs 1 ?_
      refine Gc HZ HZ (GY HZ HZ HZ (fun c86 => ?_) (fun c86 => ?_))
      ·refine qs 17 ?_
       first | refine Gb (L' := L) (F' := F) Tryz.results179 HZ subA (hT ?_) | refine Gb (L' := L) (F' := F) Tryz.results179 HZ subA (hF ?_)
       first
       | exact ⟨by omega, by omega, by omega, fun i hi => hok i hi Jb⟩
       | exact fun e => absurd e.1 Jb
       | exact fun e => absurd e.2.1 Jb
       | exact fun e => absurd e.2.2.1 Jb
       | (intro e
          have he := e.2.2.2 q hql
          unfold elemAtP at he
          rw [hK, hKid, hKidP, hPrev] at he
          rcases he with ⟨h1, h2, h3, h4, h5, h6⟩ | ⟨h1, h2, h3, h4⟩
          first | exact c39 h1 | exact h3 c49 | exact h4 c57 | (have := h6 Jb c76; omega) | omega
          first | exact h1 c39 | exact absurd h2 (by rw [c89]; decide) | exact (h4 Jb).1 c108 | exact c97 h3 | exact absurd (h4 Jb).2 (by rw [c117]; decide) | omega)
      refine qs 14 ?_
      refine Gk (q + 1) ⟨by omega, ?_⟩ Jb srA (by first | exact Gf _ _ | exact Hh | exact Sub.drop.trans Hh | repeat (first | exact Gf _ _ | refine GI Hh ?_))
      intro j hj hjq
      rcases Nat.lt_succ_iff_lt_or_eq.1 hjq with k9 | rfl
      · exact hok j hj k9
      unfold elemAtP
      rw [hK, hKid, hKidP, hPrev]
      first
      | exact Or.inl ⟨c39, by omega, c49, c57, by omega, fun _ _ => by omega⟩
      | exact Or.inl ⟨c39, by omega, c49, c57, by omega, fun _ h1 => absurd h1 c76⟩
      | exact Or.inl ⟨c39, by omega, c49, c57, by omega, fun h0 _ => absurd h0 Jb⟩
      | exact Or.inr ⟨c39, c89, c97, fun _ => ⟨c108, c117⟩⟩
      | exact Or.inr ⟨c39, c89, c97, fun h0 => absurd h0 Jb⟩
     refine qs 24 ?_
     refine Gk (q + 1) ⟨by omega, ?_⟩ Jb srA (by first | exact Gf _ _ | exact Hh | exact Sub.drop.trans Hh | repeat (first | exact Gf _ _ | refine GI Hh ?_))
     intro j hj hjq
     rcases Nat.lt_succ_iff_lt_or_eq.1 hjq with k9 | rfl
     · exact hok j hj k9
     unfold elemAtP
     rw [hK, hKid, hKidP, hPrev]
     first
     | exact Or.inl ⟨c39, by omega, c49, c57, by omega, fun _ _ => by omega⟩
     | exact Or.inl ⟨c39, by omega, c49, c57, by omega, fun _ h1 => absurd h1 c76⟩
     | exact Or.inl ⟨c39, by omega, c49, c57, by omega, fun h0 _ => absurd h0 Jb⟩
     | exact Or.inr ⟨c39, c89, c97, fun _ => ⟨c108, c117⟩⟩
     | exact Or.inr ⟨c39, c89, c97, fun h0 => absurd h0 Jb⟩
    refine qs 32 ?_
    refine Gk (q + 1) ⟨by omega, ?_⟩ Jb srA (by first | exact Gf _ _ | exact Hh | exact Sub.drop.trans Hh | repeat (first | exact Gf _ _ | refine GI Hh ?_))
    intro j hj hjq
    rcases Nat.lt_succ_iff_lt_or_eq.1 hjq with k9 | rfl
    · exact hok j hj k9
    unfold elemAtP
    rw [hK, hKid, hKidP, hPrev]
    first
    | exact Or.inl ⟨c39, by omega, c49, c57, by omega, fun _ _ => by omega⟩
    | exact Or.inl ⟨c39, by omega, c49, c57, by omega, fun _ h1 => absurd h1 c76⟩
    | exact Or.inl ⟨c39, by omega, c49, c57, by omega, fun h0 _ => absurd h0 Jb⟩
    | exact Or.inr ⟨c39, c89, c97, fun _ => ⟨c108, c117⟩⟩
    | exact Or.inr ⟨c39, c89, c97, fun h0 => absurd h0 Jb⟩
   refine qs 9 ?_
   refine Ga (Ge HZ HZ (rname_c t.words[q] Jb (fun c89 => ?_) (fun c89 => ?_)))
   ·refine qs 4 ?_
    refine Gc HZ HZ (Gd (k := t.kids[q].toNat) HZ HZ HZ hkn memA hkl (fun _ _ => ?_))
    refine Gc HZ HZ (Ha HZ HZ (fun _ => ?_))
    refine Gc HZ HZ (Gs HZ HZ ?_)
    intros
    refine Gc HZ HZ (GG HZ HZ HZ (fun c97 => ?_) (fun c97 => ?_))
    ·refine qs 16 ?_
     first | refine Gb (L' := L) (F' := F) Tryz.results179 HZ subA (hT ?_) | refine Gb (L' := L) (F' := F) Tryz.results179 HZ subA (hF ?_)
     first
     | exact ⟨by omega, by omega, by omega, fun i hi => hok i hi Jb⟩
     | exact fun e => absurd e.1 Jb
     | exact fun e => absurd e.2.1 Jb
     | exact fun e => absurd e.2.2.1 Jb
     | (intro e
        have he := e.2.2.2 q hql
        unfold elemAtP at he
        rw [hK, hKid, hKidP, hPrev] at he
        rcases he with ⟨h1, h2, h3, h4, h5, h6⟩ | ⟨h1, h2, h3, h4⟩
        first | exact c39 h1 | exact h3 c49 | exact h4 c57 | (have := h6 Jb c76; omega) | omega
        first | exact h1 c39 | exact absurd h2 (by rw [c89]; decide) | exact (h4 Jb).1 c108 | exact c97 h3 | exact absurd (h4 Jb).2 (by rw [c117]; decide) | omega)
    refine qs 9 ?_
    refine Ga (Hv HZ HZ HZ (fun c100 => ?_) (fun c100 => ?_))
    ·refine qs 5 ?_
     refine Gc HZ HZ (Gd (k := q - 1) HZ HZ HZ Jb memA Jb (fun _ _ => ?_))
     refine Gc HZ HZ (Gs HZ HZ ?_)
     intros
     refine Gc HZ HZ (Ge HZ HZ (rmark_c t.words[q - 1] (fun c108 => ?_) (fun c108 => ?_)))
     ·refine qs 25 ?_
      first | refine Gb (L' := L) (F' := F) Tryz.results179 HZ subA (hT ?_) | refine Gb (L' := L) (F' := F) Tryz.results179 HZ subA (hF ?_)
      first
      | exact ⟨by omega, by omega, by omega, fun i hi => hok i hi Jb⟩
      | exact fun e => absurd e.1 Jb
      | exact fun e => absurd e.2.1 Jb
      | exact fun e => absurd e.2.2.1 Jb
      | (intro e
         have he := e.2.2.2 q hql
         unfold elemAtP at he
         rw [hK, hKid, hKidP, hPrev] at he
         rcases he with ⟨h1, h2, h3, h4, h5, h6⟩ | ⟨h1, h2, h3, h4⟩
         first | exact c39 h1 | exact h3 c49 | exact h4 c57 | (have := h6 Jb c76; omega) | omega
         first | exact h1 c39 | exact absurd h2 (by rw [c89]; decide) | exact (h4 Jb).1 c108 | exact c97 h3 | exact absurd (h4 Jb).2 (by rw [c117]; decide) | omega)
     refine qs 5 ?_
     refine Gc HZ HZ (Gd (k := q - 1) HZ HZ HZ Jb memA Jb (fun _ _ => ?_))
     refine Gc HZ HZ (Gs HZ HZ ?_)
     intros
     refine qs 1 ?_
     refine Gc HZ HZ (AO.geqS HZ HZ HZ (fun c117 => ?_) (fun c117 => ?_))
     ·refine qs 16 ?_
      first | refine Gb (L' := L) (F' := F) Tryz.results179 HZ subA (hT ?_) | refine Gb (L' := L) (F' := F) Tryz.results179 HZ subA (hF ?_)
      first
      | exact ⟨by omega, by omega, by omega, fun i hi => hok i hi Jb⟩
      | exact fun e => absurd e.1 Jb
      | exact fun e => absurd e.2.1 Jb
      | exact fun e => absurd e.2.2.1 Jb
      | (intro e
         have he := e.2.2.2 q hql
         unfold elemAtP at he
         rw [hK, hKid, hKidP, hPrev] at he
         rcases he with ⟨h1, h2, h3, h4, h5, h6⟩ | ⟨h1, h2, h3, h4⟩
         first | exact c39 h1 | exact h3 c49 | exact h4 c57 | (have := h6 Jb c76; omega) | omega
         first | exact h1 c39 | exact absurd h2 (by rw [c89]; decide) | exact (h4 Jb).1 c108 | exact c97 h3 | exact absurd (h4 Jb).2 (by rw [c117]; decide) | omega)
     refine qs 12 ?_
     refine Gk (q + 1) ⟨by omega, ?_⟩ Jb srA (by first | exact Gf _ _ | exact Hh | exact Sub.drop.trans Hh | repeat (first | exact Gf _ _ | refine GI Hh ?_))
     intro j hj hjq
     rcases Nat.lt_succ_iff_lt_or_eq.1 hjq with k9 | rfl
     · exact hok j hj k9
     unfold elemAtP
     rw [hK, hKid, hKidP, hPrev]
     first
     | exact Or.inl ⟨c39, by omega, c49, c57, by omega, fun _ _ => by omega⟩
     | exact Or.inl ⟨c39, by omega, c49, c57, by omega, fun _ h1 => absurd h1 c76⟩
     | exact Or.inl ⟨c39, by omega, c49, c57, by omega, fun h0 _ => absurd h0 Jb⟩
     | exact Or.inr ⟨c39, c89, c97, fun _ => ⟨c108, c117⟩⟩
     | exact Or.inr ⟨c39, c89, c97, fun h0 => absurd h0 Jb⟩
    refine qs 29 ?_
    refine Gk (q + 1) ⟨by omega, ?_⟩ Jb srA (by first | exact Gf _ _ | exact Hh | exact Sub.drop.trans Hh | repeat (first | exact Gf _ _ | refine GI Hh ?_))
    intro j hj hjq
    rcases Nat.lt_succ_iff_lt_or_eq.1 hjq with k9 | rfl
    · exact hok j hj k9
    unfold elemAtP
    rw [hK, hKid, hKidP, hPrev]
    first
    | exact Or.inl ⟨c39, by omega, c49, c57, by omega, fun _ _ => by omega⟩
    | exact Or.inl ⟨c39, by omega, c49, c57, by omega, fun _ h1 => absurd h1 c76⟩
    | exact Or.inl ⟨c39, by omega, c49, c57, by omega, fun h0 _ => absurd h0 Jb⟩
    | exact Or.inr ⟨c39, c89, c97, fun _ => ⟨c108, c117⟩⟩
    | exact Or.inr ⟨c39, c89, c97, fun h0 => absurd h0 Jb⟩
   refine qs 24 ?_
   first | refine Gb (L' := L) (F' := F) Tryz.results179 HZ subA (hT ?_) | refine Gb (L' := L) (F' := F) Tryz.results179 HZ subA (hF ?_)
   first
   | exact ⟨by omega, by omega, by omega, fun i hi => hok i hi Jb⟩
   | exact fun e => absurd e.1 Jb
   | exact fun e => absurd e.2.1 Jb
   | exact fun e => absurd e.2.2.1 Jb
   | (intro e
      have he := e.2.2.2 q hql
      unfold elemAtP at he
      rw [hK, hKid, hKidP, hPrev] at he
      rcases he with ⟨h1, h2, h3, h4, h5, h6⟩ | ⟨h1, h2, h3, h4⟩
      first | exact c39 h1 | exact h3 c49 | exact h4 c57 | (have := h6 Jb c76; omega) | omega
      first | exact h1 c39 | exact absurd h2 (by rw [c89]; decide) | exact (h4 Jb).1 c108 | exact c97 h3 | exact absurd (h4 Jb).2 (by rw [c117]; decide) | omega)
  refine qs 15 ?_
  first | refine Gb (L' := L) (F' := F) Tryz.results179 HZ subA (hT ?_) | refine Gb (L' := L) (F' := F) Tryz.results179 HZ subA (hF ?_)
  first
  | exact ⟨by omega, by omega, by omega, fun i hi => hok i hi Jb⟩
  | exact fun e => absurd e.1 Jb
  | exact fun e => absurd e.2.1 Jb
  | exact fun e => absurd e.2.2.1 Jb
  | (intro e
     have he := e.2.2.2 q hql
     unfold elemAtP at he
     rw [hK, hKid, hKidP, hPrev] at he
     rcases he with ⟨h1, h2, h3, h4, h5, h6⟩ | ⟨h1, h2, h3, h4⟩
     first | exact c39 h1 | exact h3 c49 | exact h4 c57 | (have := h6 Jb c76; omega) | omega
     first | exact h1 c39 | exact absurd h2 (by rw [c89]; decide) | exact (h4 Jb).1 c108 | exact c97 h3 | exact absurd (h4 Jb).2 (by rw [c117]; decide) | omega)
end
end Go.Sy
namespace Go.Sy
abbrev HW := @named_at
end Go.Sy
