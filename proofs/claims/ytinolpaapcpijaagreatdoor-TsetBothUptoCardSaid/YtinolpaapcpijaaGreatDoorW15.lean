/- Joined of my own texts: Shelf, Glo, Bld, Typ2, Typ3, Typ4, Typ5, Typ6, Typ7, TyA, TyB, TyC, TyD, TyE, TyH, SubP, SubA, FwX. -/
import Derived.Test.YtinolpaapcpijaaGreatDoorW14
import Derived.Shelf.Strings.Builder1
import Derived.Shelf.Strings.Builder2
import Derived.Shelf.Strings.OnBuilder
import Derived.Shelf.Small.Bits
import Derived.Shelf.Strings.BuilderF
import Derived.Shelf.Strings.BuilderK
import Derived.Shelf.Strings.Builder2Cap
import Derived.Shelf.Strconv.Itoa0
import Derived.Shelf.Strconv.Itoa1
import Derived.Shelf.LaysM
import Derived.Shelf.Strconv.Itoa2
import Derived.Shelf.Strconv.Itoa3
import Derived.Shelf.Strings.Search1
import Derived.Shelf.Strings.Search2
import Derived.Shelf.Strings.Cut
import Derived.Shelf.Strings.Shaped
import Derived.Shelf.Sort.Plain
import Derived.Shelf.Strings.Prefix
import Derived.Shelf.Slices.Turned
import Derived.Shelf.Slices.Equal
import Derived.Ground.Names2Prog
import Derived.Shelf.Slices.Clone
import Derived.Shelf.Slices.CompactS
import Derived.Shelf.Slices.Cells
import Derived.Shelf.Slices.In.SortNone
import Derived.Shelf.Slices.Empties2
import Derived.Ground.SlgnProg
import Derived.Shelf.SlicesE.Clone
import Derived.Shelf.SlSortCmp.NoneTotal
import Derived.Ground.SlsfProg
import Derived.Test.YtinolpaapcpijaaGreatDoorProg
namespace Go.Proofs
open Go.Shelf
def Tryz.sortTerm_ren : Go.Shelf.Ren := ⟨fun | 6 => 212 | 15 => 155 | 14 => 250 | 28 => 201 | 29 => 202 | 20 => 266 | 21 => 267 | 22 => 268 | 23 => 269 | 24 => 270 | 25 => 271 | 26 => 272 | 27 => 273 | 46 => 280 | 47 => 239 | 48 => 240 | 49 => 281 | 50 => 282 | 57 => 285 | n => n, fun | 22 => 263 | 24 => 266 | 25 => 269 | 3 => 3 | 39 => 218 | 0 => 0 | 53 => 257 | 55 => 259 | 4 => 4 | 46 => 251 | 45 => 250 | 50 => 91 | 5 => 5 | 9 => 9 | 66 => 283 | 70 => 287 | 76 => 298 | 77 => 299 | n => n, fun | n => n⟩
theorem Tryz.sortTerm : Go.Proofs.SlLaysF0.n6 Tryz.prog Tryz.sortTerm_ren := {
  mixed := by kernel_rfl
  f6 := ⟨Tryz.f212.name, by decide, Tryz.func212.trans (congrArg some (by kernel_rfl))⟩
  f14 := ⟨Tryz.f250.name, by decide, Tryz.func250.trans (congrArg some (by kernel_rfl))⟩
  f15 := Tryz.func155.trans (congrArg some (by kernel_rfl))
  f20 := ⟨Tryz.f266.name, by decide, Tryz.func266.trans (congrArg some (by kernel_rfl))⟩
  f21 := ⟨Tryz.f267.name, by decide, Tryz.func267.trans (congrArg some (by kernel_rfl))⟩
  f22 := ⟨Tryz.f268.name, by decide, Tryz.func268.trans (congrArg some (by kernel_rfl))⟩
  f23 := ⟨Tryz.f269.name, by decide, Tryz.func269.trans (congrArg some (by kernel_rfl))⟩
  f24 := ⟨Tryz.f270.name, by decide, Tryz.func270.trans (congrArg some (by kernel_rfl))⟩
  f25 := ⟨Tryz.f271.name, by decide, Tryz.func271.trans (congrArg some (by kernel_rfl))⟩
  f26 := ⟨Tryz.f272.name, by decide, Tryz.func272.trans (congrArg some (by kernel_rfl))⟩
  f27 := ⟨Tryz.f273.name, by decide, Tryz.func273.trans (congrArg some (by kernel_rfl))⟩
  f28 := Tryz.func201.trans (congrArg some (by kernel_rfl))
  f29 := Tryz.func202.trans (congrArg some (by kernel_rfl))
  f46 := ⟨Tryz.f280.name, by decide, Tryz.func280.trans (congrArg some (by kernel_rfl))⟩
  f47 := Tryz.func239.trans (congrArg some (by kernel_rfl))
  f48 := Tryz.func240.trans (congrArg some (by kernel_rfl))
  f49 := ⟨Tryz.f281.name, by decide, Tryz.func281.trans (congrArg some (by kernel_rfl))⟩
  f50 := ⟨Tryz.f282.name, by decide, Tryz.func282.trans (congrArg some (by kernel_rfl))⟩
  f57 := ⟨Tryz.f285.name, by decide, Tryz.func285.trans (congrArg some (by kernel_rfl))⟩
  t0 := Tryz.underlying0
  a0 := Tryz.isAgg0
  z0 := Tryz.sizeOf0
  v0 := Tryz.zeroValue0
  t3 := Tryz.underlying3
  a3 := Tryz.isAgg3
  z3 := Tryz.sizeOf3
  v3 := Tryz.zeroValue3
  t4 := Tryz.underlying4
  a4 := Tryz.isAgg4
  z4 := Tryz.sizeOf4
  v4 := Tryz.zeroValue4
  t5 := Tryz.underlying5
  a5 := Tryz.isAgg5
  z5 := Tryz.sizeOf5
  v5 := Tryz.zeroValue5
  t9 := Tryz.underlying9
  a9 := Tryz.isAgg9
  z9 := Tryz.sizeOf9
  v9 := Tryz.zeroValue9
  t22 := Tryz.underlying263
  a22 := Tryz.isAgg263
  z22 := Tryz.sizeOf263
  v22 := Tryz.zeroValue263
  t25 := Tryz.underlying269
  a25 := Tryz.isAgg269
  z25 := Tryz.sizeOf269
  v25 := Tryz.zeroValue269
  t39 := Tryz.underlying218
  a39 := Tryz.isAgg218
  z39 := Tryz.sizeOf218
  v39 := Tryz.zeroValue218
  t45 := Tryz.underlying250
  a45 := Tryz.isAgg250
  z45 := Tryz.sizeOf250
  v45 := Tryz.zeroValue250
  t46 := Tryz.underlying251
  a46 := Tryz.isAgg251
  z46 := Tryz.sizeOf251
  v46 := Tryz.zeroValue251
  t50 := Tryz.underlying91
  a50 := Tryz.isAgg91
  z50 := Tryz.sizeOf91
  v50 := Tryz.zeroValue91
  t53 := Tryz.underlying257
  a53 := Tryz.isAgg257
  z53 := Tryz.sizeOf257
  v53 := Tryz.zeroValue257
  t55 := Tryz.underlying259
  a55 := Tryz.isAgg259
  z55 := Tryz.sizeOf259
  v55 := Tryz.zeroValue259
  t66 := Tryz.underlying283
  a66 := Tryz.isAgg283
  z66 := Tryz.sizeOf283
  v66 := Tryz.zeroValue283
  t70 := Tryz.underlying287
  a70 := Tryz.isAgg287
  z70 := Tryz.sizeOf287
  v70 := Tryz.zeroValue287
  t76 := Tryz.underlying298
  a76 := Tryz.isAgg298
  z76 := Tryz.sizeOf298
  v76 := Tryz.zeroValue298
  t77 := Tryz.underlying299
  a77 := Tryz.isAgg299
  z77 := Tryz.sizeOf299
  v77 := Tryz.zeroValue299 }
def Tryz.laysM246_ren : Go.Shelf.Ren := ⟨fun | 246 => 244 | 283 => 259 | 284 => 260 | 285 => 261 | 286 => 262 | 129 => 202 | 317 => 276 | 318 => 277 | 319 => 278 | 320 => 279 | 337 => 283 | 338 => 284 | n => n, fun | 2 => 2 | 3 => 3 | 9 => 9 | 4 => 4 | 171 => 301 | 0 => 0 | 53 => 259 | 37 => 221 | 5 => 5 | 173 => 303 | 212 => 316 | 51 => 257 | 20 => 20 | 213 => 317 | 46 => 218 | 232 => 321 | 233 => 322 | n => n, fun | 17 => 1 | 18 => 2 | 19 => 3 | n => n⟩
def Tryz.laysM243_ren : Go.Shelf.Ren := ⟨fun | 243 => 204 | 246 => 244 | 283 => 259 | 284 => 260 | 285 => 261 | 286 => 262 | 129 => 202 | 317 => 276 | 318 => 277 | 319 => 278 | 320 => 279 | 337 => 283 | 338 => 284 | n => n, fun | 3 => 3 | 9 => 9 | 2 => 2 | 4 => 4 | 171 => 301 | 0 => 0 | 53 => 259 | 37 => 221 | 5 => 5 | 173 => 303 | 212 => 316 | 51 => 257 | 20 => 20 | 213 => 317 | 46 => 218 | 232 => 321 | 233 => 322 | n => n, fun | 17 => 1 | 18 => 2 | 19 => 3 | n => n⟩
def Tryz.laysM171_ren : Go.Shelf.Ren := ⟨fun | 171 => 158 | 243 => 204 | 246 => 244 | 283 => 259 | 284 => 260 | 285 => 261 | 286 => 262 | 129 => 202 | 317 => 276 | 318 => 277 | 319 => 278 | 320 => 279 | 337 => 283 | 338 => 284 | n => n, fun | 3 => 3 | 9 => 9 | 2 => 2 | 4 => 4 | 171 => 301 | 0 => 0 | 53 => 259 | 37 => 221 | 5 => 5 | 173 => 303 | 212 => 316 | 51 => 257 | 20 => 20 | 213 => 317 | 46 => 218 | 232 => 321 | 233 => 322 | n => n, fun | 17 => 1 | 18 => 2 | 19 => 3 | n => n⟩
theorem Tryz.laysM171 : Go.Proofs.LaysM.n171 Tryz.prog Tryz.laysM171_ren := {
  mixed := by kernel_rfl
  f129 := Tryz.func202.trans (congrArg some (by kernel_rfl))
  f171 := Tryz.func158.trans (congrArg some (by kernel_rfl))
  f243 := Tryz.func204.trans (congrArg some (by kernel_rfl))
  f246 := Tryz.func244.trans (congrArg some (by kernel_rfl))
  f283 := Tryz.func259.trans (congrArg some (by kernel_rfl))
  f284 := Tryz.func260.trans (congrArg some (by kernel_rfl))
  f285 := Tryz.func261.trans (congrArg some (by kernel_rfl))
  f286 := Tryz.func262.trans (congrArg some (by kernel_rfl))
  f317 := Tryz.func276.trans (congrArg some (by kernel_rfl))
  f318 := Tryz.func277.trans (congrArg some (by kernel_rfl))
  f319 := Tryz.func278.trans (congrArg some (by kernel_rfl))
  f320 := Tryz.func279.trans (congrArg some (by kernel_rfl))
  f337 := Tryz.func283.trans (congrArg some (by kernel_rfl))
  f338 := Tryz.func284.trans (congrArg some (by kernel_rfl))
  t0 := Tryz.underlying0
  a0 := Tryz.isAgg0
  z0 := Tryz.sizeOf0
  v0 := Tryz.zeroValue0
  t2 := Tryz.underlying2
  a2 := Tryz.isAgg2
  z2 := Tryz.sizeOf2
  v2 := Tryz.zeroValue2
  t3 := Tryz.underlying3
  a3 := Tryz.isAgg3
  z3 := Tryz.sizeOf3
  v3 := Tryz.zeroValue3
  t4 := Tryz.underlying4
  a4 := Tryz.isAgg4
  z4 := Tryz.sizeOf4
  v4 := Tryz.zeroValue4
  t5 := Tryz.underlying5
  a5 := Tryz.isAgg5
  z5 := Tryz.sizeOf5
  v5 := Tryz.zeroValue5
  t9 := Tryz.underlying9
  a9 := Tryz.isAgg9
  z9 := Tryz.sizeOf9
  v9 := Tryz.zeroValue9
  t20 := Tryz.underlying20
  a20 := Tryz.isAgg20
  z20 := Tryz.sizeOf20
  v20 := Tryz.zeroValue20
  t37 := Tryz.underlying221
  a37 := Tryz.isAgg221
  z37 := Tryz.sizeOf221
  v37 := Tryz.zeroValue221
  t46 := Tryz.underlying218
  a46 := Tryz.isAgg218
  z46 := Tryz.sizeOf218
  v46 := Tryz.zeroValue218
  t51 := Tryz.underlying257
  a51 := Tryz.isAgg257
  z51 := Tryz.sizeOf257
  v51 := Tryz.zeroValue257
  t53 := Tryz.underlying259
  a53 := Tryz.isAgg259
  z53 := Tryz.sizeOf259
  v53 := Tryz.zeroValue259
  t171 := Tryz.underlying301
  a171 := Tryz.isAgg301
  z171 := Tryz.sizeOf301
  v171 := Tryz.zeroValue301
  t173 := Tryz.underlying303
  a173 := Tryz.isAgg303
  z173 := Tryz.sizeOf303
  v173 := Tryz.zeroValue303
  t212 := Tryz.underlying316
  a212 := Tryz.isAgg316
  z212 := Tryz.sizeOf316
  v212 := Tryz.zeroValue316
  t213 := Tryz.underlying317
  a213 := Tryz.isAgg317
  z213 := Tryz.sizeOf317
  t232 := Tryz.underlying321
  a232 := Tryz.isAgg321
  z232 := Tryz.sizeOf321
  v232 := Tryz.zeroValue321
  t233 := Tryz.underlying322
  a233 := Tryz.isAgg322
  z233 := Tryz.sizeOf322
  v233 := Tryz.zeroValue322
  g17 := by kernel_rfl
  g18 := by kernel_rfl
  g19 := by kernel_rfl
  i0 := by kernel_rfl
  i2 := by kernel_rfl
  i3 := by kernel_rfl
  i4 := by kernel_rfl
  i5 := by kernel_rfl
  i9 := by kernel_rfl
  i20 := by kernel_rfl
  i37 := by kernel_rfl
  i46 := by kernel_rfl
  i51 := by kernel_rfl
  i53 := by kernel_rfl
  i171 := by kernel_rfl
  i173 := by kernel_rfl
  i212 := by kernel_rfl
  i232 := by kernel_rfl
  i233 := by kernel_rfl
  m17 := by kernel_rfl
  m18 := by kernel_rfl
  m19 := by kernel_rfl }
open Go.RowKit Go.Sort Go.Lib in
theorem Tryz.strconv_Itoa (n : Int) (h0 : -9223372036854775808 ≤ n) (h1 : n ≤ 9223372036854775807) (w : World) (htab : Lib.TabIs Tryz.prog w "internal/strconv.uint64pow10" .u64 Lib.pow10Tab) :
    Calls Tryz.prog 158 #[.int .i64 n] w fun e w' => e = .returned (.string ⟨(Lib.itoa n).toArray⟩) ∧ ∃ k os, w' = grow (w.drewN k) os := Any.strconv_Itoa Tryz.laysM171 n h0 h1 w htab
def Tryz.lays219_ren : Go.Shelf.Ren := ⟨fun | 219 => 207 | 217 => 245 | 225 => 246 | 224 => 247 | 267 => 248 | 266 => 263 | 314 => 264 | n => n, fun | 9 => 9 | 3 => 3 | 4 => 4 | 5 => 5 | 46 => 218 | 146 => 305 | 51 => 257 | n => n, fun | 1 => 0 | n => n⟩
def Tryz.lays145_ren : Go.Shelf.Ren := ⟨fun | 145 => 102 | 220 => 165 | 219 => 207 | 217 => 245 | 225 => 246 | 224 => 247 | 267 => 248 | 266 => 263 | 314 => 264 | n => n, fun | 9 => 9 | 4 => 4 | 59 => 166 | 3 => 3 | 5 => 5 | 46 => 218 | 146 => 305 | 51 => 257 | n => n, fun | 1 => 0 | n => n⟩
theorem Tryz.lays145 : Go.Proofs.Lays.n145 Tryz.prog Tryz.lays145_ren := {
  mixed := by kernel_rfl
  f145 := Tryz.func102.trans (congrArg some (by kernel_rfl))
  f217 := Tryz.func245.trans (congrArg some (by kernel_rfl))
  f219 := Tryz.func207.trans (congrArg some (by kernel_rfl))
  f220 := Tryz.func165.trans (congrArg some (by kernel_rfl))
  f224 := Tryz.func247.trans (congrArg some (by kernel_rfl))
  f225 := Tryz.func246.trans (congrArg some (by kernel_rfl))
  f266 := Tryz.func263.trans (congrArg some (by kernel_rfl))
  f267 := Tryz.func248.trans (congrArg some (by kernel_rfl))
  f314 := Tryz.func264.trans (congrArg some (by kernel_rfl))
  t3 := Tryz.underlying3
  a3 := Tryz.isAgg3
  z3 := Tryz.sizeOf3
  v3 := Tryz.zeroValue3
  t4 := Tryz.underlying4
  a4 := Tryz.isAgg4
  z4 := Tryz.sizeOf4
  v4 := Tryz.zeroValue4
  t5 := Tryz.underlying5
  a5 := Tryz.isAgg5
  z5 := Tryz.sizeOf5
  v5 := Tryz.zeroValue5
  t9 := Tryz.underlying9
  a9 := Tryz.isAgg9
  z9 := Tryz.sizeOf9
  v9 := Tryz.zeroValue9
  t46 := Tryz.underlying218
  a46 := Tryz.isAgg218
  z46 := Tryz.sizeOf218
  v46 := Tryz.zeroValue218
  t51 := Tryz.underlying257
  a51 := Tryz.isAgg257
  z51 := Tryz.sizeOf257
  v51 := Tryz.zeroValue257
  t59 := Tryz.underlying166
  a59 := Tryz.isAgg166
  z59 := Tryz.sizeOf166
  v59 := Tryz.zeroValue166
  t146 := Tryz.underlying305
  a146 := Tryz.isAgg305
  z146 := Tryz.sizeOf305
  v146 := Tryz.zeroValue305
  g1 := by kernel_rfl }
open Go.RowKit Go.Lib in
theorem Tryz.strings_Cut (s sep : ByteArray) (m : Int) (w : World) (hs : s.size < 4294967281) (hm : w.cell? ⟨0, 0, none⟩ = some (.int .i64 m)) :
    Calls Tryz.prog 102 #[.string s, .string sep] w fun e w' => e = .returned (.tuple #[.string ⟨(Lib.cut s.data.toList sep.data.toList).1.toArray⟩, .string ⟨(Lib.cut s.data.toList sep.data.toList).2.1.toArray⟩, .bool (Lib.cut s.data.toList sep.data.toList).2.2]) ∧ ∃ n, w' = w.drewN n := Any.strings_Cut Tryz.lays145 s sep m w hs hm
def Tryz.lays206_ren : Go.Shelf.Ren := ⟨fun | 206 => 237 | n => n, fun | 9 => 9 | 4 => 4 | 3 => 3 | n => n, fun | n => n⟩
def Tryz.lays99_ren : Go.Shelf.Ren := ⟨fun | 99 => 190 | 206 => 237 | n => n, fun | 9 => 9 | 4 => 4 | 3 => 3 | n => n, fun | n => n⟩
theorem Tryz.lays99 : Go.Proofs.Lays.n99 Tryz.prog Tryz.lays99_ren := {
  mixed := by kernel_rfl
  f99 := Tryz.func190.trans (congrArg some (by kernel_rfl))
  f206 := Tryz.func237.trans (congrArg some (by kernel_rfl))
  t3 := Tryz.underlying3
  a3 := Tryz.isAgg3
  z3 := Tryz.sizeOf3
  v3 := Tryz.zeroValue3
  t4 := Tryz.underlying4
  a4 := Tryz.isAgg4
  z4 := Tryz.sizeOf4
  v4 := Tryz.zeroValue4
  t9 := Tryz.underlying9
  a9 := Tryz.isAgg9
  z9 := Tryz.sizeOf9
  v9 := Tryz.zeroValue9 }
open Go.RowKit Go.Lib in
theorem Tryz.strings_HasPrefix (s p : ByteArray) (w : World) :
    Calls Tryz.prog 190 #[.string s, .string p] w fun e w' => e = .returned (.bool (Lib.hasPrefix s.data.toList p.data.toList)) ∧ w' = w := Any.strings_HasPrefix Tryz.lays99 s p w
def Tryz.lays101_ren : Go.Shelf.Ren := ⟨fun | 101 => 153 | 208 => 191 | 206 => 237 | n => n, fun | 9 => 9 | 4 => 4 | 3 => 3 | n => n, fun | n => n⟩
theorem Tryz.lays101 : Go.Proofs.Lays.n101 Tryz.prog Tryz.lays101_ren := {
  mixed := by kernel_rfl
  f101 := Tryz.func153.trans (congrArg some (by kernel_rfl))
  f206 := Tryz.func237.trans (congrArg some (by kernel_rfl))
  f208 := Tryz.func191.trans (congrArg some (by kernel_rfl))
  t3 := Tryz.underlying3
  a3 := Tryz.isAgg3
  z3 := Tryz.sizeOf3
  v3 := Tryz.zeroValue3
  t4 := Tryz.underlying4
  a4 := Tryz.isAgg4
  z4 := Tryz.sizeOf4
  v4 := Tryz.zeroValue4
  t9 := Tryz.underlying9
  a9 := Tryz.isAgg9
  z9 := Tryz.sizeOf9
  v9 := Tryz.zeroValue9 }
open Go.RowKit Go.Lib in
theorem Tryz.strings_TrimPrefix (s p : ByteArray) (w : World) :
    Calls Tryz.prog 153 #[.string s, .string p] w fun e w' => e = .returned (.string ⟨(Lib.trimPrefix s.data.toList p.data.toList).toArray⟩) ∧ w' = w := Any.strings_TrimPrefix Tryz.lays101 s p w
end Go.Proofs
namespace Go.Sy
open Go Go.Proofs Go.RowKit
structure Glob (W0 : World) : Prop where
  big : ∃ m, W0.cell? ⟨0, 0, none⟩ = some (.int .i64 m)
  tab : Lib.TabIs Tryz.prog W0 "internal/strconv.uint64pow10" .u64 Lib.pow10Tab
theorem dec_len : ∀ (k u : Nat), u < 10 ^ (k + 1) → (Lib.decDigits u).length ≤ k + 1
  | 0, u, h => by
    unfold Lib.decDigits
    have : u < 10 := by simpa using h
    simp [this]
  | k + 1, u, h => by
    unfold Lib.decDigits
    split
    · simp
    have h2 : u / 10 < 10 ^ (k + 1) := by
      apply Nat.div_lt_of_lt_mul
      have : 10 ^ (k + 1 + 1) = 10 * 10 ^ (k + 1) := by rw [Nat.pow_succ, Nat.mul_comm]
      omega
    have := dec_len k (u / 10) h2
    simp; omega
theorem itoa_len {n : Int} (h : -9223372036854775808 ≤ n ∧ n ≤ 9223372036854775807) : (Lib.itoa n).length ≤ 20 := by
  have e : (10 : Nat) ^ (18 + 1) = 10000000000000000000 := by decide
  unfold Lib.itoa
  split
  · have := dec_len 18 n.natAbs HW; simp; omega
  have := dec_len 18 n.toNat HW; omega
attribute [local irreducible] AC AT AO AK AH ACalls Sub Res.cells Res.obj Res.nix Res.own Exit.then Exit.inBlock bodyPost Code.wp Code.wpIn WL Next Post Kont
section
variable {W0 : World} {L : List Res} {F : List Fact} {R : Value → List Res → List Fact → Prop}
set_option maxRecDepth 100000
theorem Glob.bigAt {w : World} (g : Glob W0) (s : Sat W0 L F w) : ∃ m, w.cell? ⟨0, 0, none⟩ = some (.int .i64 m) := by
  obtain ⟨m, hm⟩ := g.big
  exact ⟨m, cell_of_block (s.below.block _ (cell_block_lt hm)) hm⟩
theorem Glob.tabAt {w : World} (g : Glob W0) (s : Sat W0 L F w) : Lib.TabIs Tryz.prog w "internal/strconv.uint64pow10" .u64 Lib.pow10Tab := by
  have h : World.var? Tryz.prog W0 _ = _ := g.tab
  show World.var? Tryz.prog w _ = _
  unfold World.var? at h ⊢
  cases hg : Tryz.prog.globalNamed "internal/strconv.uint64pow10" with
  | none => rw [hg] at h; simp at h
  | some b =>
    rw [hg] at h
    simp only [Option.bind_some] at h ⊢
    have : b < W0.heap.size := by
      rcases Nat.lt_or_ge b W0.heap.size with k | k
      · exact k
      rw [Array.getElem?_eq_none k] at h; simp at h
    rw [s.below.block b this]; exact h
theorem cut_c (g : Glob W0) (s : List UInt8) (c : UInt8) (hs : s.length < 4294967281) (h : R (.tuple #[S (cutD c s).1, S (cutD c s).2.1, .bool (cutD c s).2.2]) L F) : ACalls Tryz.prog W0 102 #[S s, S [c]] L F R := by
  refine ACalls.libD (fun w sat => ?_) h
  obtain ⟨m, hm⟩ := g.bigAt sat
  have := Tryz.strings_Cut ⟨s.toArray⟩ ⟨#[c]⟩ m w (by simpa [ByteArray.size] using hs) hm
  have e : Lib.cut (⟨s.toArray⟩ : ByteArray).data.toList (⟨#[c]⟩ : ByteArray).data.toList = cutD c s := cut_eq c s
  rw [e] at this
  exact this
theorem itoa_c (g : Glob W0) (n : Int) (hn : -9223372036854775808 ≤ n ∧ n ≤ 9223372036854775807) (h : R (S (Lib.itoa n)) L F) : ACalls Tryz.prog W0 158 #[.int .i64 n] L F R :=
  ACalls.libG (fun w sat => Tryz.strconv_Itoa n hn.1 hn.2 w (g.tabAt sat)) h
end
end Go.Sy
namespace Go.Sy
open Go Go.Proofs
attribute [local irreducible] AC AT AO AK AH ACalls Sub Res.cells Res.obj Res.nix Res.own Exit.then Exit.inBlock bodyPost Code.wp Code.wpIn WL Next Post Kont
section
variable {W0 : World} {L : List Res} {F : List Fact} {R : Value → List Res → List Fact → Prop}
set_option maxRecDepth 100000
set_option maxHeartbeats 4000000
theorem bcheck0_c {b i : Nat} {v : Value} (hi : L[i]? = some (Res.cells b #[.pointer none, v] 223)) (h : R (.tuple #[]) (L.set i (Res.cells b #[.pointer (some ⟨b, 0, none⟩), v] 223)) F) :
    ACalls Tryz.prog W0 203 #[.pointer (some ⟨b, 0, none⟩)] L F R := by
  refine Ge Tryz.func203 HU Tryz.ntmps203 HU ?_
  refine qs 3 ?_
  refine Ga (Gu HU HU ?_)
  refine qs 1 ?_
  refine Ga (Gw (cs := [.pointer none, v]) HU HU ?_ (hi := hi) (hv := HU))
  refine Ga (AO.eqlP Tryz.underlying220 HU HU HU ?_)
  refine qs 6 ?_
  refine Ga (AO.toUnsafe (m := 2) Tryz.underlying220 Tryz.underlying289 HV HU hi (Nat.zero_lt_succ 1) HU HU ?_)
  refine Ga (AO.noEscape Tryz.func243 HV HV HV HV HU HU ?_)
  refine Ga (AO.fromUnsafe Tryz.underlying289 Tryz.underlying220 HV hi HV HU HU ?_)
  refine Ga (Gu HU HU ?_)
  refine qs 1 ?_
  refine Ga (Gs (i := i) (cs := [.pointer none, v]) HU HU HU ?_ (hi := hi) (ho := HU))
  refine qs 1 ?_
  exact AK.end0 Tryz.results203 (Gk _ _) h
theorem bcheck1_c {b i : Nat} {v : Value} (hi : L[i]? = some (Res.cells b #[.pointer (some ⟨b, 0, none⟩), v] 223)) (h : R (.tuple #[]) L F) :
    ACalls Tryz.prog W0 203 #[.pointer (some ⟨b, 0, none⟩)] L F R := by
  refine Ge Tryz.func203 HU Tryz.ntmps203 HU ?_
  refine qs 3 ?_
  refine Ga (Gu HU HU ?_)
  refine qs 1 ?_
  refine Ga (Gw (cs := [.pointer (some ⟨b, 0, none⟩), v]) HU HU ?_ (hi := hi) (hv := HU))
  refine Ga (AO.eqlP Tryz.underlying220 HU HU HU ?_)
  refine qs 6 ?_
  refine Ga (Gu HU HU ?_)
  refine qs 1 ?_
  refine Ga (Gw (cs := [.pointer (some ⟨b, 0, none⟩), v]) HU HU ?_ (hi := hi) (hv := HU))
  refine qs 1 ?_
  refine Ga (AO.neqPs Tryz.underlying220 HV HU HU HU ?_)
  refine qs 4 ?_
  exact AK.end0 Tryz.results203 (Gk _ _) h
theorem set3 {α : Type} {l : List α} {i j : Nat} {a o c : α} (hij : i ≠ j) : (((l.set i a).set j o).set i c) = (l.set j o).set i c := by
  rw [List.set_comm a o hij, List.set_set]
theorem wstr0_c {b i j : Nat} {v : Value} {lst s : List UInt8} (hij : i ≠ j) (hi : L[i]? = some (Res.cells b #[.pointer none, v] 223)) (hj : L[j]? = some (Res.own v 5 1 (lst.map eB))) (hlen : lst.length + s.length ≤ 100000000)
    (h : ∀ a k c, (Value.slice a k c = .slice none 0 0 ↔ v = .slice none 0 0 ∧ s = []) → R (.tuple #[.int .i64 s.length, .nilIface]) ((L.set j (Res.own (.slice a k c) 5 1 ((lst ++ s).map eB))).set i (Res.cells b #[.pointer (some ⟨b, 0, none⟩), .slice a k c] 223)) F) :
    ACalls Tryz.prog W0 157 #[.pointer (some ⟨b, 0, none⟩), S s] L F R := by
  have hml : 1000000000 ≤ maxLen := by decide
  have hi1 : (L.set i (Res.cells b #[.pointer (some ⟨b, 0, none⟩), v] 223))[i]? = some (Res.cells b #[.pointer (some ⟨b, 0, none⟩), v] 223) := by simp [HD hi]
  have hj1 : (L.set i (Res.cells b #[.pointer (some ⟨b, 0, none⟩), v] 223))[j]? = some (Res.own v 5 1 (lst.map eB)) := by rw [List.getElem?_set_ne hij]; exact hj
  refine Ge Tryz.func157 HU Tryz.ntmps157 HU ?_
  refine qs 9 ?_
  refine Ga (Gd HU HU (bcheck0_c hi ?_))
  refine qs 6 ?_
  refine Ga (Gu HU HU ?_)
  refine qs 1 ?_
  refine Ga (Gw (cs := [.pointer (some ⟨b, 0, none⟩), v]) HU HU ?_ (hi := hi1) (hv := HU))
  refine qs 1 ?_
  refine Ga (AO.appendS (i := j) HU HU HU hj1 HW HW (fun a14 k14 z14 n14 => ?_))
  refine Ga (Gu HU HU ?_)
  refine qs 1 ?_
  have hi2 : ((L.set i (Res.cells b #[.pointer (some ⟨b, 0, none⟩), v] 223)).set j (Res.own (.slice a14 k14 z14) 5 1 ((lst ++ s).map eB)))[i]? = some (Res.cells b #[.pointer (some ⟨b, 0, none⟩), v] 223) := by rw [List.getElem?_set_ne hij.symm]; exact hi1
  refine Ga (Gs (i := i) (cs := [.pointer (some ⟨b, 0, none⟩), v]) HU HU HU ?_ (hi := hi2) (ho := HU))
  refine qs 11 ?_
  refine Hg (F' := F) Tryz.results157 HU HU (Hn ?_) (h a14 k14 z14 n14)
  exact set3 hij
theorem wstr1_c {b i j : Nat} {v : Value} {lst s : List UInt8} (hij : i ≠ j) (hi : L[i]? = some (Res.cells b #[.pointer (some ⟨b, 0, none⟩), v] 223)) (hj : L[j]? = some (Res.own v 5 1 (lst.map eB))) (hlen : lst.length + s.length ≤ 100000000)
    (h : ∀ a k c, (Value.slice a k c = .slice none 0 0 ↔ v = .slice none 0 0 ∧ s = []) → R (.tuple #[.int .i64 s.length, .nilIface]) ((L.set j (Res.own (.slice a k c) 5 1 ((lst ++ s).map eB))).set i (Res.cells b #[.pointer (some ⟨b, 0, none⟩), .slice a k c] 223)) F) :
    ACalls Tryz.prog W0 157 #[.pointer (some ⟨b, 0, none⟩), S s] L F R := by
  have hml : 1000000000 ≤ maxLen := by decide
  have hi1 : (L)[i]? = some (Res.cells b #[.pointer (some ⟨b, 0, none⟩), v] 223) := by exact hi
  have hj1 : (L)[j]? = some (Res.own v 5 1 (lst.map eB)) := by exact hj
  refine Ge Tryz.func157 HU Tryz.ntmps157 HU ?_
  refine qs 9 ?_
  refine Ga (Gd HU HU (bcheck1_c hi ?_))
  refine qs 6 ?_
  refine Ga (Gu HU HU ?_)
  refine qs 1 ?_
  refine Ga (Gw (cs := [.pointer (some ⟨b, 0, none⟩), v]) HU HU ?_ (hi := hi1) (hv := HU))
  refine qs 1 ?_
  refine Ga (AO.appendS (i := j) HU HU HU hj1 HW HW (fun a14 k14 z14 n14 => ?_))
  refine Ga (Gu HU HU ?_)
  refine qs 1 ?_
  have hi2 : ((L).set j (Res.own (.slice a14 k14 z14) 5 1 ((lst ++ s).map eB)))[i]? = some (Res.cells b #[.pointer (some ⟨b, 0, none⟩), v] 223) := by rw [List.getElem?_set_ne hij.symm]; exact hi1
  refine Ga (Gs (i := i) (cs := [.pointer (some ⟨b, 0, none⟩), v]) HU HU HU ?_ (hi := hi2) (ho := HU))
  refine qs 11 ?_
  refine Hg (F' := F) Tryz.results157 HU HU (Hn ?_) (h a14 k14 z14 n14)
  rfl
theorem wstr_c {b i j : Nat} {p : Option Addr} {v : Value} {lst s : List UInt8} (hp : p = none ∨ p = some ⟨b, 0, none⟩) (hij : i ≠ j) (hi : L[i]? = some (Res.cells b #[.pointer p, v] 223)) (hj : L[j]? = some (Res.own v 5 1 (lst.map eB))) (hlen : lst.length + s.length ≤ 100000000)
    (h : ∀ a k c, (Value.slice a k c = .slice none 0 0 ↔ v = .slice none 0 0 ∧ s = []) → R (.tuple #[.int .i64 s.length, .nilIface]) ((L.set j (Res.own (.slice a k c) 5 1 ((lst ++ s).map eB))).set i (Res.cells b #[.pointer (some ⟨b, 0, none⟩), .slice a k c] 223)) F) :
    ACalls Tryz.prog W0 157 #[.pointer (some ⟨b, 0, none⟩), S s] L F R := by
  rcases hp with rfl | rfl
  · exact wstr0_c hij hi hj hlen h
  exact wstr1_c hij hi hj hlen h
theorem bstr0_c {b i : Nat} {p : Option Addr} (hi : L[i]? = some (Res.cells b #[.pointer p, .slice none 0 0] 223)) (h : R (S []) L F) :
    ACalls Tryz.prog W0 159 #[.pointer (some ⟨b, 0, none⟩)] L F R := by
  refine Ge Tryz.func159 HU Tryz.ntmps159 HU ?_
  refine qs 6 ?_
  refine GO (fun _ => false) [(b, [.pointer p, .slice none 0 0], 223)] (.cons hi .nil) HU (fun hx hX => ?_)
  refine GF (i := 0) HU (Y.move HU) HV HU HU ?_
  refine GF (i := 1) HU (Y.nilCheckP HU) HV HU HU ?_
  refine GF (i := 2) HU (Y.field HU) HV HU HU ?_
  refine GV (i := 3) HU (Y.loadB HU (.head _) (by rfl)) HV HV HU HU HU ?_
  refine GF (i := 5) HU (Y.move HU) HV HU HU ?_
  refine GF (i := 6) HU (Y.nilCheckP HU) HV HU HU ?_
  refine GF (i := 7) HU (Y.field HU) HV HU HU ?_
  refine GV (i := 8) HU (Y.loadB HU (.head _) (by rfl)) HV HV HU HU HU ?_
  refine GF (i := 9) HU (Y.lenV HU) HV HU HU ?_
  refine Gf (i := 4) HV HU HU (fun _ => ?_)
  refine AO.sliceData0 HU HU ?_
  refine Gc (.cons hi .nil) mem0 ?_
  refine Gf (i := 10) HV HU HU (fun _ => ?_)
  refine AO.unsafeStr0 HU HU HU ?_
  refine Gc (.cons hi .nil) mem0 ?_
  refine GF (i := 11) HU (Y.assign HU) HV HU HU ?_
  refine Gm HV ?_
  refine qs 2 ?_
  exact Gb (L' := L) (F' := F) Tryz.results159 rfl subF h
theorem bstr1_c {b i j g k : Nat} {p : Option Addr} {lst : List UInt8} (hij : i ≠ j) (hk : k ≠ 0) (hne : lst ≠ []) (hi : L[i]? = some (Res.cells b #[.pointer p, .slice (some ⟨g, 0, none⟩) lst.length k] 223)) (hj : L[j]? = some (Res.own (.slice (some ⟨g, 0, none⟩) lst.length k) 5 1 (lst.map eB)))
    (h : R (S lst) (L.set j Res.nix) F) : ACalls Tryz.prog W0 159 #[.pointer (some ⟨b, 0, none⟩)] L F R := by
  have hi2 : (L.set j Res.nix)[i]? = some (Res.cells b #[.pointer p, .slice (some ⟨g, 0, none⟩) lst.length k] 223) := by rw [List.getElem?_set_ne hij.symm]; exact hi
  refine Ge Tryz.func159 HU Tryz.ntmps159 HU ?_
  refine qs 6 ?_
  refine GO (fun _ => false) [(b, [.pointer p, .slice (some ⟨g, 0, none⟩) lst.length k], 223)] (.cons hi .nil) HU (fun hx hX => ?_)
  refine GF (i := 0) HU (Y.move HU) HV HU HU ?_
  refine GF (i := 1) HU (Y.nilCheckP HU) HV HU HU ?_
  refine GF (i := 2) HU (Y.field HU) HV HU HU ?_
  refine GV (i := 3) HU (Y.loadB HU (.head _) (by rfl)) HV HV HU HU HU ?_
  refine GF (i := 5) HU (Y.move HU) HV HU HU ?_
  refine GF (i := 6) HU (Y.nilCheckP HU) HV HU HU ?_
  refine GF (i := 7) HU (Y.field HU) HV HU HU ?_
  refine GV (i := 8) HU (Y.loadB HU (.head _) (by rfl)) HV HV HU HU HU ?_
  refine GF (i := 9) HU (Y.lenV HU) HV HU HU ?_
  refine Gf (i := 4) HV HU HU (fun _ => ?_)
  refine AO.sliceData1 HU hk HU ?_
  refine Gc (.cons hi .nil) mem0 ?_
  refine Gf (i := 10) HV HU HU (fun _ => ?_)
  refine AO.unsafeStr1 Tryz.underlying260 HV HU HU HU hj hne ?_
  refine Gc (.cons hi2 .nil) mem0 ?_
  refine GF (i := 11) HU (Y.assign HU) HV HU HU ?_
  refine Gm HV ?_
  refine qs 2 ?_
  exact Gb (L' := L.set j Res.nix) (F' := F) Tryz.results159 rfl subF h
theorem bstr_c {b i j : Nat} {p : Option Addr} {v : Value} {lst : List UInt8} (hij : i ≠ j) (hi : L[i]? = some (Res.cells b #[.pointer p, v] 223)) (hj : L[j]? = some (Res.own v 5 1 (lst.map eB))) (hn : lst = [] → v = .slice none 0 0)
    (h : R (S lst) (L.set j Res.nix) F) : ACalls Tryz.prog W0 159 #[.pointer (some ⟨b, 0, none⟩)] L F R := by
  by_cases hne : lst = []
  · have hv := hn hne
    subst hne hv
    exact Hr (Sub.dropAt hj) (bstr0_c (L := L.set j Res.nix) (by rw [List.getElem?_set_ne hij.symm]; exact hi) h)
  refine ACalls.ownForm hj hne (fun g c hv hc => ?_)
  subst hv
  exact bstr1_c hij hc hne hi hj h
end
end Go.Sy
namespace Go.Sy
open Go Go.Proofs Go.RowKit
structure TyOk (t : Ty) : Prop where
  kind : -9223372036854775808 ≤ t.kind ∧ t.kind ≤ 9223372036854775807
  n : -9223372036854775808 ≤ t.n ∧ t.n ≤ 9223372036854775807
  name : t.name.length ≤ 60
  words : t.words.length ≤ 20
  word : ∀ w ∈ t.words, w.length ≤ 1048576
  kids : t.kids.length ≤ 20
  kid : ∀ k ∈ t.kids, -9223372036854775808 ≤ k ∧ k ≤ 9223372036854775807
structure TyOk2 (t : Ty) : Prop where
  kind : -9223372036854775808 ≤ t.kind ∧ t.kind ≤ 9223372036854775807
  n : -9223372036854775808 ≤ t.n ∧ t.n ≤ 9223372036854775807
  name : t.name.length ≤ 60
  words : t.words.length ≤ 40
  word : ∀ w ∈ t.words, w.length ≤ 1048576
  kids : t.kids.length ≤ 40
  kid : ∀ k ∈ t.kids, -9223372036854775808 ≤ k ∧ k ≤ 9223372036854775807
theorem TyOk.up {t : Ty} (h : TyOk t) : TyOk2 t := ⟨h.kind, h.n, h.name, by have := h.words; omega, h.word, by have := h.kids; omega, h.kid⟩
abbrev vKey (k : Key) : Value := .agg #[.int .i64 k.kind, .int .i64 k.n, S k.name, S k.words, S k.kids, S k.lengths]
theorem flat_len {m : Nat} : ∀ (l : List (List UInt8)), (∀ s ∈ l, s.length ≤ m) → l.flatten.length ≤ m * l.length
  | [], _ => by simp
  | s :: l, h => by
    have ih := flat_len l (fun x hx => h x (.tail _ hx))
    have hs := h s (.head _)
    simp only [List.flatten_cons, List.length_append, List.length_cons, Nat.mul_succ]
    omega
theorem commas_len : ∀ (l : List Int), (∀ k ∈ l, -9223372036854775808 ≤ k ∧ k ≤ 9223372036854775807) → (commas l).length ≤ 21 * l.length
  | [], _ => by simp [commas]
  | k :: l, h => by
    have ih := commas_len l (fun x hx => h x (.tail _ hx))
    have hs := itoa_len (h k (.head _))
    rw [commas_cons]
    simp only [List.length_append, List.length_cons, Nat.mul_succ]
    omega
theorem flat_step {l : List (List UInt8)} {q : Nat} (hq : q < l.length) : (l.take q).flatten ++ l[q] = (l.take (q + 1)).flatten := by
  rw [List.take_succ_eq_append_getElem hq, List.flatten_append]; simp only [List.flatten_cons, List.flatten_nil, List.append_nil]
theorem lens_step {l : List (List UInt8)} {q : Nat} (hq : q < l.length) : commas (lensOf (l.take q)) ++ (Lib.itoa (l[q].length : Int) ++ [44]) = commas (lensOf (l.take (q + 1))) := by
  rw [List.take_succ_eq_append_getElem hq, lensOf, lensOf, List.map_append, List.map_cons, List.map_nil, commas_snoc]
theorem kids_step {l : List Int} {q : Nat} (hq : q < l.length) : commas (l.take q) ++ (Lib.itoa l[q] ++ [44]) = commas (l.take (q + 1)) := by
  rw [List.take_succ_eq_append_getElem hq, commas_snoc]
theorem nil_keep {v v' : Value} {a b : List UInt8} (h : a = [] → v = .slice none 0 0) (hn : v' = .slice none 0 0 ↔ v = .slice none 0 0 ∧ b = []) : a ++ b = [] → v' = .slice none 0 0 := by
  intro e
  have := List.append_eq_nil_iff.1 e
  exact hn.2 ⟨h this.1, this.2⟩
theorem lens_ok {l : List (List UInt8)} (h : ∀ w ∈ l, w.length ≤ 1048576) : ∀ k ∈ lensOf l, -9223372036854775808 ≤ k ∧ k ≤ 9223372036854775807 := by
  intro k hk
  unfold lensOf at hk
  obtain ⟨w, hw, rfl⟩ := List.mem_map.1 hk
  have := h w hw
  omega
attribute [local irreducible] AC AT AO AK AH ACalls Sub Res.cells Res.obj Res.nix Res.own Exit.then Exit.inBlock bodyPost Code.wp Code.wpIn WL Next Post Kont
section
variable {W0 : World} {L : List Res} {F : List Fact} {R : Value → List Res → List Fact → Prop}
set_option maxRecDepth 100000
set_option maxHeartbeats 4000000
theorem keyOf_c (g : Glob W0) (t : Ty) (ht : TyOk2 t) {a1 a2 : Option Addr} {k1 c1 k2 c2 : Nat} (m1 : fW t a1 k1 c1 ∈ F) (m2 : fK t a2 k2 c2 ∈ F) (h : R (vKey (keyT t)) L F) :
    ACalls Tryz.prog W0 100 #[vTy t a1 k1 c1 a2 k2 c2] L F R := by
  have hw := ht.word
  have hwl := ht.words
  have hk := ht.kid
  have hkl := ht.kids
  have hml : 1000000000 ≤ maxLen := by decide
  refine Ge Tryz.func100 HU Tryz.ntmps100 HU ?_
  refine qs 2 ?_
  refine Ga (GJ HU HU (fun b1 => (Ga (Gq HU (fun b2 => ?_)))))
  refine qs 11 ?_
  refine Ga (Gq HU (fun b3 => ?_))
  refine qs 5 ?_
  refine Ga (Gq HU (fun b4 => (Ga (Gq HU (fun b5 => (Ga (Gq HU (fun b6 => ?_))))))))
  refine Gz ((Ha (e := 5) (sz := 1)).trans ((Ha (e := 5) (sz := 1)).trans (Ha (e := 5) (sz := 1)))) ?_
  refine qs 7 ?_
  refine Ga (Gv HU HU (fun hl20 => ?_) (hm := by repeat (first | exact mem0 | assumption | refine memS ?_)))
  refine qs 4 ?_
  refine GN (fun (i : Nat × (Option Addr × Option Addr × Nat × Nat) × (Option Addr × Option Addr × Nat × Nat)) => i.1 ≤ t.words.length ∧ (i.2.1.1 = none ∨ i.2.1.1 = some ⟨b4, 0, none⟩) ∧ (i.2.2.1 = none ∨ i.2.2.1 = some ⟨b6, 0, none⟩) ∧ ((t.words.take i.1).flatten = [] → Value.slice i.2.1.2.1 i.2.1.2.2.1 i.2.1.2.2.2 = .slice none 0 0) ∧ (commas (lensOf (t.words.take i.1)) = [] → Value.slice i.2.2.2.1 i.2.2.2.2.1 i.2.2.2.2.2 = .slice none 0 0)) (fun i => [(1, .pointer (some ⟨b1, 0, none⟩)), (2, .pointer (some ⟨b2, 0, none⟩)), (3, .pointer (some ⟨b3, 0, none⟩)), (4, .pointer (some ⟨b4, 0, none⟩)), (5, .pointer (some ⟨b5, 0, none⟩)), (6, .pointer (some ⟨b6, 0, none⟩)), (19, .slice a1 k1 c1), (20, .int .i64 t.words.length), (21, .int .i64 (i.1 : Int))]) (fun i => Res.own (.slice i.2.1.2.1 i.2.1.2.2.1 i.2.1.2.2.2) 5 1 ((t.words.take i.1).flatten.map eB) :: Res.own (.slice none 0 0) 5 1 [] :: Res.own (.slice i.2.2.2.1 i.2.2.2.2.1 i.2.2.2.2.2) 5 1 ((commas (lensOf (t.words.take i.1))).map eB) :: Res.cells b6 #[.pointer i.2.2.1, .slice i.2.2.2.1 i.2.2.2.2.1 i.2.2.2.2.2] 223 :: Res.cells b5 #[.pointer none, .slice none 0 0] 223 :: Res.cells b4 #[.pointer i.2.1.1, .slice i.2.1.2.1 i.2.1.2.2.1 i.2.1.2.2.2] 223 :: _) (fun _ => F) (fun i => t.words.length - i.1) (0, (none, none, 0, 0), (none, none, 0, 0)) ⟨by omega, Or.inl rfl, Or.inl rfl, fun _ => rfl, fun _ => rfl⟩ srA (Gk _ _) ?_
  rintro ⟨q, ⟨pw, aw, kw, zw⟩, ⟨pl, al, kl, zl⟩⟩ ⟨hq, hpw, hpl, hnw, hnl⟩
  simp only at hq hpw hpl hnw hnl ⊢
  refine qs 2 ?_
  refine Ga (GB HU HU HU (fun c22 => ?_) (fun c22 => ?_))
  ·refine qs 10 ?_
   have hql : q < t.words.length := by omega
   have hsl := hw _ (List.getElem_mem hql)
   have hfl := flat_len (m := 1048576) (t.words.take q) (fun s hs => hw s (List.mem_of_mem_take hs))
   have htl : (t.words.take q).length ≤ 40 := by simp; omega
   have hcl := commas_len (lensOf (t.words.take q)) (lens_ok (fun s hs => hw s (List.mem_of_mem_take hs)))
   have hll : (lensOf (t.words.take q)).length ≤ 40 := by simp [lensOf]; omega
   have hil : (Lib.itoa (t.words[q].length : Int)).length ≤ 20 := itoa_len HW
   refine Ga (Gj HU HU HU HU memA hql (fun _ _ => ?_))
   refine Ga (GE HU HU ?_)
   intros
   refine qs 6 ?_
   refine Ga (Gd HU HU (wstr_c (b := b4) (i := 5) (j := 0) hpw (by decide) HU HU HW (fun a26 k26 z26 n26 => ?_)))
   refine qs 5 ?_
   refine Ga (Gd HU HU (itoa_c g _ HW ?_))
   refine Ga (AO.addS HU HU HU (by first | omega | (simp; omega)) ?_)
   refine Ga (Gd HU HU (wstr_c (b := b6) (i := 3) (j := 2) hpl (by decide) HU HU (by rw [List.length_append]; simp only [List.length_cons, List.length_nil]; omega) (fun a31 k31 z31 n31 => ?_)))
   rw [flat_step hql, lens_step hql]
   refine qs 7 ?_
   refine Gl (q + 1, (some ⟨b4, 0, none⟩, a26, k26, z26), (some ⟨b6, 0, none⟩, a31, k31, z31)) ⟨by simp only; omega, Or.inr rfl, Or.inr rfl, by rw [← flat_step hql]; exact nil_keep hnw n26, by rw [← lens_step hql]; exact nil_keep hnl n31⟩ (by simp only; omega) srA subF
  refine qs 14 ?_
  refine Ga (Gv HU HU (fun hl35 => ?_) (hm := by repeat (first | exact mem0 | assumption | refine memS ?_)))
  refine qs 4 ?_
  have hw9 : t.words.take q = t.words := List.take_of_length_le HW
  rw [hw9] at hnw hnl ⊢
  refine GN (fun (i : Nat × (Option Addr × Option Addr × Nat × Nat)) => i.1 ≤ t.kids.length ∧ (i.2.1 = none ∨ i.2.1 = some ⟨b5, 0, none⟩) ∧ (commas (t.kids.take i.1) = [] → Value.slice i.2.2.1 i.2.2.2.1 i.2.2.2.2 = .slice none 0 0)) (fun i => [(1, .pointer (some ⟨b1, 0, none⟩)), (2, .pointer (some ⟨b2, 0, none⟩)), (3, .pointer (some ⟨b3, 0, none⟩)), (4, .pointer (some ⟨b4, 0, none⟩)), (5, .pointer (some ⟨b5, 0, none⟩)), (6, .pointer (some ⟨b6, 0, none⟩)), (34, .slice a2 k2 c2), (35, .int .i64 t.kids.length), (36, .int .i64 (i.1 : Int))]) (fun i => Res.own (.slice aw kw zw) 5 1 (t.words.flatten.map eB) :: Res.own (.slice i.2.2.1 i.2.2.2.1 i.2.2.2.2) 5 1 ((commas (t.kids.take i.1)).map eB) :: Res.own (.slice al kl zl) 5 1 ((commas (lensOf t.words)).map eB) :: Res.cells b6 #[.pointer pl, .slice al kl zl] 223 :: Res.cells b5 #[.pointer i.2.1, .slice i.2.2.1 i.2.2.2.1 i.2.2.2.2] 223 :: Res.cells b4 #[.pointer pw, .slice aw kw zw] 223 :: _) (fun _ => F) (fun i => t.kids.length - i.1) (0, (none, none, 0, 0)) ⟨by omega, Or.inl rfl, fun _ => rfl⟩ srA (Gk _ _) ?_
  rintro ⟨u, ⟨pk, ak, kk, zk⟩⟩ ⟨hu, hpk, hnk⟩
  simp only at hu hpk hnk ⊢
  refine qs 2 ?_
  refine Ga (GB HU HU HU (fun c37 => ?_) (fun c37 => ?_))
  ·refine qs 10 ?_
   have hul : u < t.kids.length := by omega
   have hkr := hk _ (List.getElem_mem hul)
   have hcl := commas_len (t.kids.take u) (fun s hs => hk s (List.mem_of_mem_take hs))
   have hll : (t.kids.take u).length ≤ 40 := by simp; omega
   have hil : (Lib.itoa t.kids[u]).length ≤ 20 := itoa_len hkr
   refine Ga (Gj HU HU HU HU memA hul (fun _ _ => ?_))
   refine Ga (GE HU HU ?_)
   intros
   refine qs 5 ?_
   refine Ga (Gd HU HU (itoa_c g _ hkr ?_))
   refine Ga (AO.addS HU HU HU (by first | omega | (simp; omega)) ?_)
   refine Ga (Gd HU HU (wstr_c (b := b5) (i := 4) (j := 1) hpk (by decide) HU HU (by rw [List.length_append]; simp only [List.length_cons, List.length_nil]; omega) (fun a43 k43 z43 n43 => ?_)))
   rw [kids_step hul]
   refine qs 7 ?_
   refine Gl (u + 1, (some ⟨b5, 0, none⟩, a43, k43, z43)) ⟨by simp only; omega, Or.inr rfl, by rw [← kids_step hul]; exact nil_keep hnk n43⟩ (by simp only; omega) srA subF
  refine qs 11 ?_
  have hk9 : t.kids.take u = t.kids := List.take_of_length_le HW
  rw [hk9] at hnk ⊢
  refine Ga (Gd HU HU (bstr_c (b := b4) (i := 5) (j := 0) (by decide) HU HU hnw ?_))
  refine Ga (Gd HU HU (bstr_c (b := b5) (i := 4) (j := 1) (by decide) HU HU hnk ?_))
  refine Ga (Gd HU HU (bstr_c (b := b6) (i := 3) (j := 2) (by decide) HU HU hnl ?_))
  refine qs 15 ?_
  exact GS (rs := [.cell 2 _]) (L' := L) (F' := F) Tryz.results100 (.agg (j := 7) rfl rfl rfl .nil) subA h
end
end Go.Sy
namespace Go.Sy
open Go Go.Proofs Go.RowKit
theorem trimp_eq (s : List UInt8) : Lib.trimPrefix s [43] = fieldN s := by
  unfold Lib.trimPrefix fieldN
  cases s with
  | nil => rfl
  | cons x r =>
    by_cases h : x = 43
    · subst h; simp [Lib.hasPrefix]
    have : Lib.hasPrefix (x :: r) [43] = false := by simp [Lib.hasPrefix, List.isPrefixOf, Ne.symm h]
    rw [this]
    simp
    split
    · rename_i e; exact absurd (List.cons.inj e).1 h
    rfl
def SeenIs (ws : List (List UInt8)) (q : Nat) (m : List UInt8 → Option Bool) : Prop := ∀ x, m x = some true ↔ x ≠ [95] ∧ ∃ (j : Nat) (hj : j < ws.length), j < q ∧ fieldN ws[j] = x
theorem SeenIs.zero (ws : List (List UInt8)) : SeenIs ws 0 (fun _ => none) := fun x => ⟨fun h => by simp at h, fun ⟨_, j, _, h, _⟩ => absurd h HW⟩
theorem SeenIs.step {ws : List (List UInt8)} {q : Nat} {m : List UInt8 → Option Bool} (h : SeenIs ws q m) (hq : q < ws.length) {b : Bool} (hb : b = true ↔ fieldN ws[q] ≠ [95]) : SeenIs ws (q + 1) (upd m (fieldN ws[q]) b) := by
  intro x
  by_cases hx : x = fieldN ws[q]
  · subst hx
    rw [upd_self, Option.some.injEq, hb]
    exact ⟨fun h1 => ⟨h1, q, hq, by omega, rfl⟩, fun h1 => h1.1⟩
  rw [upd_ne _ hx, h x]
  constructor
  · rintro ⟨h1, j, hj, h2, h3⟩; exact ⟨h1, j, hj, by omega, h3⟩
  rintro ⟨h1, j, hj, h2, h3⟩
  refine ⟨h1, j, hj, ?_, h3⟩
  rcases Nat.lt_succ_iff_lt_or_eq.1 h2 with k | rfl
  · exact k
  exact absurd h3.symm hx
theorem field_step {ws : List (List UInt8)} {q : Nat} {m : List UInt8 → Option Bool} (hs : SeenIs ws q m) (hok : ∀ i (hi : i < ws.length), i < q → fieldAt ws i hi) (hq : q < ws.length) (h1 : isName (fieldN ws[q]) = true) (h2 : m (fieldN ws[q]) ≠ some true) : ∀ i (hi : i < ws.length), i < q + 1 → fieldAt ws i hi := by
  intro i hi hiq
  rcases Nat.lt_succ_iff_lt_or_eq.1 hiq with k | rfl
  · exact hok i hi k
  refine ⟨h1, fun j hj e => ?_⟩
  refine Classical.byContradiction (fun hne => h2 ((hs _).2 ⟨hne, j, by omega, hj, e⟩))
theorem field_seen {ws : List (List UInt8)} {q : Nat} {m : List UInt8 → Option Bool} (hs : SeenIs ws q m) (hq : q < ws.length) (h2 : m (fieldN ws[q]) = some true) : ¬ fieldsP ws := by
  intro hf
  obtain ⟨hne, j, hj, hjq, e⟩ := (hs _).1 h2
  exact hne ((hf q hq).2 j hjq e)
attribute [local irreducible] AC AT AO AK AH ACalls Sub Res.cells Res.obj Res.nix Res.own Res.map Exit.then Exit.inBlock bodyPost Code.wp Code.wpIn WL Next Post Kont
section
variable {W0 : World} {L : List Res} {F : List Fact} {R : Value → List Res → List Fact → Prop}
set_option maxRecDepth 100000
set_option maxHeartbeats 4000000
theorem trimp_c (s : List UInt8) (h : R (S (fieldN s)) L F) : ACalls Tryz.prog W0 153 #[S s, S [43]] L F R := by
  refine ACalls.lib0 (fun w _ => ?_) h
  have := Tryz.strings_TrimPrefix ⟨s.toArray⟩ ⟨#[43]⟩ w
  have e : Lib.trimPrefix (⟨s.toArray⟩ : ByteArray).data.toList (⟨#[43]⟩ : ByteArray).data.toList = fieldN s := trimp_eq s
  rw [e] at this
  exact this
theorem pmark_c (s : List UInt8) (hT : markP s → R (.bool true) L F) (hF : ¬ markP s → R (.bool false) L F) : ACalls Tryz.prog W0 205 #[S s] L F R := by
  refine Ge Tryz.func205 HU Tryz.ntmps205 HU ?_
  refine qs 8 ?_
  refine Ga (Hu HU HU HU (fun c4 => ?_) (fun c4 => ?_))
  ·refine qs 8 ?_
   first | exact Gb Tryz.results205 rfl (Gk _ _) (hT (Or.inl c4)) | exact Gb Tryz.results205 rfl (Gk _ _) (hT (Or.inr c7)) | exact Gb Tryz.results205 rfl (Gk _ _) (hF (fun e => e.elim c4 c7))
  refine qs 2 ?_
  refine Gh HU HU (Hu HU HU HU (fun c7 => ?_) (fun c7 => ?_))
  ·refine qs 5 ?_
   first | exact Gb Tryz.results205 rfl (Gk _ _) (hT (Or.inl c4)) | exact Gb Tryz.results205 rfl (Gk _ _) (hT (Or.inr c7)) | exact Gb Tryz.results205 rfl (Gk _ _) (hF (fun e => e.elim c4 c7))
  refine qs 5 ?_
  first | exact Gb Tryz.results205 rfl (Gk _ _) (hT (Or.inl c4)) | exact Gb Tryz.results205 rfl (Gk _ _) (hT (Or.inr c7)) | exact Gb Tryz.results205 rfl (Gk _ _) (hF (fun e => e.elim c4 c7))
theorem untyped_c (i : Int) (hT : 14 ≤ i ∧ i ≤ 19 → R (.bool true) L F) (hF : ¬(14 ≤ i ∧ i ≤ 19) → R (.bool false) L F) : ACalls Tryz.prog W0 206 #[.int .i64 i] L F R := by
  refine Ge Tryz.func206 HU Tryz.ntmps206 HU ?_
  refine qs 8 ?_
  refine Ga (Hh HU HU HU (fun c4 => ?_) (fun c4 => ?_))
  ·refine qs 2 ?_
   refine Gh HU HU (AO.leq HU HU HU (fun c7 => ?_) (fun c7 => ?_))
   ·refine qs 5 ?_
    first | refine Gb Tryz.results206 HU (Gk _ _) (hT ?_) | refine Gb Tryz.results206 HU (Gk _ _) (hF ?_)
    omega
   refine qs 5 ?_
   first | refine Gb Tryz.results206 HU (Gk _ _) (hT ?_) | refine Gb Tryz.results206 HU (Gk _ _) (hF ?_)
   omega
  refine qs 8 ?_
  first | refine Gb Tryz.results206 HU (Gk _ _) (hT ?_) | refine Gb Tryz.results206 HU (Gk _ _) (hF ?_)
  omega
theorem bare_c (t : Ty) {a1 a2 : Option Addr} {k1 c1 k2 c2 : Nat} (m1 : fW t a1 k1 c1 ∈ F) (hT : t.name = [] ∧ t.words = [] → R (.bool true) L F) (hF : ¬(t.name = [] ∧ t.words = []) → R (.bool false) L F) :
    ACalls Tryz.prog W0 161 #[vTy t a1 k1 c1 a2 k2 c2] L F R := by
  refine Ge Tryz.func161 HU Tryz.ntmps161 HU ?_
  refine qs 2 ?_
  refine Ga (GJ HU HU (fun b1 => ?_))
  refine qs 7 ?_
  refine Ga (Hu HU HU HU (fun c5 => ?_) (fun c5 => ?_))
  ·refine qs 3 ?_
   refine Gh HU HU (Gv HU HU (fun hl9 => ?_) (hm := by repeat (first | exact mem0 | assumption | refine memS ?_)))
   refine Gh HU HU (GC HU HU HU (fun c10 => ?_) (fun c10 => ?_))
   ·refine qs 5 ?_
    first | refine Gb (L' := L) (F' := F) Tryz.results161 HU subA (hT ?_) | refine Gb (L' := L) (F' := F) Tryz.results161 HU subA (hF ?_)
    first
    | exact ⟨c5, List.eq_nil_of_length_eq_zero (Int.ofNat.inj c10)⟩
    | exact fun e => c10 (by rw [e.2]; rfl)
    | exact fun e => c5 e.1
   refine qs 5 ?_
   first | refine Gb (L' := L) (F' := F) Tryz.results161 HU subA (hT ?_) | refine Gb (L' := L) (F' := F) Tryz.results161 HU subA (hF ?_)
   first
   | exact ⟨c5, List.eq_nil_of_length_eq_zero (Int.ofNat.inj c10)⟩
   | exact fun e => c10 (by rw [e.2]; rfl)
   | exact fun e => c5 e.1
  refine qs 10 ?_
  first | refine Gb (L' := L) (F' := F) Tryz.results161 HU subA (hT ?_) | refine Gb (L' := L) (F' := F) Tryz.results161 HU subA (hF ?_)
  first
  | exact ⟨c5, List.eq_nil_of_length_eq_zero (Int.ofNat.inj c10)⟩
  | exact fun e => c10 (by rw [e.2]; rfl)
  | exact fun e => c5 e.1
theorem fields_c (t : Ty) {a1 a2 : Option Addr} {k1 c1 k2 c2 : Nat} (m1 : fW t a1 k1 c1 ∈ F) (m2 : fK t a2 k2 c2 ∈ F) (hT : fieldsP t.words ∧ t.name = [] ∧ t.n = 0 ∧ t.words.length = t.kids.length → R (.bool true) L F)
    (hF : ¬(fieldsP t.words ∧ t.name = [] ∧ t.n = 0 ∧ t.words.length = t.kids.length) → R (.bool false) L F) : ACalls Tryz.prog W0 162 #[vTy t a1 k1 c1 a2 k2 c2] L F R := by
  refine Ge Tryz.func162 HU Tryz.ntmps162 HU ?_
  refine qs 2 ?_
  refine Ga (GJ HU HU (fun b1 => ?_))
  refine qs 5 ?_
  refine Ga (AO.makeMap S Value.bool HU (fun b7 => ?_))
  refine qs 8 ?_
  refine Ga (Gv HU HU (fun hl10 => ?_) (hm := by repeat (first | exact mem0 | assumption | refine memS ?_)))
  refine qs 4 ?_
  refine GN (fun (i : Nat × (List UInt8 → Option Bool)) => i.1 ≤ t.words.length ∧ SeenIs t.words i.1 i.2 ∧ ∀ j (hj : j < t.words.length), j < i.1 → fieldAt t.words j hj) (fun i => [(1, .pointer (some ⟨b1, 0, none⟩)), (3, .map (some b7)), (9, .slice a1 k1 c1), (10, .int .i64 t.words.length), (11, .int .i64 (i.1 : Int))]) (fun i => Res.map b7 S Value.bool i.2 :: _) (fun _ => F) (fun i => t.words.length - i.1) (0, fun _ => none) ⟨by omega, SeenIs.zero _, by omega⟩ srA (Gk _ _) ?_
  rintro ⟨q, m⟩ ⟨hq, hseen, hok⟩
  simp only at hq hseen hok ⊢
  refine qs 2 ?_
  refine Ga (GB HU HU HU (fun c12 => ?_) (fun c12 => ?_))
  ·refine qs 10 ?_
   have hql : q < t.words.length := by omega
   refine Ga (Gj HU HU HU HU memA hql (fun _ _ => ?_))
   refine Ga (GE HU HU ?_)
   intros
   refine qs 6 ?_
   refine Ga (Gd HU HU (trimp_c t.words[q] ?_))
   refine qs 7 ?_
   refine Ga (Gd HU HU (Hz (fieldN t.words[q]) (fun c18 => ?_) (fun c18 => ?_)))
   ·refine qs 4 ?_
    refine Gh HU HU (AO.lookupB (kenc := S) (m := m) (i := 0) (fieldN t.words[q]) HU HU HU (by rfl) (fun c23 => ?_) (fun c23 => ?_))
    ·refine qs 16 ?_
     first | refine Gb (L' := L) (F' := F) Tryz.results162 HU subA (hT ?_) | refine Gb (L' := L) (F' := F) Tryz.results162 HU subA (hF ?_)
     first
     | exact ⟨fun i hi => hok i hi HW, c32, c36, by omega⟩
     | exact fun e => field_seen hseen hql c23 e.1
     | exact fun e => absurd (e.1 q hql).1 (by rw [c18]; decide)
     | exact fun e => c32 e.2.1
     | exact fun e => c36 e.2.2.1
     | exact fun e => c45 (by rw [e.2.2.2])
    refine qs 10 ?_
    refine Ga (AO.neqS HU HU HU (fun c28 => ?_) (fun c28 => ?_))
    ·refine Ga (Hi (kenc := S) (venc := Value.bool) (m := m) (i := 0) (fieldN t.words[q]) true HU HU HU (by rfl) ?_)
     refine qs 7 ?_
     first | refine Gl (q + 1, upd m (fieldN t.words[q]) true) ⟨by simp only; omega, hseen.step hql ⟨fun _ => c28, fun _ => rfl⟩, field_step hseen hok hql c18 c23⟩ (by simp only; omega) srA subF | refine Gl (q + 1, upd m (fieldN t.words[q]) false) ⟨by simp only; omega, hseen.step hql ⟨fun e => absurd e (by decide), fun e => absurd c28 e⟩, field_step hseen hok hql c18 c23⟩ (by simp only; omega) srA subF
    refine Ga (Hi (kenc := S) (venc := Value.bool) (m := m) (i := 0) (fieldN t.words[q]) false HU HU HU (by rfl) ?_)
    refine qs 7 ?_
    first | refine Gl (q + 1, upd m (fieldN t.words[q]) true) ⟨by simp only; omega, hseen.step hql ⟨fun _ => c28, fun _ => rfl⟩, field_step hseen hok hql c18 c23⟩ (by simp only; omega) srA subF | refine Gl (q + 1, upd m (fieldN t.words[q]) false) ⟨by simp only; omega, hseen.step hql ⟨fun e => absurd e (by decide), fun e => absurd c28 e⟩, field_step hseen hok hql c18 c23⟩ (by simp only; omega) srA subF
   refine qs 21 ?_
   first | refine Gb (L' := L) (F' := F) Tryz.results162 HU subA (hT ?_) | refine Gb (L' := L) (F' := F) Tryz.results162 HU subA (hF ?_)
   first
   | exact ⟨fun i hi => hok i hi HW, c32, c36, by omega⟩
   | exact fun e => field_seen hseen hql c23 e.1
   | exact fun e => absurd (e.1 q hql).1 (by rw [c18]; decide)
   | exact fun e => c32 e.2.1
   | exact fun e => c36 e.2.2.1
   | exact fun e => c45 (by rw [e.2.2.2])
  refine qs 13 ?_
  refine Ga (Hu HU HU HU (fun c32 => ?_) (fun c32 => ?_))
  ·refine qs 3 ?_
   refine Gh HU HU (GC HU HU HU (fun c36 => ?_) (fun c36 => ?_))
   ·refine qs 4 ?_
    refine Gh HU HU (Gv HU HU (fun hl41 => ?_) (hm := by repeat (first | exact mem0 | assumption | refine memS ?_)))
    refine qs 2 ?_
    refine Gh HU HU (Gv HU HU (fun hl44 => ?_) (hm := by repeat (first | exact mem0 | assumption | refine memS ?_)))
    refine Gh HU HU (GC HU HU HU (fun c45 => ?_) (fun c45 => ?_))
    ·refine qs 5 ?_
     first | refine Gb (L' := L) (F' := F) Tryz.results162 HU subA (hT ?_) | refine Gb (L' := L) (F' := F) Tryz.results162 HU subA (hF ?_)
     first
     | exact ⟨fun i hi => hok i hi HW, c32, c36, by omega⟩
     | exact fun e => field_seen hseen hql c23 e.1
     | exact fun e => absurd (e.1 q hql).1 (by rw [c18]; decide)
     | exact fun e => c32 e.2.1
     | exact fun e => c36 e.2.2.1
     | exact fun e => c45 (by rw [e.2.2.2])
    refine qs 5 ?_
    first | refine Gb (L' := L) (F' := F) Tryz.results162 HU subA (hT ?_) | refine Gb (L' := L) (F' := F) Tryz.results162 HU subA (hF ?_)
    first
    | exact ⟨fun i hi => hok i hi HW, c32, c36, by omega⟩
    | exact fun e => field_seen hseen hql c23 e.1
    | exact fun e => absurd (e.1 q hql).1 (by rw [c18]; decide)
    | exact fun e => c32 e.2.1
    | exact fun e => c36 e.2.2.1
    | exact fun e => c45 (by rw [e.2.2.2])
   refine qs 14 ?_
   first | refine Gb (L' := L) (F' := F) Tryz.results162 HU subA (hT ?_) | refine Gb (L' := L) (F' := F) Tryz.results162 HU subA (hF ?_)
   first
   | exact ⟨fun i hi => hok i hi HW, c32, c36, by omega⟩
   | exact fun e => field_seen hseen hql c23 e.1
   | exact fun e => absurd (e.1 q hql).1 (by rw [c18]; decide)
   | exact fun e => c32 e.2.1
   | exact fun e => c36 e.2.2.1
   | exact fun e => c45 (by rw [e.2.2.2])
  refine qs 18 ?_
  first | refine Gb (L' := L) (F' := F) Tryz.results162 HU subA (hT ?_) | refine Gb (L' := L) (F' := F) Tryz.results162 HU subA (hF ?_)
  first
  | exact ⟨fun i hi => hok i hi HW, c32, c36, by omega⟩
  | exact fun e => field_seen hseen hql c23 e.1
  | exact fun e => absurd (e.1 q hql).1 (by rw [c18]; decide)
  | exact fun e => c32 e.2.1
  | exact fun e => c36 e.2.2.1
  | exact fun e => c45 (by rw [e.2.2.2])
theorem named_c (g : Glob W0) (s : List UInt8) (hs : s.length < 4294967281) (hT : namedP s → R (.bool true) L F) (hF : ¬ namedP s → R (.bool false) L F) : ACalls Tryz.prog W0 164 #[S s] L F R := by
  refine Ge Tryz.func164 HU Tryz.ntmps164 HU ?_
  refine qs 8 ?_
  refine Ga (Gd HU HU (cut_c g s 46 hs ?_))
  cases c8 : (cutD 46 s).2.2
  rotate_left
  ·refine qs 14 ?_
   refine Gh HU HU (Gd HU HU (Hz _ (fun c15 => ?_) (fun c15 => ?_)))
   ·refine qs 3 ?_
    refine Gh HU HU (Gd HU HU (Hz _ (fun c19 => ?_) (fun c19 => ?_)))
    ·refine qs 5 ?_
     first | refine Gb Tryz.results164 HU (Gk _ _) (hT ?_) | refine Gb Tryz.results164 HU (Gk _ _) (hF ?_)
     first
     | exact ⟨c8, c15, c19⟩
     | exact fun e => absurd e.2.2 (by rw [c19]; decide)
     | exact fun e => absurd e.2.1 (by rw [c15]; decide)
     | exact fun e => absurd e.1 (by rw [c8]; decide)
    refine qs 5 ?_
    first | refine Gb Tryz.results164 HU (Gk _ _) (hT ?_) | refine Gb Tryz.results164 HU (Gk _ _) (hF ?_)
    first
    | exact ⟨c8, c15, c19⟩
    | exact fun e => absurd e.2.2 (by rw [c19]; decide)
    | exact fun e => absurd e.2.1 (by rw [c15]; decide)
    | exact fun e => absurd e.1 (by rw [c8]; decide)
   refine qs 9 ?_
   first | refine Gb Tryz.results164 HU (Gk _ _) (hT ?_) | refine Gb Tryz.results164 HU (Gk _ _) (hF ?_)
   first
   | exact ⟨c8, c15, c19⟩
   | exact fun e => absurd e.2.2 (by rw [c19]; decide)
   | exact fun e => absurd e.2.1 (by rw [c15]; decide)
   | exact fun e => absurd e.1 (by rw [c8]; decide)
  refine qs 24 ?_
  first | refine Gb Tryz.results164 HU (Gk _ _) (hT ?_) | refine Gb Tryz.results164 HU (Gk _ _) (hF ?_)
  first
  | exact ⟨c8, c15, c19⟩
  | exact fun e => absurd e.2.2 (by rw [c19]; decide)
  | exact fun e => absurd e.2.1 (by rw [c15]; decide)
  | exact fun e => absurd e.1 (by rw [c8]; decide)
end
end Go.Sy
namespace Go.Sy
open Go Go.Proofs Go.RowKit
theorem kind_get {l : List Ty} {k : Int} {j : Nat} (hk : k = (j : Int)) (hj : j < l.length) : kindAt l k = l[j].kind := by
  subst hk; unfold kindAt; simp [List.getElem?_eq_getElem hj]
theorem kid_get {t : Ty} {i : Nat} (hi : i < t.kids.length) : kidAt t i = t.kids[i] := by unfold kidAt; simp [List.getD, List.getElem?_eq_getElem hi]
theorem word_get {ws : List (List UInt8)} {i : Nat} (hi : i < ws.length) : ws.getD i [] = ws[i] := by simp [List.getD, List.getElem?_eq_getElem hi]
theorem kid_nat {l : List Ty} {t : Ty} (h : kidsP l t) {i : Nat} (hi : i < t.kids.length) : t.kids[i] = ((t.kids[i].toNat : Nat) : Int) ∧ t.kids[i].toNat < l.length := by
  have := h _ (List.getElem_mem hi)
  omega
theorem kids_yes {l : List Ty} {t : Ty} (h : ∀ j (hj : j < t.kids.length), ¬(t.kids[j] < 0 ∨ t.kids[j] ≥ l.length)) : kidsP l t := by
  intro k hk
  obtain ⟨j, hj, rfl⟩ := List.getElem_of_mem hk
  have := h j hj
  omega
theorem nil_of {α : Type} {l : List α} (h : (l.length : Int) = 0) : l = [] := List.eq_nil_of_length_eq_zero HW
theorem bytes_tri : ∀ a b : List UInt8, (Op.bytesLess a b || a == b) = false → Op.bytesLess b a = true
  | [], [], h => by simp at h
  | [], _ :: _, h => by simp [Op.bytesLess] at h
  | _ :: _, [], _ => by simp [Op.bytesLess]
  | x :: a, y :: b, h => by
    have ih := bytes_tri a b
    have hl : ∀ (x y : UInt8) (a b : List UInt8), Op.bytesLess (x :: a) (y :: b) = true ↔ x < y ∨ x = y ∧ Op.bytesLess a b = true := by
      intro x y a b; simp [Op.bytesLess]
    rw [Bool.or_eq_false_iff] at h
    have h1 : ¬ (x < y ∨ x = y ∧ Op.bytesLess a b = true) := fun e => by rw [(hl x y a b).2 e] at h; exact absurd h.1 (by decide)
    rw [hl]
    by_cases e : x = y
    · subst e
      right
      refine ⟨rfl, ih ?_⟩
      have e1 : Op.bytesLess a b = false := by
        cases hb : Op.bytesLess a b with
        | false => rfl
        | true => exact absurd (Or.inr ⟨rfl, hb⟩) h1
      have e2 : (a == b) = false := by
        have := h.2
        simpa using this
      rw [e1, e2]; rfl
    left
    have h2 : ¬ x < y := fun k => h1 (Or.inl k)
    rw [UInt8.lt_iff_toNat_lt] at h2 ⊢
    have h3 : x.toNat ≠ y.toNat := fun k => e (UInt8.toNat_inj.1 k)
    omega
theorem bytes_asym : ∀ a b : List UInt8, Op.bytesLess b a = true → (Op.bytesLess a b || a == b) = false
  | [], [], h => by simp [Op.bytesLess] at h
  | [], _ :: _, h => by simp [Op.bytesLess] at h
  | _ :: _, [], _ => by simp [Op.bytesLess]
  | x :: a, y :: b, h => by
    have ih := bytes_asym a b
    have hl : ∀ (x y : UInt8) (a b : List UInt8), Op.bytesLess (x :: a) (y :: b) = true ↔ x < y ∨ x = y ∧ Op.bytesLess a b = true := by
      intro x y a b; simp [Op.bytesLess]
    rw [hl] at h
    rcases h with h | ⟨rfl, h⟩
    · have hlt := UInt8.lt_iff_toNat_lt.1 h
      have e1 : Op.bytesLess (x :: a) (y :: b) = false := by
        cases hb : Op.bytesLess (x :: a) (y :: b) with
        | false => rfl
        | true =>
          rcases (hl x y a b).1 hb with k | ⟨k, _⟩
          · have := UInt8.lt_iff_toNat_lt.1 k; omega
          subst k; omega
      have e2 : (x :: a == y :: b) = false := by
        have : x ≠ y := fun k => by subst k; omega
        simp [this]
      rw [e1, e2]; rfl
    have := ih h
    rw [Bool.or_eq_false_iff] at this ⊢
    refine ⟨?_, ?_⟩
    · cases hb : Op.bytesLess (y :: a) (y :: b) with
      | false => rfl
      | true =>
        rcases (hl y y a b).1 hb with k | ⟨_, k⟩
        · have := UInt8.lt_iff_toNat_lt.1 k; omega
        rw [this.1] at k; exact absurd k (by decide)
    simpa using this.2
theorem leq_nil {w : List UInt8} (h : (Op.bytesLess w [] || w == []) = true) : w = [] := by
  cases w with
  | nil => rfl
  | cons x r => simp [Op.bytesLess] at h
theorem mark_nil : ¬ markP [] := fun e => e.elim (fun k => by simp at k) (fun k => by simp at k)
attribute [local irreducible] AC AT AO AK AH ACalls Sub Res.cells Res.obj Res.nix Res.own Res.map Exit.then Exit.inBlock bodyPost Code.wp Code.wpIn WL Next Post Kont
section
variable {W0 : World} {L : List Res} {F : List Fact} {R : Value → List Res → List Fact → Prop}
set_option maxRecDepth 100000
set_option maxHeartbeats 4000000
def TellsI (P : Program) (W0 : World) (L : List Res) (F : List Fact) (g : FuncId) (cs : List Value) (p : Int → Prop) : Prop :=
  ∀ (s : Int) (F' : List Fact) (_ : ∀ f ∈ F, f ∈ F') (R : Value → List Res → List Fact → Prop), (p s → R (.bool true) L F') → (¬ p s → R (.bool false) L F') → ACalls P W0 g ([Value.int .i64 s] ++ cs).toArray L F' R
theorem indexFuncI_c (l : List Int) {a : Option Addr} {k c : Nat} (m1 : Fact.slc (.slice a k c) 1 (l.map eI) ∈ F) (g : FuncId) [FnT Tryz.prog g] (cs : List Value) (p : Int → Prop) (hg : TellsI Tryz.prog W0 L F g cs p)
    (hT : ∀ (j : Nat) (hj : j < l.length), p l[j] → R (.int .i64 (j : Int)) L F) (hF : (∀ j (hj : j < l.length), ¬ p l[j]) → R (.int .i64 (-1)) L F) : ACalls Tryz.prog W0 166 #[.slice a k c, .func (.func g) #[] cs.toArray] L F R := by
  refine Ge Tryz.func166 HU Tryz.ntmps166 HU ?_
  refine qs 9 ?_
  refine Ga (Gv HU HU (fun hl7 => ?_) (hm := by repeat (first | exact mem0 | assumption | refine memS ?_)))
  refine qs 4 ?_
  refine AC.loopC (fun (q : Nat) => q ≤ l.length ∧ ∀ j (hj : j < l.length), j < q → ¬ p l[j]) (fun q => [(0, .slice a k c), (1, .func (.func g) #[] cs.toArray), (7, .int .i64 l.length), (8, .int .i64 (q : Int))]) (fun q => l.length - q) 0 ⟨by omega, by omega⟩ srA ?_
  rintro q ⟨hq, hok⟩
  refine qs 2 ?_
  refine Ga (GB HU HU HU (fun c9 => ?_) (fun c9 => ?_))
  ·refine qs 19 ?_
   have hql : q < l.length := by omega
   refine Ga (Gj HU HU HU HU memA hql (fun _ _ => ?_))
   refine Ga (GE HU HU ?_)
   intros
   refine Ga (AO.callC HU HU HU (hg l[q] _ (fun f hf => List.mem_cons_of_mem _ hf) _ (fun c16 => ?_) (fun c16 => ?_)))
   ·refine qs 15 ?_
    first | exact Gb (L' := L) (F' := F) Tryz.results166 rfl subF (hT q hql c16) | exact Gb (L' := L) (F' := F) Tryz.results166 rfl subF (hF (fun j hj => hok j hj HW))
   refine qs 10 ?_
   refine Gl (q + 1) ⟨by omega, fun j hj hjq => ?_⟩ HW srA subF
   rcases Nat.lt_succ_iff_lt_or_eq.1 hjq with k9 | rfl
   · exact hok j hj k9
   exact c16
  refine qs 15 ?_
  first | exact Gb (L' := L) (F' := F) Tryz.results166 rfl subF (hT q hql c16) | exact Gb (L' := L) (F' := F) Tryz.results166 rfl subF (hF (fun j hj => hok j hj HW))
theorem containsFuncI_c (l : List Int) {a : Option Addr} {k c : Nat} (m1 : Fact.slc (.slice a k c) 1 (l.map eI) ∈ F) (g : FuncId) [FnT Tryz.prog g] (cs : List Value) (p : Int → Prop) (hg : TellsI Tryz.prog W0 L F g cs p)
    (hT : (¬ ∀ j (hj : j < l.length), ¬ p l[j]) → R (.bool true) L F) (hF : (∀ j (hj : j < l.length), ¬ p l[j]) → R (.bool false) L F) : ACalls Tryz.prog W0 106 #[.slice a k c, .func (.func g) #[] cs.toArray] L F R := by
  refine Ge Tryz.func106 HU Tryz.ntmps106 HU ?_
  refine qs 9 ?_
  refine Ga (Gd HU HU (indexFuncI_c l m1 g cs p hg (fun j7 hj7 c7 => ?_) (fun c7 => ?_)))
  ·refine Ga (Hh HU HU HU (fun c8 => ?_) (fun c8 => absurd c8 HW))
   refine qs 4 ?_
   first | exact Gb (L' := L) (F' := F) Tryz.results106 rfl subF (hT (fun e => e j7 hj7 c7)) | exact Gb (L' := L) (F' := F) Tryz.results106 rfl subF (hF c7)
  refine Ga (Hh HU HU HU (fun c8 => absurd c8 HW) (fun c8 => ?_))
  refine qs 4 ?_
  first | exact Gb (L' := L) (F' := F) Tryz.results106 rfl subF (hT (fun e => e j7 hj7 c7)) | exact Gb (L' := L) (F' := F) Tryz.results106 rfl subF (hF c7)
theorem made1_c (l : List Ty) (s : Int) {a3 : Option Addr} {k3 c3 b i : Nat} {ty : TypeId} (m3 : fL l a3 k3 c3 ∈ F) (hb : L[i]? = some (Res.cells b #[.slice a3 k3 c3] ty)) (hT : s < 0 ∨ s ≥ l.length → R (.bool true) L F) (hF : ¬(s < 0 ∨ s ≥ l.length) → R (.bool false) L F) :
    ACalls Tryz.prog W0 160 #[.int .i64 s, .pointer (some ⟨b, 0, none⟩)] L F R := by
  refine Ge Tryz.func160 HU Tryz.ntmps160 HU ?_
  refine qs 8 ?_
  refine Ga (GB HU HU HU (fun c5 => ?_) (fun c5 => ?_))
  ·refine qs 10 ?_
   first | exact Gb (L' := L) (F' := F) Tryz.results160 rfl subF (hT (Or.inl c5)) | exact Gb (L' := L) (F' := F) Tryz.results160 rfl subF (hT (Or.inr c10)) | exact Gb (L' := L) (F' := F) Tryz.results160 rfl subF (hF HW)
  refine qs 2 ?_
  refine Gh HU HU (Gw (cs := [.slice a3 k3 c3]) HU HU ?_ (hi := hb) (hv := HU))
  refine Gh HU HU (Gv HU HU (fun hl9 => ?_) (hm := m3))
  refine Gh HU HU (Hh HU HU HU (fun c10 => ?_) (fun c10 => ?_))
  ·refine qs 5 ?_
   first | exact Gb (L' := L) (F' := F) Tryz.results160 rfl subF (hT (Or.inl c5)) | exact Gb (L' := L) (F' := F) Tryz.results160 rfl subF (hT (Or.inr c10)) | exact Gb (L' := L) (F' := F) Tryz.results160 rfl subF (hF HW)
  refine qs 5 ?_
  first | exact Gb (L' := L) (F' := F) Tryz.results160 rfl subF (hT (Or.inl c5)) | exact Gb (L' := L) (F' := F) Tryz.results160 rfl subF (hT (Or.inr c10)) | exact Gb (L' := L) (F' := F) Tryz.results160 rfl subF (hF HW)
theorem elems_c (l : List Ty) (t : Ty) (hk : kidsP l t) {a1 a2 a3 : Option Addr} {k1 c1 k2 c2 k3 c3 : Nat} (m1 : fW t a1 k1 c1 ∈ F) (m2 : fK t a2 k2 c2 ∈ F) (m3 : fL l a3 k3 c3 ∈ F)
    (hT : elemsP l t ∧ t.name = [] → R (.bool true) L F) (hF : ¬(elemsP l t ∧ t.name = []) → R (.bool false) L F) : ACalls Tryz.prog W0 163 #[.slice a3 k3 c3, vTy t a1 k1 c1 a2 k2 c2] L F R := by
  refine Ge Tryz.func163 HU Tryz.ntmps163 HU ?_
  refine qs 2 ?_
  refine Ga (GJ HU HU (fun b3 => ?_))
  refine qs 8 ?_
  refine Ga (AO.neqS HU HU HU (fun c12 => ?_) (fun c12 => ?_))
  ·refine qs 29 ?_
   first | refine Gb (L' := L) (F' := F) Tryz.results163 HU subA (hT ?_) | refine Gb (L' := L) (F' := F) Tryz.results163 HU subA (hF ?_)
   first
   | exact ⟨⟨by omega, c16, c21, fun i hi => hok i hi HW⟩, c12⟩
   | exact fun e => c12 e.2
   | exact fun e => absurd e.1.2.1 HW
   | exact fun e => absurd e.1.2.2.1 HW
   | exact fun e => c30 (by rw [e.1.1])
   | (intro e
      have he := e.1.2.2.2 q hql
      unfold elemAtP at he
      rw [hK, hKid, hKidP, hPrev] at he
      rcases he with ⟨h1, h2, h3, h4, h5, h6⟩ | ⟨h1, h2, h3, h4⟩
      first | exact c58 h1 | exact h3 c88 | exact h4 c93 | exact h5 c101 | (have := h6 HW c63; omega) | omega
      first | exact h1 c58 | exact absurd h2 (by rw [c105]; decide) | exact (h4 HW).1 c109 | exact c119 h3 | exact absurd c114 (by rw [bytes_asym _ _ (h4 HW).2]; decide) | (rw [leq_nil c114] at h2; exact absurd h2 (by decide)) | omega)
  refine qs 3 ?_
  refine Gh HU HU (GB HU HU HU (fun c16 => ?_) (fun c16 => ?_))
  ·refine qs 25 ?_
   first | refine Gb (L' := L) (F' := F) Tryz.results163 HU subA (hT ?_) | refine Gb (L' := L) (F' := F) Tryz.results163 HU subA (hF ?_)
   first
   | exact ⟨⟨by omega, c16, c21, fun i hi => hok i hi HW⟩, c12⟩
   | exact fun e => c12 e.2
   | exact fun e => absurd e.1.2.1 HW
   | exact fun e => absurd e.1.2.2.1 HW
   | exact fun e => c30 (by rw [e.1.1])
   | (intro e
      have he := e.1.2.2.2 q hql
      unfold elemAtP at he
      rw [hK, hKid, hKidP, hPrev] at he
      rcases he with ⟨h1, h2, h3, h4, h5, h6⟩ | ⟨h1, h2, h3, h4⟩
      first | exact c58 h1 | exact h3 c88 | exact h4 c93 | exact h5 c101 | (have := h6 HW c63; omega) | omega
      first | exact h1 c58 | exact absurd h2 (by rw [c105]; decide) | exact (h4 HW).1 c109 | exact c119 h3 | exact absurd c114 (by rw [bytes_asym _ _ (h4 HW).2]; decide) | (rw [leq_nil c114] at h2; exact absurd h2 (by decide)) | omega)
  refine qs 4 ?_
  refine Gh HU HU (AO.gtr HU HU HU (fun c21 => ?_) (fun c21 => ?_))
  ·refine qs 20 ?_
   first | refine Gb (L' := L) (F' := F) Tryz.results163 HU subA (hT ?_) | refine Gb (L' := L) (F' := F) Tryz.results163 HU subA (hF ?_)
   first
   | exact ⟨⟨by omega, c16, c21, fun i hi => hok i hi HW⟩, c12⟩
   | exact fun e => c12 e.2
   | exact fun e => absurd e.1.2.1 HW
   | exact fun e => absurd e.1.2.2.1 HW
   | exact fun e => c30 (by rw [e.1.1])
   | (intro e
      have he := e.1.2.2.2 q hql
      unfold elemAtP at he
      rw [hK, hKid, hKidP, hPrev] at he
      rcases he with ⟨h1, h2, h3, h4, h5, h6⟩ | ⟨h1, h2, h3, h4⟩
      first | exact c58 h1 | exact h3 c88 | exact h4 c93 | exact h5 c101 | (have := h6 HW c63; omega) | omega
      first | exact h1 c58 | exact absurd h2 (by rw [c105]; decide) | exact (h4 HW).1 c109 | exact c119 h3 | exact absurd c114 (by rw [bytes_asym _ _ (h4 HW).2]; decide) | (rw [leq_nil c114] at h2; exact absurd h2 (by decide)) | omega)
  refine qs 4 ?_
  refine Gh HU HU (Gv HU HU (fun hl26 => ?_) (hm := by repeat (first | exact mem0 | assumption | refine memS ?_)))
  refine qs 2 ?_
  refine Gh HU HU (Gv HU HU (fun hl29 => ?_) (hm := by repeat (first | exact mem0 | assumption | refine memS ?_)))
  refine Gh HU HU (GK HU HU HU (fun c30 => ?_) (fun c30 => ?_))
  ·refine qs 11 ?_
   first | refine Gb (L' := L) (F' := F) Tryz.results163 HU subA (hT ?_) | refine Gb (L' := L) (F' := F) Tryz.results163 HU subA (hF ?_)
   first
   | exact ⟨⟨by omega, c16, c21, fun i hi => hok i hi HW⟩, c12⟩
   | exact fun e => c12 e.2
   | exact fun e => absurd e.1.2.1 HW
   | exact fun e => absurd e.1.2.2.1 HW
   | exact fun e => c30 (by rw [e.1.1])
   | (intro e
      have he := e.1.2.2.2 q hql
      unfold elemAtP at he
      rw [hK, hKid, hKidP, hPrev] at he
      rcases he with ⟨h1, h2, h3, h4, h5, h6⟩ | ⟨h1, h2, h3, h4⟩
      first | exact c58 h1 | exact h3 c88 | exact h4 c93 | exact h5 c101 | (have := h6 HW c63; omega) | omega
      first | exact h1 c58 | exact absurd h2 (by rw [c105]; decide) | exact (h4 HW).1 c109 | exact c119 h3 | exact absurd c114 (by rw [bytes_asym _ _ (h4 HW).2]; decide) | (rw [leq_nil c114] at h2; exact absurd h2 (by decide)) | omega)
  refine qs 11 ?_
  refine Ga (Gv HU HU (fun hl34 => ?_) (hm := by repeat (first | exact mem0 | assumption | refine memS ?_)))
  refine qs 4 ?_
  refine AC.loopC (fun (q : Nat) => q ≤ t.words.length ∧ ∀ j (hj : j < t.words.length), j < q → elemAtP l t j hj) (fun q => [(0, .slice a3 k3 c3), (3, .pointer (some ⟨b3, 0, none⟩)), (33, .slice a1 k1 c1), (34, .int .i64 t.words.length), (35, .int .i64 (q : Int))]) (fun q => t.words.length - q) 0 ⟨by omega, by omega⟩ srA ?_
  rintro q ⟨hq, hok⟩
  refine qs 2 ?_
  refine Ga (GB HU HU HU (fun c36 => ?_) (fun c36 => ?_))
  ·refine qs 11 ?_
   have hql : q < t.words.length := by omega
   have hqk : q < t.kids.length := by omega
   obtain ⟨hkn, hkl⟩ := kid_nat hk hqk
   refine Ga (Gj HU HU HU HU memA hql (fun _ _ => ?_))
   refine Ga (GE HU HU ?_)
   intros
   refine qs 10 ?_
   refine Ga (Gj HU HU HU HU memA hqk (fun _ _ => ?_))
   refine Ga (GE HU HU ?_)
   intros
   have hKid := kid_get hqk
   have hK : kindAt l (kidAt t q) = l[t.kids[q].toNat].kind := by rw [hKid]; exact kind_get hkn hkl
   have hKidP := kid_get (t := t) (i := q - 1) HW
   have hPrev := word_get (ws := t.words) (i := q - 1) HW
   refine Ga (Gj (k := t.kids[q].toNat) HU HU HU hkn memA hkl (fun _ _ => ?_))
   refine Ga (GU HU HU ?_)
   intro a47 k47 z47 d47 e47 f47
   refine Ga (Gq HU (fun b7 => ?_))
   refine qs 12 ?_
   refine Ga (AO.gtr HU HU HU (fun c49 => ?_) (fun c49 => ?_))
   ·refine qs 8 ?_
    refine Ga (Gj (k := q - 1) HU HU HU HW memA HW (fun _ _ => ?_))
    refine Ga (GE HU HU ?_)
    intros
    refine qs 7 ?_
    refine Ga (Gd HU HU (pmark_c t.words[q] (fun c58 => ?_) (fun c58 => ?_)))
    ·refine qs 5 ?_
     refine GO (fun _ => false) [(b3, _, _)] bxA HU (fun hx hX => ?_)
     have hkk := (Gy (hX (fK t a2 k2 c2) (by repeat (first | exact m2 | refine memS ?_)))).1
     obtain ⟨p2, o2, rfl, atq⟩ := GG (hX (fK t a2 k2 c2) (by repeat (first | exact m2 | refine memS ?_))) hqk
     obtain ⟨vq, hvq, hcq⟩ := atq 0 _ rfl
     cases hcq
     refine qt [0] ?_
     refine He (i := 1) HU (Y.gtr HU HU) HV HU HU (fun c60 => ?_) (fun c60 => absurd (of_decide_eq_false c60) HW)
     refine qt [2, 3] ?_
     refine Gf (i := 4) HV HU HU (fun _ => ?_)
     refine Gd HU HU (pmark_c t.words[q - 1] (fun c63 => ?_) (fun c63 => ?_))
     all_goals refine Gc bxA memB ?_
     ·refine qt [5, 6, 7, 8, 9, 10] ?_
      obtain ⟨p3, o3, e3, atp⟩ := GG (i := q - 1) (hX (fK t (some ⟨p2, o2, none⟩) k2 c2) (by repeat (first | exact m2 | refine memS ?_))) HW
      cases e3
      obtain ⟨vp, hvp, hcp⟩ := atp 0 _ rfl
      cases hcp
      refine GF (i := 11) HU (GM (k := q - 1) HU HU HW HW) HV HU HU ?_
      refine qt [12, 13, 14, 15, 16, 17] ?_
      refine He (i := 18) HU (Y.geq HU HU) HV HU HU (fun c77 => ?_) (fun c77 => ?_)
      ·replace c77 := of_decide_eq_true c77
       refine qt [19, 20] ?_
       refine Gm HV ?_
       refine qs 42 ?_
       first | refine Gb (L' := L) (F' := F) Tryz.results163 HU subA (hT ?_) | refine Gb (L' := L) (F' := F) Tryz.results163 HU subA (hF ?_)
       first
       | exact ⟨⟨by omega, c16, c21, fun i hi => hok i hi HW⟩, c12⟩
       | exact fun e => c12 e.2
       | exact fun e => absurd e.1.2.1 HW
       | exact fun e => absurd e.1.2.2.1 HW
       | exact fun e => c30 (by rw [e.1.1])
       | (intro e
          have he := e.1.2.2.2 q hql
          unfold elemAtP at he
          rw [hK, hKid, hKidP, hPrev] at he
          rcases he with ⟨h1, h2, h3, h4, h5, h6⟩ | ⟨h1, h2, h3, h4⟩
          first | exact c58 h1 | exact h3 c88 | exact h4 c93 | exact h5 c101 | (have := h6 HW c63; omega) | omega
          first | exact h1 c58 | exact absurd h2 (by rw [c105]; decide) | exact (h4 HW).1 c109 | exact c119 h3 | exact absurd c114 (by rw [bytes_asym _ _ (h4 HW).2]; decide) | (rw [leq_nil c114] at h2; exact absurd h2 (by decide)) | omega)
      replace c77 := of_decide_eq_false c77
      refine qt [19, 20] ?_
      refine Gm HV ?_
      refine qs 7 ?_
      refine Gh HU HU (GB HU HU HU (fun c83 => ?_) (fun c83 => ?_))
      ·refine qs 34 ?_
       first | refine Gb (L' := L) (F' := F) Tryz.results163 HU subA (hT ?_) | refine Gb (L' := L) (F' := F) Tryz.results163 HU subA (hF ?_)
       first
       | exact ⟨⟨by omega, c16, c21, fun i hi => hok i hi HW⟩, c12⟩
       | exact fun e => c12 e.2
       | exact fun e => absurd e.1.2.1 HW
       | exact fun e => absurd e.1.2.2.1 HW
       | exact fun e => c30 (by rw [e.1.1])
       | (intro e
          have he := e.1.2.2.2 q hql
          unfold elemAtP at he
          rw [hK, hKid, hKidP, hPrev] at he
          rcases he with ⟨h1, h2, h3, h4, h5, h6⟩ | ⟨h1, h2, h3, h4⟩
          first | exact c58 h1 | exact h3 c88 | exact h4 c93 | exact h5 c101 | (have := h6 HW c63; omega) | omega
          first | exact h1 c58 | exact absurd h2 (by rw [c105]; decide) | exact (h4 HW).1 c109 | exact c119 h3 | exact absurd c114 (by rw [bytes_asym _ _ (h4 HW).2]; decide) | (rw [leq_nil c114] at h2; exact absurd h2 (by decide)) | omega)
      refine qs 4 ?_
      refine Gh HU HU (GC HU HU HU (fun c88 => ?_) (fun c88 => ?_))
      ·refine qs 29 ?_
       first | refine Gb (L' := L) (F' := F) Tryz.results163 HU subA (hT ?_) | refine Gb (L' := L) (F' := F) Tryz.results163 HU subA (hF ?_)
       first
       | exact ⟨⟨by omega, c16, c21, fun i hi => hok i hi HW⟩, c12⟩
       | exact fun e => c12 e.2
       | exact fun e => absurd e.1.2.1 HW
       | exact fun e => absurd e.1.2.2.1 HW
       | exact fun e => c30 (by rw [e.1.1])
       | (intro e
          have he := e.1.2.2.2 q hql
          unfold elemAtP at he
          rw [hK, hKid, hKidP, hPrev] at he
          rcases he with ⟨h1, h2, h3, h4, h5, h6⟩ | ⟨h1, h2, h3, h4⟩
          first | exact c58 h1 | exact h3 c88 | exact h4 c93 | exact h5 c101 | (have := h6 HW c63; omega) | omega
          first | exact h1 c58 | exact absurd h2 (by rw [c105]; decide) | exact (h4 HW).1 c109 | exact c119 h3 | exact absurd c114 (by rw [bytes_asym _ _ (h4 HW).2]; decide) | (rw [leq_nil c114] at h2; exact absurd h2 (by decide)) | omega)
      refine qs 4 ?_
      refine Gh HU HU (GC HU HU HU (fun c93 => ?_) (fun c93 => ?_))
      ·refine qs 24 ?_
       first | refine Gb (L' := L) (F' := F) Tryz.results163 HU subA (hT ?_) | refine Gb (L' := L) (F' := F) Tryz.results163 HU subA (hF ?_)
       first
       | exact ⟨⟨by omega, c16, c21, fun i hi => hok i hi HW⟩, c12⟩
       | exact fun e => c12 e.2
       | exact fun e => absurd e.1.2.1 HW
       | exact fun e => absurd e.1.2.2.1 HW
       | exact fun e => c30 (by rw [e.1.1])
       | (intro e
          have he := e.1.2.2.2 q hql
          unfold elemAtP at he
          rw [hK, hKid, hKidP, hPrev] at he
          rcases he with ⟨h1, h2, h3, h4, h5, h6⟩ | ⟨h1, h2, h3, h4⟩
          first | exact c58 h1 | exact h3 c88 | exact h4 c93 | exact h5 c101 | (have := h6 HW c63; omega) | omega
          first | exact h1 c58 | exact absurd h2 (by rw [c105]; decide) | exact (h4 HW).1 c109 | exact c119 h3 | exact absurd c114 (by rw [bytes_asym _ _ (h4 HW).2]; decide) | (rw [leq_nil c114] at h2; exact absurd h2 (by decide)) | omega)
      refine qs 5 ?_
      refine Gh HU HU (Gj HU HU HU HU memA (by first | omega | (simp; omega)) (fun _ _ => ?_))
      refine Gh HU HU (GE HU HU ?_)
      intros
      refine Gh HU HU (Gd HU HU (untyped_c t.kids[q] (fun c101 => ?_) (fun c101 => ?_)))
      ·refine qs 16 ?_
       first | refine Gb (L' := L) (F' := F) Tryz.results163 HU subA (hT ?_) | refine Gb (L' := L) (F' := F) Tryz.results163 HU subA (hF ?_)
       first
       | exact ⟨⟨by omega, c16, c21, fun i hi => hok i hi HW⟩, c12⟩
       | exact fun e => c12 e.2
       | exact fun e => absurd e.1.2.1 HW
       | exact fun e => absurd e.1.2.2.1 HW
       | exact fun e => c30 (by rw [e.1.1])
       | (intro e
          have he := e.1.2.2.2 q hql
          unfold elemAtP at he
          rw [hK, hKid, hKidP, hPrev] at he
          rcases he with ⟨h1, h2, h3, h4, h5, h6⟩ | ⟨h1, h2, h3, h4⟩
          first | exact c58 h1 | exact h3 c88 | exact h4 c93 | exact h5 c101 | (have := h6 HW c63; omega) | omega
          first | exact h1 c58 | exact absurd h2 (by rw [c105]; decide) | exact (h4 HW).1 c109 | exact c119 h3 | exact absurd c114 (by rw [bytes_asym _ _ (h4 HW).2]; decide) | (rw [leq_nil c114] at h2; exact absurd h2 (by decide)) | omega)
      refine qs 12 ?_
      refine Gl (q + 1) ⟨by omega, ?_⟩ HW srA (Sub.drop.trans subF)
      intro j hj hjq
      rcases Nat.lt_succ_iff_lt_or_eq.1 hjq with k9 | rfl
      · exact hok j hj k9
      unfold elemAtP
      rw [hK, hKid, hKidP, hPrev]
      first
      | exact Or.inl ⟨c58, c83, c88, c93, c101, fun _ _ => Int.not_le.1 c77⟩
      | exact Or.inl ⟨c58, c83, c88, c93, c101, fun _ h1 => absurd h1 c63⟩
      | exact Or.inl ⟨c58, c83, c88, c93, c101, fun h0 _ => absurd h0 HW⟩
      | exact Or.inr ⟨c58, c105, c119, fun _ => ⟨c109, bytes_tri _ _ c114⟩⟩
      | exact Or.inr ⟨c58, c105, c119, fun h0 => absurd h0 HW⟩
     refine qt [5, 6, 7, 8, 9, 10, 11, 12, 13, 14, 15, 16, 17, 18, 19, 20] ?_
     refine Gm HV ?_
     refine qs 7 ?_
     refine Gh HU HU (GB HU HU HU (fun c83 => ?_) (fun c83 => ?_))
     ·refine qs 34 ?_
      first | refine Gb (L' := L) (F' := F) Tryz.results163 HU subA (hT ?_) | refine Gb (L' := L) (F' := F) Tryz.results163 HU subA (hF ?_)
      first
      | exact ⟨⟨by omega, c16, c21, fun i hi => hok i hi HW⟩, c12⟩
      | exact fun e => c12 e.2
      | exact fun e => absurd e.1.2.1 HW
      | exact fun e => absurd e.1.2.2.1 HW
      | exact fun e => c30 (by rw [e.1.1])
      | (intro e
         have he := e.1.2.2.2 q hql
         unfold elemAtP at he
         rw [hK, hKid, hKidP, hPrev] at he
         rcases he with ⟨h1, h2, h3, h4, h5, h6⟩ | ⟨h1, h2, h3, h4⟩
         first | exact c58 h1 | exact h3 c88 | exact h4 c93 | exact h5 c101 | (have := h6 HW c63; omega) | omega
         first | exact h1 c58 | exact absurd h2 (by rw [c105]; decide) | exact (h4 HW).1 c109 | exact c119 h3 | exact absurd c114 (by rw [bytes_asym _ _ (h4 HW).2]; decide) | (rw [leq_nil c114] at h2; exact absurd h2 (by decide)) | omega)
     refine qs 4 ?_
     refine Gh HU HU (GC HU HU HU (fun c88 => ?_) (fun c88 => ?_))
     ·refine qs 29 ?_
      first | refine Gb (L' := L) (F' := F) Tryz.results163 HU subA (hT ?_) | refine Gb (L' := L) (F' := F) Tryz.results163 HU subA (hF ?_)
      first
      | exact ⟨⟨by omega, c16, c21, fun i hi => hok i hi HW⟩, c12⟩
      | exact fun e => c12 e.2
      | exact fun e => absurd e.1.2.1 HW
      | exact fun e => absurd e.1.2.2.1 HW
      | exact fun e => c30 (by rw [e.1.1])
      | (intro e
         have he := e.1.2.2.2 q hql
         unfold elemAtP at he
         rw [hK, hKid, hKidP, hPrev] at he
         rcases he with ⟨h1, h2, h3, h4, h5, h6⟩ | ⟨h1, h2, h3, h4⟩
         first | exact c58 h1 | exact h3 c88 | exact h4 c93 | exact h5 c101 | (have := h6 HW c63; omega) | omega
         first | exact h1 c58 | exact absurd h2 (by rw [c105]; decide) | exact (h4 HW).1 c109 | exact c119 h3 | exact absurd c114 (by rw [bytes_asym _ _ (h4 HW).2]; decide) | (rw [leq_nil c114] at h2; exact absurd h2 (by decide)) | omega)
     refine qs 4 ?_
     refine Gh HU HU (GC HU HU HU (fun c93 => ?_) (fun c93 => ?_))
     ·refine qs 24 ?_
      first | refine Gb (L' := L) (F' := F) Tryz.results163 HU subA (hT ?_) | refine Gb (L' := L) (F' := F) Tryz.results163 HU subA (hF ?_)
      first
      | exact ⟨⟨by omega, c16, c21, fun i hi => hok i hi HW⟩, c12⟩
      | exact fun e => c12 e.2
      | exact fun e => absurd e.1.2.1 HW
      | exact fun e => absurd e.1.2.2.1 HW
      | exact fun e => c30 (by rw [e.1.1])
      | (intro e
         have he := e.1.2.2.2 q hql
         unfold elemAtP at he
         rw [hK, hKid, hKidP, hPrev] at he
         rcases he with ⟨h1, h2, h3, h4, h5, h6⟩ | ⟨h1, h2, h3, h4⟩
         first | exact c58 h1 | exact h3 c88 | exact h4 c93 | exact h5 c101 | (have := h6 HW c63; omega) | omega
         first | exact h1 c58 | exact absurd h2 (by rw [c105]; decide) | exact (h4 HW).1 c109 | exact c119 h3 | exact absurd c114 (by rw [bytes_asym _ _ (h4 HW).2]; decide) | (rw [leq_nil c114] at h2; exact absurd h2 (by decide)) | omega)
     refine qs 5 ?_
     refine Gh HU HU (Gj HU HU HU HU memA (by first | omega | (simp; omega)) (fun _ _ => ?_))
     refine Gh HU HU (GE HU HU ?_)
     intros
     refine Gh HU HU (Gd HU HU (untyped_c t.kids[q] (fun c101 => ?_) (fun c101 => ?_)))
     ·refine qs 16 ?_
      first | refine Gb (L' := L) (F' := F) Tryz.results163 HU subA (hT ?_) | refine Gb (L' := L) (F' := F) Tryz.results163 HU subA (hF ?_)
      first
      | exact ⟨⟨by omega, c16, c21, fun i hi => hok i hi HW⟩, c12⟩
      | exact fun e => c12 e.2
      | exact fun e => absurd e.1.2.1 HW
      | exact fun e => absurd e.1.2.2.1 HW
      | exact fun e => c30 (by rw [e.1.1])
      | (intro e
         have he := e.1.2.2.2 q hql
         unfold elemAtP at he
         rw [hK, hKid, hKidP, hPrev] at he
         rcases he with ⟨h1, h2, h3, h4, h5, h6⟩ | ⟨h1, h2, h3, h4⟩
         first | exact c58 h1 | exact h3 c88 | exact h4 c93 | exact h5 c101 | (have := h6 HW c63; omega) | omega
         first | exact h1 c58 | exact absurd h2 (by rw [c105]; decide) | exact (h4 HW).1 c109 | exact c119 h3 | exact absurd c114 (by rw [bytes_asym _ _ (h4 HW).2]; decide) | (rw [leq_nil c114] at h2; exact absurd h2 (by decide)) | omega)
     refine qs 12 ?_
     refine Gl (q + 1) ⟨by omega, ?_⟩ HW srA (Sub.drop.trans subF)
     intro j hj hjq
     rcases Nat.lt_succ_iff_lt_or_eq.1 hjq with k9 | rfl
     · exact hok j hj k9
     unfold elemAtP
     rw [hK, hKid, hKidP, hPrev]
     first
     | exact Or.inl ⟨c58, c83, c88, c93, c101, fun _ _ => Int.not_le.1 c77⟩
     | exact Or.inl ⟨c58, c83, c88, c93, c101, fun _ h1 => absurd h1 c63⟩
     | exact Or.inl ⟨c58, c83, c88, c93, c101, fun h0 _ => absurd h0 HW⟩
     | exact Or.inr ⟨c58, c105, c119, fun _ => ⟨c109, bytes_tri _ _ c114⟩⟩
     | exact Or.inr ⟨c58, c105, c119, fun h0 => absurd h0 HW⟩
    refine qs 7 ?_
    refine Ga (Gd HU HU (Hz t.words[q] (fun c105 => ?_) (fun c105 => ?_)))
    ·refine qs 3 ?_
     refine Gh HU HU (Gd HU HU (pmark_c t.words[q - 1] (fun c109 => ?_) (fun c109 => ?_)))
     ·refine qs 27 ?_
      first | refine Gb (L' := L) (F' := F) Tryz.results163 HU subA (hT ?_) | refine Gb (L' := L) (F' := F) Tryz.results163 HU subA (hF ?_)
      first
      | exact ⟨⟨by omega, c16, c21, fun i hi => hok i hi HW⟩, c12⟩
      | exact fun e => c12 e.2
      | exact fun e => absurd e.1.2.1 HW
      | exact fun e => absurd e.1.2.2.1 HW
      | exact fun e => c30 (by rw [e.1.1])
      | (intro e
         have he := e.1.2.2.2 q hql
         unfold elemAtP at he
         rw [hK, hKid, hKidP, hPrev] at he
         rcases he with ⟨h1, h2, h3, h4, h5, h6⟩ | ⟨h1, h2, h3, h4⟩
         first | exact c58 h1 | exact h3 c88 | exact h4 c93 | exact h5 c101 | (have := h6 HW c63; omega) | omega
         first | exact h1 c58 | exact absurd h2 (by rw [c105]; decide) | exact (h4 HW).1 c109 | exact c119 h3 | exact absurd c114 (by rw [bytes_asym _ _ (h4 HW).2]; decide) | (rw [leq_nil c114] at h2; exact absurd h2 (by decide)) | omega)
     refine qs 4 ?_
     refine Gh HU HU (AO.leqS HU HU HU (fun c114 => ?_) (fun c114 => ?_))
     ·refine qs 22 ?_
      first | refine Gb (L' := L) (F' := F) Tryz.results163 HU subA (hT ?_) | refine Gb (L' := L) (F' := F) Tryz.results163 HU subA (hF ?_)
      first
      | exact ⟨⟨by omega, c16, c21, fun i hi => hok i hi HW⟩, c12⟩
      | exact fun e => c12 e.2
      | exact fun e => absurd e.1.2.1 HW
      | exact fun e => absurd e.1.2.2.1 HW
      | exact fun e => c30 (by rw [e.1.1])
      | (intro e
         have he := e.1.2.2.2 q hql
         unfold elemAtP at he
         rw [hK, hKid, hKidP, hPrev] at he
         rcases he with ⟨h1, h2, h3, h4, h5, h6⟩ | ⟨h1, h2, h3, h4⟩
         first | exact c58 h1 | exact h3 c88 | exact h4 c93 | exact h5 c101 | (have := h6 HW c63; omega) | omega
         first | exact h1 c58 | exact absurd h2 (by rw [c105]; decide) | exact (h4 HW).1 c109 | exact c119 h3 | exact absurd c114 (by rw [bytes_asym _ _ (h4 HW).2]; decide) | (rw [leq_nil c114] at h2; exact absurd h2 (by decide)) | omega)
     refine qs 4 ?_
     refine Gh HU HU (GK HU HU HU (fun c119 => ?_) (fun c119 => ?_))
     ·refine qs 17 ?_
      first | refine Gb (L' := L) (F' := F) Tryz.results163 HU subA (hT ?_) | refine Gb (L' := L) (F' := F) Tryz.results163 HU subA (hF ?_)
      first
      | exact ⟨⟨by omega, c16, c21, fun i hi => hok i hi HW⟩, c12⟩
      | exact fun e => c12 e.2
      | exact fun e => absurd e.1.2.1 HW
      | exact fun e => absurd e.1.2.2.1 HW
      | exact fun e => c30 (by rw [e.1.1])
      | (intro e
         have he := e.1.2.2.2 q hql
         unfold elemAtP at he
         rw [hK, hKid, hKidP, hPrev] at he
         rcases he with ⟨h1, h2, h3, h4, h5, h6⟩ | ⟨h1, h2, h3, h4⟩
         first | exact c58 h1 | exact h3 c88 | exact h4 c93 | exact h5 c101 | (have := h6 HW c63; omega) | omega
         first | exact h1 c58 | exact absurd h2 (by rw [c105]; decide) | exact (h4 HW).1 c109 | exact c119 h3 | exact absurd c114 (by rw [bytes_asym _ _ (h4 HW).2]; decide) | (rw [leq_nil c114] at h2; exact absurd h2 (by decide)) | omega)
     refine qs 13 ?_
     refine Gl (q + 1) ⟨by omega, ?_⟩ HW srA (Sub.drop.trans subF)
     intro j hj hjq
     rcases Nat.lt_succ_iff_lt_or_eq.1 hjq with k9 | rfl
     · exact hok j hj k9
     unfold elemAtP
     rw [hK, hKid, hKidP, hPrev]
     first
     | exact Or.inl ⟨c58, c83, c88, c93, c101, fun _ _ => Int.not_le.1 c77⟩
     | exact Or.inl ⟨c58, c83, c88, c93, c101, fun _ h1 => absurd h1 c63⟩
     | exact Or.inl ⟨c58, c83, c88, c93, c101, fun h0 _ => absurd h0 HW⟩
     | exact Or.inr ⟨c58, c105, c119, fun _ => ⟨c109, bytes_tri _ _ c114⟩⟩
     | exact Or.inr ⟨c58, c105, c119, fun h0 => absurd h0 HW⟩
    refine qs 31 ?_
    first | refine Gb (L' := L) (F' := F) Tryz.results163 HU subA (hT ?_) | refine Gb (L' := L) (F' := F) Tryz.results163 HU subA (hF ?_)
    first
    | exact ⟨⟨by omega, c16, c21, fun i hi => hok i hi HW⟩, c12⟩
    | exact fun e => c12 e.2
    | exact fun e => absurd e.1.2.1 HW
    | exact fun e => absurd e.1.2.2.1 HW
    | exact fun e => c30 (by rw [e.1.1])
    | (intro e
       have he := e.1.2.2.2 q hql
       unfold elemAtP at he
       rw [hK, hKid, hKidP, hPrev] at he
       rcases he with ⟨h1, h2, h3, h4, h5, h6⟩ | ⟨h1, h2, h3, h4⟩
       first | exact c58 h1 | exact h3 c88 | exact h4 c93 | exact h5 c101 | (have := h6 HW c63; omega) | omega
       first | exact h1 c58 | exact absurd h2 (by rw [c105]; decide) | exact (h4 HW).1 c109 | exact c119 h3 | exact absurd c114 (by rw [bytes_asym _ _ (h4 HW).2]; decide) | (rw [leq_nil c114] at h2; exact absurd h2 (by decide)) | omega)
   refine qs 9 ?_
   refine Ga (Gd HU HU (pmark_c t.words[q] (fun c58 => ?_) (fun c58 => ?_)))
   ·refine qs 5 ?_
    refine GO (fun _ => false) [(b3, _, _)] bxA HU (fun hx hX => ?_)
    have hkk := (Gy (hX (fK t a2 k2 c2) (by repeat (first | exact m2 | refine memS ?_)))).1
    obtain ⟨p2, o2, rfl, atq⟩ := GG (hX (fK t a2 k2 c2) (by repeat (first | exact m2 | refine memS ?_))) hqk
    obtain ⟨vq, hvq, hcq⟩ := atq 0 _ rfl
    cases hcq
    refine qt [0] ?_
    refine He (i := 1) HU (Y.gtr HU HU) HV HU HU (fun c60 => absurd (of_decide_eq_true c60) HW) (fun c60 => ?_)
    refine qt [2, 3, 4, 5, 6, 7, 8, 9, 10, 11, 12, 13, 14, 15, 16, 17, 18, 19, 20] ?_
    refine Gm HV ?_
    refine qs 7 ?_
    refine Gh HU HU (GB HU HU HU (fun c83 => ?_) (fun c83 => ?_))
    ·refine qs 34 ?_
     first | refine Gb (L' := L) (F' := F) Tryz.results163 HU subA (hT ?_) | refine Gb (L' := L) (F' := F) Tryz.results163 HU subA (hF ?_)
     first
     | exact ⟨⟨by omega, c16, c21, fun i hi => hok i hi HW⟩, c12⟩
     | exact fun e => c12 e.2
     | exact fun e => absurd e.1.2.1 HW
     | exact fun e => absurd e.1.2.2.1 HW
     | exact fun e => c30 (by rw [e.1.1])
     | (intro e
        have he := e.1.2.2.2 q hql
        unfold elemAtP at he
        rw [hK, hKid, hKidP, hPrev] at he
        rcases he with ⟨h1, h2, h3, h4, h5, h6⟩ | ⟨h1, h2, h3, h4⟩
        first | exact c58 h1 | exact h3 c88 | exact h4 c93 | exact h5 c101 | (have := h6 HW c63; omega) | omega
        first | exact h1 c58 | exact absurd h2 (by rw [c105]; decide) | exact (h4 HW).1 c109 | exact c119 h3 | exact absurd c114 (by rw [bytes_asym _ _ (h4 HW).2]; decide) | (rw [leq_nil c114] at h2; exact absurd h2 (by decide)) | omega)
    refine qs 4 ?_
    refine Gh HU HU (GC HU HU HU (fun c88 => ?_) (fun c88 => ?_))
    ·refine qs 29 ?_
     first | refine Gb (L' := L) (F' := F) Tryz.results163 HU subA (hT ?_) | refine Gb (L' := L) (F' := F) Tryz.results163 HU subA (hF ?_)
     first
     | exact ⟨⟨by omega, c16, c21, fun i hi => hok i hi HW⟩, c12⟩
     | exact fun e => c12 e.2
     | exact fun e => absurd e.1.2.1 HW
     | exact fun e => absurd e.1.2.2.1 HW
     | exact fun e => c30 (by rw [e.1.1])
     | (intro e
        have he := e.1.2.2.2 q hql
        unfold elemAtP at he
        rw [hK, hKid, hKidP, hPrev] at he
        rcases he with ⟨h1, h2, h3, h4, h5, h6⟩ | ⟨h1, h2, h3, h4⟩
        first | exact c58 h1 | exact h3 c88 | exact h4 c93 | exact h5 c101 | (have := h6 HW c63; omega) | omega
        first | exact h1 c58 | exact absurd h2 (by rw [c105]; decide) | exact (h4 HW).1 c109 | exact c119 h3 | exact absurd c114 (by rw [bytes_asym _ _ (h4 HW).2]; decide) | (rw [leq_nil c114] at h2; exact absurd h2 (by decide)) | omega)
    refine qs 4 ?_
    refine Gh HU HU (GC HU HU HU (fun c93 => ?_) (fun c93 => ?_))
    ·refine qs 24 ?_
     first | refine Gb (L' := L) (F' := F) Tryz.results163 HU subA (hT ?_) | refine Gb (L' := L) (F' := F) Tryz.results163 HU subA (hF ?_)
     first
     | exact ⟨⟨by omega, c16, c21, fun i hi => hok i hi HW⟩, c12⟩
     | exact fun e => c12 e.2
     | exact fun e => absurd e.1.2.1 HW
     | exact fun e => absurd e.1.2.2.1 HW
     | exact fun e => c30 (by rw [e.1.1])
     | (intro e
        have he := e.1.2.2.2 q hql
        unfold elemAtP at he
        rw [hK, hKid, hKidP, hPrev] at he
        rcases he with ⟨h1, h2, h3, h4, h5, h6⟩ | ⟨h1, h2, h3, h4⟩
        first | exact c58 h1 | exact h3 c88 | exact h4 c93 | exact h5 c101 | (have := h6 HW c63; omega) | omega
        first | exact h1 c58 | exact absurd h2 (by rw [c105]; decide) | exact (h4 HW).1 c109 | exact c119 h3 | exact absurd c114 (by rw [bytes_asym _ _ (h4 HW).2]; decide) | (rw [leq_nil c114] at h2; exact absurd h2 (by decide)) | omega)
    refine qs 5 ?_
    refine Gh HU HU (Gj HU HU HU HU memA (by first | omega | (simp; omega)) (fun _ _ => ?_))
    refine Gh HU HU (GE HU HU ?_)
    intros
    refine Gh HU HU (Gd HU HU (untyped_c t.kids[q] (fun c101 => ?_) (fun c101 => ?_)))
    ·refine qs 16 ?_
     first | refine Gb (L' := L) (F' := F) Tryz.results163 HU subA (hT ?_) | refine Gb (L' := L) (F' := F) Tryz.results163 HU subA (hF ?_)
     first
     | exact ⟨⟨by omega, c16, c21, fun i hi => hok i hi HW⟩, c12⟩
     | exact fun e => c12 e.2
     | exact fun e => absurd e.1.2.1 HW
     | exact fun e => absurd e.1.2.2.1 HW
     | exact fun e => c30 (by rw [e.1.1])
     | (intro e
        have he := e.1.2.2.2 q hql
        unfold elemAtP at he
        rw [hK, hKid, hKidP, hPrev] at he
        rcases he with ⟨h1, h2, h3, h4, h5, h6⟩ | ⟨h1, h2, h3, h4⟩
        first | exact c58 h1 | exact h3 c88 | exact h4 c93 | exact h5 c101 | (have := h6 HW c63; omega) | omega
        first | exact h1 c58 | exact absurd h2 (by rw [c105]; decide) | exact (h4 HW).1 c109 | exact c119 h3 | exact absurd c114 (by rw [bytes_asym _ _ (h4 HW).2]; decide) | (rw [leq_nil c114] at h2; exact absurd h2 (by decide)) | omega)
    refine qs 12 ?_
    refine Gl (q + 1) ⟨by omega, ?_⟩ HW srA (Sub.drop.trans subF)
    intro j hj hjq
    rcases Nat.lt_succ_iff_lt_or_eq.1 hjq with k9 | rfl
    · exact hok j hj k9
    unfold elemAtP
    rw [hK, hKid, hKidP, hPrev]
    first
    | exact Or.inl ⟨c58, c83, c88, c93, c101, fun _ _ => Int.not_le.1 c77⟩
    | exact Or.inl ⟨c58, c83, c88, c93, c101, fun _ h1 => absurd h1 c63⟩
    | exact Or.inl ⟨c58, c83, c88, c93, c101, fun h0 _ => absurd h0 HW⟩
    | exact Or.inr ⟨c58, c105, c119, fun _ => ⟨c109, bytes_tri _ _ c114⟩⟩
    | exact Or.inr ⟨c58, c105, c119, fun h0 => absurd h0 HW⟩
   refine qs 7 ?_
   refine Ga (Gd HU HU (Hz t.words[q] (fun c105 => ?_) (fun c105 => ?_)))
   ·refine qs 3 ?_
    refine Gh HU HU (Gd HU HU (pmark_c [] (fun c109 => absurd c109 mark_nil) (fun c109 => ?_)))
    refine qs 4 ?_
    refine Gh HU HU (AO.leqS HU HU HU (fun c114 => ?_) (fun c114 => ?_))
    ·refine qs 22 ?_
     first | refine Gb (L' := L) (F' := F) Tryz.results163 HU subA (hT ?_) | refine Gb (L' := L) (F' := F) Tryz.results163 HU subA (hF ?_)
     first
     | exact ⟨⟨by omega, c16, c21, fun i hi => hok i hi HW⟩, c12⟩
     | exact fun e => c12 e.2
     | exact fun e => absurd e.1.2.1 HW
     | exact fun e => absurd e.1.2.2.1 HW
     | exact fun e => c30 (by rw [e.1.1])
     | (intro e
        have he := e.1.2.2.2 q hql
        unfold elemAtP at he
        rw [hK, hKid, hKidP, hPrev] at he
        rcases he with ⟨h1, h2, h3, h4, h5, h6⟩ | ⟨h1, h2, h3, h4⟩
        first | exact c58 h1 | exact h3 c88 | exact h4 c93 | exact h5 c101 | (have := h6 HW c63; omega) | omega
        first | exact h1 c58 | exact absurd h2 (by rw [c105]; decide) | exact (h4 HW).1 c109 | exact c119 h3 | exact absurd c114 (by rw [bytes_asym _ _ (h4 HW).2]; decide) | (rw [leq_nil c114] at h2; exact absurd h2 (by decide)) | omega)
    refine qs 4 ?_
    refine Gh HU HU (GK HU HU HU (fun c119 => ?_) (fun c119 => ?_))
    ·refine qs 17 ?_
     first | refine Gb (L' := L) (F' := F) Tryz.results163 HU subA (hT ?_) | refine Gb (L' := L) (F' := F) Tryz.results163 HU subA (hF ?_)
     first
     | exact ⟨⟨by omega, c16, c21, fun i hi => hok i hi HW⟩, c12⟩
     | exact fun e => c12 e.2
     | exact fun e => absurd e.1.2.1 HW
     | exact fun e => absurd e.1.2.2.1 HW
     | exact fun e => c30 (by rw [e.1.1])
     | (intro e
        have he := e.1.2.2.2 q hql
        unfold elemAtP at he
        rw [hK, hKid, hKidP, hPrev] at he
        rcases he with ⟨h1, h2, h3, h4, h5, h6⟩ | ⟨h1, h2, h3, h4⟩
        first | exact c58 h1 | exact h3 c88 | exact h4 c93 | exact h5 c101 | (have := h6 HW c63; omega) | omega
        first | exact h1 c58 | exact absurd h2 (by rw [c105]; decide) | exact (h4 HW).1 c109 | exact c119 h3 | exact absurd c114 (by rw [bytes_asym _ _ (h4 HW).2]; decide) | (rw [leq_nil c114] at h2; exact absurd h2 (by decide)) | omega)
    refine qs 13 ?_
    refine Gl (q + 1) ⟨by omega, ?_⟩ HW srA (Sub.drop.trans subF)
    intro j hj hjq
    rcases Nat.lt_succ_iff_lt_or_eq.1 hjq with k9 | rfl
    · exact hok j hj k9
    unfold elemAtP
    rw [hK, hKid, hKidP, hPrev]
    first
    | exact Or.inl ⟨c58, c83, c88, c93, c101, fun _ _ => Int.not_le.1 c77⟩
    | exact Or.inl ⟨c58, c83, c88, c93, c101, fun _ h1 => absurd h1 c63⟩
    | exact Or.inl ⟨c58, c83, c88, c93, c101, fun h0 _ => absurd h0 HW⟩
    | exact Or.inr ⟨c58, c105, c119, fun _ => ⟨c109, bytes_tri _ _ c114⟩⟩
    | exact Or.inr ⟨c58, c105, c119, fun h0 => absurd h0 HW⟩
   refine qs 31 ?_
   first | refine Gb (L' := L) (F' := F) Tryz.results163 HU subA (hT ?_) | refine Gb (L' := L) (F' := F) Tryz.results163 HU subA (hF ?_)
   first
   | exact ⟨⟨by omega, c16, c21, fun i hi => hok i hi HW⟩, c12⟩
   | exact fun e => c12 e.2
   | exact fun e => absurd e.1.2.1 HW
   | exact fun e => absurd e.1.2.2.1 HW
   | exact fun e => c30 (by rw [e.1.1])
   | (intro e
      have he := e.1.2.2.2 q hql
      unfold elemAtP at he
      rw [hK, hKid, hKidP, hPrev] at he
      rcases he with ⟨h1, h2, h3, h4, h5, h6⟩ | ⟨h1, h2, h3, h4⟩
      first | exact c58 h1 | exact h3 c88 | exact h4 c93 | exact h5 c101 | (have := h6 HW c63; omega) | omega
      first | exact h1 c58 | exact absurd h2 (by rw [c105]; decide) | exact (h4 HW).1 c109 | exact c119 h3 | exact absurd c114 (by rw [bytes_asym _ _ (h4 HW).2]; decide) | (rw [leq_nil c114] at h2; exact absurd h2 (by decide)) | omega)
  refine qs 15 ?_
  first | refine Gb (L' := L) (F' := F) Tryz.results163 HU subA (hT ?_) | refine Gb (L' := L) (F' := F) Tryz.results163 HU subA (hF ?_)
  first
  | exact ⟨⟨by omega, c16, c21, fun i hi => hok i hi HW⟩, c12⟩
  | exact fun e => c12 e.2
  | exact fun e => absurd e.1.2.1 HW
  | exact fun e => absurd e.1.2.2.1 HW
  | exact fun e => c30 (by rw [e.1.1])
  | (intro e
     have he := e.1.2.2.2 q hql
     unfold elemAtP at he
     rw [hK, hKid, hKidP, hPrev] at he
     rcases he with ⟨h1, h2, h3, h4, h5, h6⟩ | ⟨h1, h2, h3, h4⟩
     first | exact c58 h1 | exact h3 c88 | exact h4 c93 | exact h5 c101 | (have := h6 HW c63; omega) | omega
     first | exact h1 c58 | exact absurd h2 (by rw [c105]; decide) | exact (h4 HW).1 c109 | exact c119 h3 | exact absurd c114 (by rw [bytes_asym _ _ (h4 HW).2]; decide) | (rw [leq_nil c114] at h2; exact absurd h2 (by decide)) | omega)
end
end Go.Sy
namespace Go.Sy
abbrev GT := @kids_yes
end Go.Sy
namespace Go.Sy
open Go Go.Proofs Go.RowKit
section
variable {l : List Ty} {t : Ty}
theorem madeK_1 (h : t.kind = 1) : madeK l t ↔ (t.n = 0 ∧ t.kids.length = 1) := by
  unfold madeK
  constructor
  · rintro (e | e | e | e | e | e | e | e | e)
    all_goals first | (exfalso; have := e.1; omega) | exact e.2
  intro e
  first | exact Or.inl ⟨h, e⟩ | exact Or.inr (Or.inl ⟨h, e⟩) | exact Or.inr (Or.inr (Or.inl ⟨h, e⟩)) | exact Or.inr (Or.inr (Or.inr (Or.inl ⟨h, e⟩))) | exact Or.inr (Or.inr (Or.inr (Or.inr (Or.inl ⟨h, e⟩)))) | exact Or.inr (Or.inr (Or.inr (Or.inr (Or.inr (Or.inl ⟨h, e⟩))))) | exact Or.inr (Or.inr (Or.inr (Or.inr (Or.inr (Or.inr (Or.inl ⟨h, e⟩)))))) | exact Or.inr (Or.inr (Or.inr (Or.inr (Or.inr (Or.inr (Or.inr (Or.inl ⟨h, e⟩))))))) | exact Or.inr (Or.inr (Or.inr (Or.inr (Or.inr (Or.inr (Or.inr (Or.inr ⟨h, e⟩)))))))
theorem madeK_2 (h : t.kind = 2) : madeK l t ↔ (t.n = 0 ∧ t.kids.length = 1) := by
  unfold madeK
  constructor
  · rintro (e | e | e | e | e | e | e | e | e)
    all_goals first | (exfalso; have := e.1; omega) | exact e.2
  intro e
  first | exact Or.inl ⟨h, e⟩ | exact Or.inr (Or.inl ⟨h, e⟩) | exact Or.inr (Or.inr (Or.inl ⟨h, e⟩)) | exact Or.inr (Or.inr (Or.inr (Or.inl ⟨h, e⟩))) | exact Or.inr (Or.inr (Or.inr (Or.inr (Or.inl ⟨h, e⟩)))) | exact Or.inr (Or.inr (Or.inr (Or.inr (Or.inr (Or.inl ⟨h, e⟩))))) | exact Or.inr (Or.inr (Or.inr (Or.inr (Or.inr (Or.inr (Or.inl ⟨h, e⟩)))))) | exact Or.inr (Or.inr (Or.inr (Or.inr (Or.inr (Or.inr (Or.inr (Or.inl ⟨h, e⟩))))))) | exact Or.inr (Or.inr (Or.inr (Or.inr (Or.inr (Or.inr (Or.inr (Or.inr ⟨h, e⟩)))))))
theorem madeK_3 (h : t.kind = 3) : madeK l t ↔ (0 ≤ t.n ∧ t.n ≤ 2147483648 ∧ t.kids.length = 1) := by
  unfold madeK
  constructor
  · rintro (e | e | e | e | e | e | e | e | e)
    all_goals first | (exfalso; have := e.1; omega) | exact e.2
  intro e
  first | exact Or.inl ⟨h, e⟩ | exact Or.inr (Or.inl ⟨h, e⟩) | exact Or.inr (Or.inr (Or.inl ⟨h, e⟩)) | exact Or.inr (Or.inr (Or.inr (Or.inl ⟨h, e⟩))) | exact Or.inr (Or.inr (Or.inr (Or.inr (Or.inl ⟨h, e⟩)))) | exact Or.inr (Or.inr (Or.inr (Or.inr (Or.inr (Or.inl ⟨h, e⟩))))) | exact Or.inr (Or.inr (Or.inr (Or.inr (Or.inr (Or.inr (Or.inl ⟨h, e⟩)))))) | exact Or.inr (Or.inr (Or.inr (Or.inr (Or.inr (Or.inr (Or.inr (Or.inl ⟨h, e⟩))))))) | exact Or.inr (Or.inr (Or.inr (Or.inr (Or.inr (Or.inr (Or.inr (Or.inr ⟨h, e⟩)))))))
theorem madeK_4 (h : t.kind = 4) : madeK l t ↔ (t.n = 0 ∧ t.kids.length = 2) := by
  unfold madeK
  constructor
  · rintro (e | e | e | e | e | e | e | e | e)
    all_goals first | (exfalso; have := e.1; omega) | exact e.2
  intro e
  first | exact Or.inl ⟨h, e⟩ | exact Or.inr (Or.inl ⟨h, e⟩) | exact Or.inr (Or.inr (Or.inl ⟨h, e⟩)) | exact Or.inr (Or.inr (Or.inr (Or.inl ⟨h, e⟩))) | exact Or.inr (Or.inr (Or.inr (Or.inr (Or.inl ⟨h, e⟩)))) | exact Or.inr (Or.inr (Or.inr (Or.inr (Or.inr (Or.inl ⟨h, e⟩))))) | exact Or.inr (Or.inr (Or.inr (Or.inr (Or.inr (Or.inr (Or.inl ⟨h, e⟩)))))) | exact Or.inr (Or.inr (Or.inr (Or.inr (Or.inr (Or.inr (Or.inr (Or.inl ⟨h, e⟩))))))) | exact Or.inr (Or.inr (Or.inr (Or.inr (Or.inr (Or.inr (Or.inr (Or.inr ⟨h, e⟩)))))))
theorem madeK_5 (h : t.kind = 5) : madeK l t ↔ (t.n = 0 ∨ t.n = 1 ∧ 0 < t.kids.length) := by
  unfold madeK
  constructor
  · rintro (e | e | e | e | e | e | e | e | e)
    all_goals first | (exfalso; have := e.1; omega) | exact e.2
  intro e
  first | exact Or.inl ⟨h, e⟩ | exact Or.inr (Or.inl ⟨h, e⟩) | exact Or.inr (Or.inr (Or.inl ⟨h, e⟩)) | exact Or.inr (Or.inr (Or.inr (Or.inl ⟨h, e⟩))) | exact Or.inr (Or.inr (Or.inr (Or.inr (Or.inl ⟨h, e⟩)))) | exact Or.inr (Or.inr (Or.inr (Or.inr (Or.inr (Or.inl ⟨h, e⟩))))) | exact Or.inr (Or.inr (Or.inr (Or.inr (Or.inr (Or.inr (Or.inl ⟨h, e⟩)))))) | exact Or.inr (Or.inr (Or.inr (Or.inr (Or.inr (Or.inr (Or.inr (Or.inl ⟨h, e⟩))))))) | exact Or.inr (Or.inr (Or.inr (Or.inr (Or.inr (Or.inr (Or.inr (Or.inr ⟨h, e⟩)))))))
theorem madeK_6 (h : t.kind = 6) : madeK l t ↔ (t.n = 0 ∧ fieldsP t.words ∧ t.words.length = t.kids.length) := by
  unfold madeK
  constructor
  · rintro (e | e | e | e | e | e | e | e | e)
    all_goals first | (exfalso; have := e.1; omega) | exact e.2
  intro e
  first | exact Or.inl ⟨h, e⟩ | exact Or.inr (Or.inl ⟨h, e⟩) | exact Or.inr (Or.inr (Or.inl ⟨h, e⟩)) | exact Or.inr (Or.inr (Or.inr (Or.inl ⟨h, e⟩))) | exact Or.inr (Or.inr (Or.inr (Or.inr (Or.inl ⟨h, e⟩)))) | exact Or.inr (Or.inr (Or.inr (Or.inr (Or.inr (Or.inl ⟨h, e⟩))))) | exact Or.inr (Or.inr (Or.inr (Or.inr (Or.inr (Or.inr (Or.inl ⟨h, e⟩)))))) | exact Or.inr (Or.inr (Or.inr (Or.inr (Or.inr (Or.inr (Or.inr (Or.inl ⟨h, e⟩))))))) | exact Or.inr (Or.inr (Or.inr (Or.inr (Or.inr (Or.inr (Or.inr (Or.inr ⟨h, e⟩)))))))
theorem madeK_7 (h : t.kind = 7) : madeK l t ↔ (elemsP l t) := by
  unfold madeK
  constructor
  · rintro (e | e | e | e | e | e | e | e | e)
    all_goals first | (exfalso; have := e.1; omega) | exact e.2
  intro e
  first | exact Or.inl ⟨h, e⟩ | exact Or.inr (Or.inl ⟨h, e⟩) | exact Or.inr (Or.inr (Or.inl ⟨h, e⟩)) | exact Or.inr (Or.inr (Or.inr (Or.inl ⟨h, e⟩))) | exact Or.inr (Or.inr (Or.inr (Or.inr (Or.inl ⟨h, e⟩)))) | exact Or.inr (Or.inr (Or.inr (Or.inr (Or.inr (Or.inl ⟨h, e⟩))))) | exact Or.inr (Or.inr (Or.inr (Or.inr (Or.inr (Or.inr (Or.inl ⟨h, e⟩)))))) | exact Or.inr (Or.inr (Or.inr (Or.inr (Or.inr (Or.inr (Or.inr (Or.inl ⟨h, e⟩))))))) | exact Or.inr (Or.inr (Or.inr (Or.inr (Or.inr (Or.inr (Or.inr (Or.inr ⟨h, e⟩)))))))
theorem madeK_8 (h : t.kind = 8) : madeK l t ↔ (t.n = 0 ∧ namedP t.name) := by
  unfold madeK
  constructor
  · rintro (e | e | e | e | e | e | e | e | e)
    all_goals first | (exfalso; have := e.1; omega) | exact e.2
  intro e
  first | exact Or.inl ⟨h, e⟩ | exact Or.inr (Or.inl ⟨h, e⟩) | exact Or.inr (Or.inr (Or.inl ⟨h, e⟩)) | exact Or.inr (Or.inr (Or.inr (Or.inl ⟨h, e⟩))) | exact Or.inr (Or.inr (Or.inr (Or.inr (Or.inl ⟨h, e⟩)))) | exact Or.inr (Or.inr (Or.inr (Or.inr (Or.inr (Or.inl ⟨h, e⟩))))) | exact Or.inr (Or.inr (Or.inr (Or.inr (Or.inr (Or.inr (Or.inl ⟨h, e⟩)))))) | exact Or.inr (Or.inr (Or.inr (Or.inr (Or.inr (Or.inr (Or.inr (Or.inl ⟨h, e⟩))))))) | exact Or.inr (Or.inr (Or.inr (Or.inr (Or.inr (Or.inr (Or.inr (Or.inr ⟨h, e⟩)))))))
theorem madeK_9 (h : t.kind = 9) : madeK l t ↔ (0 ≤ t.n ∧ t.n < 16 ∧ t.kids.length = 0) := by
  unfold madeK
  constructor
  · rintro (e | e | e | e | e | e | e | e | e)
    all_goals first | (exfalso; have := e.1; omega) | exact e.2
  intro e
  first | exact Or.inl ⟨h, e⟩ | exact Or.inr (Or.inl ⟨h, e⟩) | exact Or.inr (Or.inr (Or.inl ⟨h, e⟩)) | exact Or.inr (Or.inr (Or.inr (Or.inl ⟨h, e⟩))) | exact Or.inr (Or.inr (Or.inr (Or.inr (Or.inl ⟨h, e⟩)))) | exact Or.inr (Or.inr (Or.inr (Or.inr (Or.inr (Or.inl ⟨h, e⟩))))) | exact Or.inr (Or.inr (Or.inr (Or.inr (Or.inr (Or.inr (Or.inl ⟨h, e⟩)))))) | exact Or.inr (Or.inr (Or.inr (Or.inr (Or.inr (Or.inr (Or.inr (Or.inl ⟨h, e⟩))))))) | exact Or.inr (Or.inr (Or.inr (Or.inr (Or.inr (Or.inr (Or.inr (Or.inr ⟨h, e⟩)))))))
theorem madeK_no (h1 : t.kind ≠ 1) (h2 : t.kind ≠ 2) (h3 : t.kind ≠ 3) (h4 : t.kind ≠ 4) (h5 : t.kind ≠ 5) (h6 : t.kind ≠ 6) (h7 : t.kind ≠ 7) (h8 : t.kind ≠ 8) (h9 : t.kind ≠ 9) : ¬ madeK l t := by
  unfold madeK
  rintro (e | e | e | e | e | e | e | e | e)
  all_goals (have := e.1; omega)
theorem made_bare (hk : kidsP l t) (hl : (t.kids.length : Int) ≤ 16) (hb : t.name = [] ∧ t.words = []) (hK : madeK l t) : madeP l t := ⟨hk, by omega, fun _ => hb.1, fun _ _ => hb.2, hK⟩
theorem made_nobare (h8 : t.kind ≠ 8) (h6 : t.kind ≠ 6) (h7 : t.kind ≠ 7) (hb : ¬(t.name = [] ∧ t.words = [])) : ¬ madeP l t := fun e => hb ⟨e.2.2.1 h8, e.2.2.2.1 h6 h7⟩
theorem made_noK (h : ¬ madeK l t) : ¬ madeP l t := fun e => h e.2.2.2.2
theorem made_nokids (h : ¬ ∀ j (hj : j < t.kids.length), ¬(t.kids[j] < 0 ∨ t.kids[j] ≥ l.length)) : ¬ madeP l t := by
  intro e
  refine h (fun j hj hk => ?_)
  have := e.1 _ (List.getElem_mem hj)
  omega
theorem made_long (h : (t.kids.length : Int) > 16) : ¬ madeP l t := fun e => by have := e.2.1; omega
end
attribute [local irreducible] AC AT AO AK AH ACalls Sub Res.cells Res.obj Res.nix Res.own Res.map Exit.then Exit.inBlock bodyPost Code.wp Code.wpIn WL Next Post Kont
section
variable {W0 : World} {L : List Res} {F : List Fact} {R : Value → List Res → List Fact → Prop}
set_option maxRecDepth 100000
set_option maxHeartbeats 4000000
theorem made_c (g : Glob W0) (l : List Ty) (t : Ty) (ht : TyOk2 t) {a1 a2 a3 : Option Addr} {k1 c1 k2 c2 k3 c3 : Nat} (m1 : fW t a1 k1 c1 ∈ F) (m2 : fK t a2 k2 c2 ∈ F) (m3 : fL l a3 k3 c3 ∈ F)
    (hT : madeP l t → R (.bool true) L F) (hF : ¬ madeP l t → R (.bool false) L F) : ACalls Tryz.prog W0 101 #[.slice a3 k3 c3, vTy t a1 k1 c1 a2 k2 c2] L F R := by
  have hnm := ht.name
  refine Ge Tryz.func101 HU Tryz.ntmps101 HU ?_
  refine qs 2 ?_
  refine Ga (GJ HU HU (fun b2 => (Ga (GJ HU HU (fun b3 => ?_)))))
  refine qs 8 ?_
  refine Ga (Hq HU HU ?_)
  refine Ga (Gd HU HU (containsFuncI_c t.kids m2 _ [.pointer (some ⟨b2, 0, none⟩)] (fun s => s < 0 ∨ s ≥ l.length) (fun s F' hF' R hT hF => made1_c l s (i := 1) (hF' _ m3) HU hT hF) (fun c9 => ?_) (fun c9 => ?_)))
  ·refine qs 16 ?_
   first | refine Gb (L' := L) (F' := F) Tryz.results101 HU subA (hT ?_) | refine Gb (L' := L) (F' := F) Tryz.results101 HU subA (hF ?_)
   first
   | exact made_nokids c9
   | exact made_long c14
   | exact made_noK (madeK_no c22 c23 c36 c54 c67 c85 c89 c94 c110)
  refine qs 3 ?_
  refine Gh HU HU (Gv HU HU (fun hl13 => ?_) (hm := by repeat (first | exact mem0 | assumption | refine memS ?_)))
  refine Gh HU HU (AO.gtr HU HU HU (fun c14 => ?_) (fun c14 => ?_))
  ·refine qs 11 ?_
   first | refine Gb (L' := L) (F' := F) Tryz.results101 HU subA (hT ?_) | refine Gb (L' := L) (F' := F) Tryz.results101 HU subA (hF ?_)
   first
   | exact made_nokids c9
   | exact made_long c14
   | exact made_noK (madeK_no c22 c23 c36 c54 c67 c85 c89 c94 c110)
  refine qs 10 ?_
  refine Ga (Gv HU HU (fun hl18 => ?_) (hm := by repeat (first | exact mem0 | assumption | refine memS ?_)))
  refine qs 14 ?_
  refine Ga (GC HU HU HU (fun c22 => ?_) (fun c22 => ?_))
  ·refine qs 10 ?_
   refine Ga (Gd HU HU (bare_c t memA (fun c25 => ?_) (fun c25 => ?_)))
   ·refine qs 3 ?_
    refine Gh HU HU (GC HU HU HU (fun c29 => ?_) (fun c29 => ?_))
    ·refine qs 3 ?_
     refine Gh HU HU (GC HU HU HU (fun c33 => ?_) (fun c33 => ?_))
     ·refine qs 7 ?_
      first | refine Gb (L' := L) (F' := F) Tryz.results101 HU subA (hT ?_) | refine Gb (L' := L) (F' := F) Tryz.results101 HU subA (hF ?_)
      first
      | exact made_bare (GT c9) c14 c25 ((madeK_1 c22).2 HW)
      | exact made_nobare HW HW HW c25
      | (refine made_noK (fun e => ?_); have e := (madeK_1 c22).1 e; omega)
     refine qs 7 ?_
     first | refine Gb (L' := L) (F' := F) Tryz.results101 HU subA (hT ?_) | refine Gb (L' := L) (F' := F) Tryz.results101 HU subA (hF ?_)
     first
     | exact made_bare (GT c9) c14 c25 ((madeK_1 c22).2 HW)
     | exact made_nobare HW HW HW c25
     | (refine made_noK (fun e => ?_); have e := (madeK_1 c22).1 e; omega)
    refine qs 11 ?_
    first | refine Gb (L' := L) (F' := F) Tryz.results101 HU subA (hT ?_) | refine Gb (L' := L) (F' := F) Tryz.results101 HU subA (hF ?_)
    first
    | exact made_bare (GT c9) c14 c25 ((madeK_1 c22).2 HW)
    | exact made_nobare HW HW HW c25
    | (refine made_noK (fun e => ?_); have e := (madeK_1 c22).1 e; omega)
   refine qs 15 ?_
   first | refine Gb (L' := L) (F' := F) Tryz.results101 HU subA (hT ?_) | refine Gb (L' := L) (F' := F) Tryz.results101 HU subA (hF ?_)
   first
   | exact made_bare (GT c9) c14 c25 ((madeK_1 c22).2 HW)
   | exact made_nobare HW HW HW c25
   | (refine made_noK (fun e => ?_); have e := (madeK_1 c22).1 e; omega)
  refine qs 5 ?_
  refine Ga (GC HU HU HU (fun c23 => ?_) (fun c23 => ?_))
  ·refine qs 7 ?_
   refine Ga (Gd HU HU (bare_c t memA (fun c25 => ?_) (fun c25 => ?_)))
   ·refine qs 3 ?_
    refine Gh HU HU (GC HU HU HU (fun c29 => ?_) (fun c29 => ?_))
    ·refine qs 3 ?_
     refine Gh HU HU (GC HU HU HU (fun c33 => ?_) (fun c33 => ?_))
     ·refine qs 7 ?_
      first | refine Gb (L' := L) (F' := F) Tryz.results101 HU subA (hT ?_) | refine Gb (L' := L) (F' := F) Tryz.results101 HU subA (hF ?_)
      first
      | exact made_bare (GT c9) c14 c25 ((madeK_2 c23).2 HW)
      | exact made_nobare HW HW HW c25
      | (refine made_noK (fun e => ?_); have e := (madeK_2 c23).1 e; omega)
     refine qs 7 ?_
     first | refine Gb (L' := L) (F' := F) Tryz.results101 HU subA (hT ?_) | refine Gb (L' := L) (F' := F) Tryz.results101 HU subA (hF ?_)
     first
     | exact made_bare (GT c9) c14 c25 ((madeK_2 c23).2 HW)
     | exact made_nobare HW HW HW c25
     | (refine made_noK (fun e => ?_); have e := (madeK_2 c23).1 e; omega)
    refine qs 11 ?_
    first | refine Gb (L' := L) (F' := F) Tryz.results101 HU subA (hT ?_) | refine Gb (L' := L) (F' := F) Tryz.results101 HU subA (hF ?_)
    first
    | exact made_bare (GT c9) c14 c25 ((madeK_2 c23).2 HW)
    | exact made_nobare HW HW HW c25
    | (refine made_noK (fun e => ?_); have e := (madeK_2 c23).1 e; omega)
   refine qs 15 ?_
   first | refine Gb (L' := L) (F' := F) Tryz.results101 HU subA (hT ?_) | refine Gb (L' := L) (F' := F) Tryz.results101 HU subA (hF ?_)
   first
   | exact made_bare (GT c9) c14 c25 ((madeK_2 c23).2 HW)
   | exact made_nobare HW HW HW c25
   | (refine made_noK (fun e => ?_); have e := (madeK_2 c23).1 e; omega)
  refine qs 6 ?_
  refine Ga (GC HU HU HU (fun c36 => ?_) (fun c36 => ?_))
  ·refine qs 7 ?_
   refine Ga (Gd HU HU (bare_c t memA (fun c38 => ?_) (fun c38 => ?_)))
   ·refine qs 3 ?_
    refine Gh HU HU (Hh HU HU HU (fun c42 => ?_) (fun c42 => ?_))
    ·refine qs 4 ?_
     refine Gh HU HU (AO.leq HU HU HU (fun c47 => ?_) (fun c47 => ?_))
     ·refine qs 3 ?_
      refine Gh HU HU (GC HU HU HU (fun c51 => ?_) (fun c51 => ?_))
      ·refine qs 7 ?_
       first | refine Gb (L' := L) (F' := F) Tryz.results101 HU subA (hT ?_) | refine Gb (L' := L) (F' := F) Tryz.results101 HU subA (hF ?_)
       first
       | exact made_bare (GT c9) c14 c38 ((madeK_3 c36).2 HW)
       | exact made_nobare HW HW HW c38
       | (refine made_noK (fun e => ?_); have e := (madeK_3 c36).1 e; omega)
      refine qs 7 ?_
      first | refine Gb (L' := L) (F' := F) Tryz.results101 HU subA (hT ?_) | refine Gb (L' := L) (F' := F) Tryz.results101 HU subA (hF ?_)
      first
      | exact made_bare (GT c9) c14 c38 ((madeK_3 c36).2 HW)
      | exact made_nobare HW HW HW c38
      | (refine made_noK (fun e => ?_); have e := (madeK_3 c36).1 e; omega)
     refine qs 11 ?_
     first | refine Gb (L' := L) (F' := F) Tryz.results101 HU subA (hT ?_) | refine Gb (L' := L) (F' := F) Tryz.results101 HU subA (hF ?_)
     first
     | exact made_bare (GT c9) c14 c38 ((madeK_3 c36).2 HW)
     | exact made_nobare HW HW HW c38
     | (refine made_noK (fun e => ?_); have e := (madeK_3 c36).1 e; omega)
    refine qs 16 ?_
    first | refine Gb (L' := L) (F' := F) Tryz.results101 HU subA (hT ?_) | refine Gb (L' := L) (F' := F) Tryz.results101 HU subA (hF ?_)
    first
    | exact made_bare (GT c9) c14 c38 ((madeK_3 c36).2 HW)
    | exact made_nobare HW HW HW c38
    | (refine made_noK (fun e => ?_); have e := (madeK_3 c36).1 e; omega)
   refine qs 20 ?_
   first | refine Gb (L' := L) (F' := F) Tryz.results101 HU subA (hT ?_) | refine Gb (L' := L) (F' := F) Tryz.results101 HU subA (hF ?_)
   first
   | exact made_bare (GT c9) c14 c38 ((madeK_3 c36).2 HW)
   | exact made_nobare HW HW HW c38
   | (refine made_noK (fun e => ?_); have e := (madeK_3 c36).1 e; omega)
  refine qs 6 ?_
  refine Ga (GC HU HU HU (fun c54 => ?_) (fun c54 => ?_))
  ·refine qs 7 ?_
   refine Ga (Gd HU HU (bare_c t memA (fun c56 => ?_) (fun c56 => ?_)))
   ·refine qs 3 ?_
    refine Gh HU HU (GC HU HU HU (fun c60 => ?_) (fun c60 => ?_))
    ·refine qs 3 ?_
     refine Gh HU HU (GC HU HU HU (fun c64 => ?_) (fun c64 => ?_))
     ·refine qs 7 ?_
      first | refine Gb (L' := L) (F' := F) Tryz.results101 HU subA (hT ?_) | refine Gb (L' := L) (F' := F) Tryz.results101 HU subA (hF ?_)
      first
      | exact made_bare (GT c9) c14 c56 ((madeK_4 c54).2 HW)
      | exact made_nobare HW HW HW c56
      | (refine made_noK (fun e => ?_); have e := (madeK_4 c54).1 e; omega)
     refine qs 7 ?_
     first | refine Gb (L' := L) (F' := F) Tryz.results101 HU subA (hT ?_) | refine Gb (L' := L) (F' := F) Tryz.results101 HU subA (hF ?_)
     first
     | exact made_bare (GT c9) c14 c56 ((madeK_4 c54).2 HW)
     | exact made_nobare HW HW HW c56
     | (refine made_noK (fun e => ?_); have e := (madeK_4 c54).1 e; omega)
    refine qs 11 ?_
    first | refine Gb (L' := L) (F' := F) Tryz.results101 HU subA (hT ?_) | refine Gb (L' := L) (F' := F) Tryz.results101 HU subA (hF ?_)
    first
    | exact made_bare (GT c9) c14 c56 ((madeK_4 c54).2 HW)
    | exact made_nobare HW HW HW c56
    | (refine made_noK (fun e => ?_); have e := (madeK_4 c54).1 e; omega)
   refine qs 15 ?_
   first | refine Gb (L' := L) (F' := F) Tryz.results101 HU subA (hT ?_) | refine Gb (L' := L) (F' := F) Tryz.results101 HU subA (hF ?_)
   first
   | exact made_bare (GT c9) c14 c56 ((madeK_4 c54).2 HW)
   | exact made_nobare HW HW HW c56
   | (refine made_noK (fun e => ?_); have e := (madeK_4 c54).1 e; omega)
  refine qs 6 ?_
  refine Ga (GC HU HU HU (fun c67 => ?_) (fun c67 => ?_))
  ·refine qs 7 ?_
   refine Ga (Gd HU HU (bare_c t memA (fun c69 => ?_) (fun c69 => ?_)))
   ·refine qs 3 ?_
    refine Gh HU HU (GC HU HU HU (fun c73 => ?_) (fun c73 => ?_))
    ·refine qs 16 ?_
     first | refine Gb (L' := L) (F' := F) Tryz.results101 HU subA (hT ?_) | refine Gb (L' := L) (F' := F) Tryz.results101 HU subA (hF ?_)
     first
     | exact made_bare (GT c9) c14 c69 ((madeK_5 c67).2 HW)
     | exact made_nobare HW HW HW c69
     | (refine made_noK (fun e => ?_); have e := (madeK_5 c67).1 e; omega)
    refine qs 3 ?_
    refine Gh HU HU (GC HU HU HU (fun c77 => ?_) (fun c77 => ?_))
    ·refine qs 2 ?_
     refine Gh HU HU (AO.gtr HU HU HU (fun c80 => ?_) (fun c80 => ?_))
     ·refine qs 9 ?_
      first | refine Gb (L' := L) (F' := F) Tryz.results101 HU subA (hT ?_) | refine Gb (L' := L) (F' := F) Tryz.results101 HU subA (hF ?_)
      first
      | exact made_bare (GT c9) c14 c69 ((madeK_5 c67).2 HW)
      | exact made_nobare HW HW HW c69
      | (refine made_noK (fun e => ?_); have e := (madeK_5 c67).1 e; omega)
     refine qs 9 ?_
     first | refine Gb (L' := L) (F' := F) Tryz.results101 HU subA (hT ?_) | refine Gb (L' := L) (F' := F) Tryz.results101 HU subA (hF ?_)
     first
     | exact made_bare (GT c9) c14 c69 ((madeK_5 c67).2 HW)
     | exact made_nobare HW HW HW c69
     | (refine made_noK (fun e => ?_); have e := (madeK_5 c67).1 e; omega)
    refine qs 12 ?_
    first | refine Gb (L' := L) (F' := F) Tryz.results101 HU subA (hT ?_) | refine Gb (L' := L) (F' := F) Tryz.results101 HU subA (hF ?_)
    first
    | exact made_bare (GT c9) c14 c69 ((madeK_5 c67).2 HW)
    | exact made_nobare HW HW HW c69
    | (refine made_noK (fun e => ?_); have e := (madeK_5 c67).1 e; omega)
   refine qs 20 ?_
   first | refine Gb (L' := L) (F' := F) Tryz.results101 HU subA (hT ?_) | refine Gb (L' := L) (F' := F) Tryz.results101 HU subA (hF ?_)
   first
   | exact made_bare (GT c9) c14 c69 ((madeK_5 c67).2 HW)
   | exact made_nobare HW HW HW c69
   | (refine made_noK (fun e => ?_); have e := (madeK_5 c67).1 e; omega)
  refine qs 6 ?_
  refine Ga (GC HU HU HU (fun c85 => ?_) (fun c85 => ?_))
  ·refine qs 7 ?_
   refine Ga (Gd HU HU (fields_c t memA memA (fun c87 => ?_) (fun c87 => ?_)))
   ·refine qs 6 ?_
    first | refine Gb (L' := L) (F' := F) Tryz.results101 HU subA (hT ?_) | refine Gb (L' := L) (F' := F) Tryz.results101 HU subA (hF ?_)
    first
    | exact ⟨GT c9, by omega, fun _ => c87.2.1, fun h => absurd c85 h, (madeK_6 c85).2 ⟨c87.2.2.1, c87.1, c87.2.2.2⟩⟩
    | exact fun e => c87 ⟨((madeK_6 c85).1 e.2.2.2.2).2.1, e.2.2.1 HW, ((madeK_6 c85).1 e.2.2.2.2).1, ((madeK_6 c85).1 e.2.2.2.2).2.2⟩
   refine qs 6 ?_
   first | refine Gb (L' := L) (F' := F) Tryz.results101 HU subA (hT ?_) | refine Gb (L' := L) (F' := F) Tryz.results101 HU subA (hF ?_)
   first
   | exact ⟨GT c9, by omega, fun _ => c87.2.1, fun h => absurd c85 h, (madeK_6 c85).2 ⟨c87.2.2.1, c87.1, c87.2.2.2⟩⟩
   | exact fun e => c87 ⟨((madeK_6 c85).1 e.2.2.2.2).2.1, e.2.2.1 HW, ((madeK_6 c85).1 e.2.2.2.2).1, ((madeK_6 c85).1 e.2.2.2.2).2.2⟩
  refine qs 6 ?_
  refine Ga (GC HU HU HU (fun c89 => ?_) (fun c89 => ?_))
  ·refine qs 8 ?_
   refine Ga (Gd HU HU (elems_c l t (GT c9) memA memA memA (fun c92 => ?_) (fun c92 => ?_)))
   ·refine qs 6 ?_
    first | refine Gb (L' := L) (F' := F) Tryz.results101 HU subA (hT ?_) | refine Gb (L' := L) (F' := F) Tryz.results101 HU subA (hF ?_)
    first
    | exact ⟨GT c9, by omega, fun _ => c92.2, fun _ h => absurd c89 h, (madeK_7 c89).2 c92.1⟩
    | exact fun e => c92 ⟨(madeK_7 c89).1 e.2.2.2.2, e.2.2.1 HW⟩
   refine qs 6 ?_
   first | refine Gb (L' := L) (F' := F) Tryz.results101 HU subA (hT ?_) | refine Gb (L' := L) (F' := F) Tryz.results101 HU subA (hF ?_)
   first
   | exact ⟨GT c9, by omega, fun _ => c92.2, fun _ h => absurd c89 h, (madeK_7 c89).2 c92.1⟩
   | exact fun e => c92 ⟨(madeK_7 c89).1 e.2.2.2.2, e.2.2.1 HW⟩
  refine qs 6 ?_
  refine Ga (GC HU HU HU (fun c94 => ?_) (fun c94 => ?_))
  ·refine qs 8 ?_
   refine Ga (Gd HU HU (named_c g t.name HW (fun c97 => ?_) (fun c97 => ?_)))
   ·refine qs 3 ?_
    refine Gh HU HU (GC HU HU HU (fun c101 => ?_) (fun c101 => ?_))
    ·refine qs 4 ?_
     refine Gh HU HU (Gv HU HU (fun hl106 => ?_) (hm := by repeat (first | exact mem0 | assumption | refine memS ?_)))
     refine Gh HU HU (GC HU HU HU (fun c107 => ?_) (fun c107 => ?_))
     ·refine qs 7 ?_
      first | refine Gb (L' := L) (F' := F) Tryz.results101 HU subA (hT ?_) | refine Gb (L' := L) (F' := F) Tryz.results101 HU subA (hF ?_)
      first
      | exact ⟨GT c9, by omega, fun h => absurd c94 h, fun _ _ => nil_of c107, (madeK_8 c94).2 ⟨c101, c97⟩⟩
      | exact fun e => c97 ((madeK_8 c94).1 e.2.2.2.2).2
      | exact fun e => c101 ((madeK_8 c94).1 e.2.2.2.2).1
      | exact fun e => c107 (by rw [e.2.2.2.1 HW HW]; rfl)
     refine qs 7 ?_
     first | refine Gb (L' := L) (F' := F) Tryz.results101 HU subA (hT ?_) | refine Gb (L' := L) (F' := F) Tryz.results101 HU subA (hF ?_)
     first
     | exact ⟨GT c9, by omega, fun h => absurd c94 h, fun _ _ => nil_of c107, (madeK_8 c94).2 ⟨c101, c97⟩⟩
     | exact fun e => c97 ((madeK_8 c94).1 e.2.2.2.2).2
     | exact fun e => c101 ((madeK_8 c94).1 e.2.2.2.2).1
     | exact fun e => c107 (by rw [e.2.2.2.1 HW HW]; rfl)
    refine qs 13 ?_
    first | refine Gb (L' := L) (F' := F) Tryz.results101 HU subA (hT ?_) | refine Gb (L' := L) (F' := F) Tryz.results101 HU subA (hF ?_)
    first
    | exact ⟨GT c9, by omega, fun h => absurd c94 h, fun _ _ => nil_of c107, (madeK_8 c94).2 ⟨c101, c97⟩⟩
    | exact fun e => c97 ((madeK_8 c94).1 e.2.2.2.2).2
    | exact fun e => c101 ((madeK_8 c94).1 e.2.2.2.2).1
    | exact fun e => c107 (by rw [e.2.2.2.1 HW HW]; rfl)
   refine qs 17 ?_
   first | refine Gb (L' := L) (F' := F) Tryz.results101 HU subA (hT ?_) | refine Gb (L' := L) (F' := F) Tryz.results101 HU subA (hF ?_)
   first
   | exact ⟨GT c9, by omega, fun h => absurd c94 h, fun _ _ => nil_of c107, (madeK_8 c94).2 ⟨c101, c97⟩⟩
   | exact fun e => c97 ((madeK_8 c94).1 e.2.2.2.2).2
   | exact fun e => c101 ((madeK_8 c94).1 e.2.2.2.2).1
   | exact fun e => c107 (by rw [e.2.2.2.1 HW HW]; rfl)
  refine qs 6 ?_
  refine Ga (GC HU HU HU (fun c110 => ?_) (fun c110 => ?_))
  ·refine qs 7 ?_
   refine Ga (Gd HU HU (bare_c t memA (fun c112 => ?_) (fun c112 => ?_)))
   ·refine qs 3 ?_
    refine Gh HU HU (Hh HU HU HU (fun c116 => ?_) (fun c116 => ?_))
    ·refine qs 4 ?_
     refine Gh HU HU (GB HU HU HU (fun c121 => ?_) (fun c121 => ?_))
     ·refine qs 3 ?_
      refine Gh HU HU (GC HU HU HU (fun c125 => ?_) (fun c125 => ?_))
      ·refine qs 7 ?_
       first | refine Gb (L' := L) (F' := F) Tryz.results101 HU subA (hT ?_) | refine Gb (L' := L) (F' := F) Tryz.results101 HU subA (hF ?_)
       first
       | exact made_bare (GT c9) c14 c112 ((madeK_9 c110).2 HW)
       | exact made_nobare HW HW HW c112
       | (refine made_noK (fun e => ?_); have e := (madeK_9 c110).1 e; omega)
      refine qs 7 ?_
      first | refine Gb (L' := L) (F' := F) Tryz.results101 HU subA (hT ?_) | refine Gb (L' := L) (F' := F) Tryz.results101 HU subA (hF ?_)
      first
      | exact made_bare (GT c9) c14 c112 ((madeK_9 c110).2 HW)
      | exact made_nobare HW HW HW c112
      | (refine made_noK (fun e => ?_); have e := (madeK_9 c110).1 e; omega)
     refine qs 11 ?_
     first | refine Gb (L' := L) (F' := F) Tryz.results101 HU subA (hT ?_) | refine Gb (L' := L) (F' := F) Tryz.results101 HU subA (hF ?_)
     first
     | exact made_bare (GT c9) c14 c112 ((madeK_9 c110).2 HW)
     | exact made_nobare HW HW HW c112
     | (refine made_noK (fun e => ?_); have e := (madeK_9 c110).1 e; omega)
    refine qs 16 ?_
    first | refine Gb (L' := L) (F' := F) Tryz.results101 HU subA (hT ?_) | refine Gb (L' := L) (F' := F) Tryz.results101 HU subA (hF ?_)
    first
    | exact made_bare (GT c9) c14 c112 ((madeK_9 c110).2 HW)
    | exact made_nobare HW HW HW c112
    | (refine made_noK (fun e => ?_); have e := (madeK_9 c110).1 e; omega)
   refine qs 20 ?_
   first | refine Gb (L' := L) (F' := F) Tryz.results101 HU subA (hT ?_) | refine Gb (L' := L) (F' := F) Tryz.results101 HU subA (hF ?_)
   first
   | exact made_bare (GT c9) c14 c112 ((madeK_9 c110).2 HW)
   | exact made_nobare HW HW HW c112
   | (refine made_noK (fun e => ?_); have e := (madeK_9 c110).1 e; omega)
  refine qs 13 ?_
  first | refine Gb (L' := L) (F' := F) Tryz.results101 HU subA (hT ?_) | refine Gb (L' := L) (F' := F) Tryz.results101 HU subA (hF ?_)
  first
  | exact made_nokids c9
  | exact made_long c14
  | exact made_noK (madeK_no c22 c23 c36 c54 c67 c85 c89 c94 c110)
end
end Go.Sy
namespace Go.Sy
open Go Go.Proofs Go.RowKit
theorem isAgg_int {P : Program} {t : TypeId} {k : IntKind} (w : World) (h : P.underlying t = some (.int k)) : (isAgg t).run P w = .ok false w := by simp [isAgg, run_underlying h]
theorem isAgg_str {P : Program} {t : TypeId} (w : World) (h : P.underlying t = some .string) : (isAgg t).run P w = .ok false w := by simp [isAgg, run_underlying h]
theorem part_get {P : Program} {t : TypeId} {cs : Array Value} {off : Nat} {v : Value} (w : World) (h : (isAgg t).run P w = .ok false w) (hv : cs[off]? = some v) : (part t cs off).run P w = .ok v w := by
  simp [part, h, hv, Result.andThen]
theorem S_eq (x y : List UInt8) : ((⟨x.toArray⟩ : ByteArray).toList == (⟨y.toArray⟩ : ByteArray).toList) = (x == y) := by rw [S_toList, S_toList]
def keyB (x y : Key) : Bool := x.kind == y.kind && (x.n == y.n && (x.name == y.name && (x.words == y.words && (x.kids == y.kids && x.lengths == y.lengths))))
theorem keyB_iff (x y : Key) : keyB x y = true ↔ x = y := by
  cases x; cases y; simp [keyB]
theorem eqF_step {P : Program} {w : World} {d : Nat} {xs ys : Array Value} {f : Field} {fs : List Field} {a b : Value} {r s : Bool} (hn : (f.name != "_") = true) (ha : (part f.type xs f.offset).run P w = .ok a w) (hb : (part f.type ys f.offset).run P w = .ok b w)
    (hr : (Op.equalIn d f.type a b).run P w = .ok r w) (hs : (Op.eqFields d xs ys fs).run P w = .ok s w) : (Op.eqFields d xs ys (f :: fs)).run P w = .ok (r && s) w := by
  have hn' : f.name ≠ "_" := by simpa using hn
  rw [Op.eqFields, if_pos hn']
  simp only [Sem.run_bind, ha, hb, hr, Result.andThen]
  cases r
  · simp
  simpa using hs
theorem key_equalIn (x y : Key) (w : World) : (Op.equalIn 10000 163 (vKey x) (vKey y)).run Tryz.prog w = .ok (keyB x y) w := by
  have hu : Tryz.prog.underlying 163 = some (.struct (Tryz.prog.fieldsOf 163)) := by rw [Program.fieldsOf, Tryz.underlying163]
  have hp : Tryz.prog.stoodInHeld 163 = false := by decide +kernel
  rw [show (10000 : Nat) = 9998 + 1 + 1 from rfl, run_equalIn_struct w (9998 + 1) _ _ _ hu hp]
  rw [Program.fieldsOf, Tryz.underlying163]
  have hi := Tryz.underlying3
  have hs := Tryz.underlying9
  refine eqF_step HU (part_get w (isAgg_int w hi) HU) (part_get w (isAgg_int w hi) HU) (run_equalIn_int w _ _ _ _ _ _ hi) ?_
  refine eqF_step HU (part_get w (isAgg_int w hi) HU) (part_get w (isAgg_int w hi) HU) (run_equalIn_int w _ _ _ _ _ _ hi) ?_
  refine eqF_step HU (part_get w (isAgg_str w hs) HU) (part_get w (isAgg_str w hs) HU) ((run_equalIn_string w _ _ _ _ hs).trans (by rw [S_eq])) ?_
  refine eqF_step HU (part_get w (isAgg_str w hs) HU) (part_get w (isAgg_str w hs) HU) ((run_equalIn_string w _ _ _ _ hs).trans (by rw [S_eq])) ?_
  refine eqF_step HU (part_get w (isAgg_str w hs) HU) (part_get w (isAgg_str w hs) HU) ((run_equalIn_string w _ _ _ _ hs).trans (by rw [S_eq])) ?_
  have := eqF_step (P := Tryz.prog) (w := w) (d := 9998 + 1) (xs := #[.int .i64 x.kind, .int .i64 x.n, S x.name, S x.words, S x.kids, S x.lengths]) (ys := #[.int .i64 y.kind, .int .i64 y.n, S y.name, S y.words, S y.kids, S y.lengths]) (fs := []) (f := ⟨ "lengths", 9, 5, false, "", "indenture/typ", 72⟩) rfl (part_get w (isAgg_str w hs) rfl) (part_get w (isAgg_str w hs) rfl) ((run_equalIn_string w _ _ _ _ hs).trans (by rw [S_eq])) (s := true) (by rw [Op.eqFields]; rfl)
  rw [Bool.and_true] at this
  exact this
theorem vKey_inj (x y : Key) (h : vKey x = vKey y) : x = y := by
  cases x; cases y
  injection h with h
  have h := congrArg Array.toList h
  simp only [List.cons.injEq, Value.int.injEq, true_and, and_true] at h
  obtain ⟨h1, h2, h3, h4, h5, h6⟩ := h
  injection h3 with h3; injection h4 with h4; injection h5 with h5; injection h6 with h6
  rw [h1, h2, S_inj h3, S_inj h4, S_inj h5, S_inj h6]
theorem same_str (n : Nat) (x : List UInt8) : Instr.sameBits (n + 1) (S x) (S x) = true := by
  show ((⟨x.toArray⟩ : ByteArray) == ⟨x.toArray⟩) = true
  rw [S_beq]; simp
theorem same_int (n : Nat) (x : Int) : Instr.sameBits (n + 1) (.int .i64 x) (.int .i64 x) = true := by
  show (IntKind.i64 == IntKind.i64 && x == x) = true
  simp
instance : KyT Tryz.prog 163 vKey := by
  refine KyT.ask Tryz.underlying163 (fun x y w => ⟨keyB x y, ?_, keyB_iff x y⟩) vKey_inj (fun em x w => ?_) (fun x => ?_)
  · exact key_equalIn x y w
  · have hi := Tryz.underlying3
    have hs := Tryz.underlying9
    rw [show (10000 : Nat) = 9998 + 1 + 1 from rfl, Instr.checkKey]
    have p1 := fun (off : Nat) (v : Value) (hv : (#[Value.int .i64 x.kind, .int .i64 x.n, S x.name, S x.words, S x.kids, S x.lengths])[off]? = some v) => part_get (P := Tryz.prog) w (isAgg_int w hi) hv
    have p2 := fun (off : Nat) (v : Value) (hv : (#[Value.int .i64 x.kind, .int .i64 x.n, S x.name, S x.words, S x.kids, S x.lengths])[off]? = some v) => part_get (P := Tryz.prog) w (isAgg_str w hs) hv
    have c1 : ∀ v, (Instr.checkKey em (9998 + 1) 3 v).run Tryz.prog w = .ok () w := by intro v; rw [Instr.checkKey]; simp [run_underlying hi]
    have c2 : ∀ v, (Instr.checkKey em (9998 + 1) 9 v).run Tryz.prog w = .ok () w := by intro v; rw [Instr.checkKey]; simp [run_underlying hs]
    simp only [Sem.run_bind, run_underlying Tryz.underlying163, Result.andThen_ok]
    simp [p1 0 _ rfl, p1 1 _ rfl, p2 2 _ rfl, p2 3 _ rfl, p2 4 _ rfl, p2 5 _ rfl, c1, c2, Result.andThen]
  rw [show (10000 : Nat) = 9998 + 1 + 1 from rfl, Instr.sameBits]
  simp [same_str, same_int]
theorem key_guard : Tryz.prog.eqGuardType Tryz.prog.depth 163 = false := by decide +kernel
end Go.Sy
namespace Go.Sy
open Go Go.Proofs Go.RowKit
theorem start_len : startL.length = 22 := by decide
theorem names_len : startNames.length = 20 := by decide
theorem basic_step {q : Nat} (hq : q < startNames.length) : (startNames.take q).map basicT ++ [basicT startNames[q]] = (startNames.take (q + 1)).map basicT := by
  rw [List.take_succ_eq_append_getElem hq, List.map_append]; rfl
theorem start_ok : ∀ t ∈ startL, TyOk t := by
  have h1 : ∀ t ∈ startL, -9223372036854775808 ≤ t.kind ∧ t.kind ≤ 9223372036854775807 := by decide
  have h2 : ∀ t ∈ startL, -9223372036854775808 ≤ t.n ∧ t.n ≤ 9223372036854775807 := by decide
  have h3 : ∀ t ∈ startL, t.name.length ≤ 60 := by decide
  have h4 : ∀ t ∈ startL, t.words = [] := by decide
  have h5 : ∀ t ∈ startL, t.kids = [] := by decide
  intro t ht
  refine ⟨h1 t ht, h2 t ht, h3 t ht, by rw [h4 t ht]; decide, by rw [h4 t ht]; simp, by rw [h5 t ht]; decide, by rw [h5 t ht]; simp⟩
theorem start_get {q : Nat} (hq : q < startL.length) : startL.getD q (basicT []) = startL[q] := by simp [List.getD, List.getElem?_eq_getElem hq]
theorem cells_S {F : List Fact} : ∀ (l : List (List UInt8)), Cells F (l.map S) (l.map eS).flatten
  | [] => .nil
  | _ :: l => .val (cells_S l)
def SeenK (l : List Ty) (q : Nat) (m : Key → Option Bool) : Prop := ∀ x, m x = some true ↔ ∃ t ∈ l.take q, keyT t = x
theorem SeenK.zero (l : List Ty) : SeenK l 0 (fun _ => none) := fun x => ⟨fun h => by simp at h, fun ⟨t, h, _⟩ => by simp at h⟩
theorem SeenK.step {l : List Ty} {q : Nat} {m : Key → Option Bool} (h : SeenK l q m) (hq : q < l.length) : SeenK l (q + 1) (upd m (keyT l[q]) true) := by
  intro x
  rw [List.take_succ_eq_append_getElem hq]
  by_cases hx : x = keyT l[q]
  · subst hx
    rw [upd_self]
    exact ⟨fun _ => ⟨l[q], List.mem_append_right _ (by simp), rfl⟩, fun _ => rfl⟩
  rw [upd_ne _ hx, h x]
  constructor
  · rintro ⟨t, h1, h2⟩; exact ⟨t, List.mem_append_left _ h1, h2⟩
  rintro ⟨t, h1, h2⟩
  rcases List.mem_append.1 h1 with k | k
  · exact ⟨t, k, h2⟩
  have : t = l[q] := by simpa using k
  subst this; exact absurd h2.symm hx
theorem SeenK.yes {l : List Ty} {q : Nat} {m : Key → Option Bool} (h : SeenK l q m) {t : Ty} (hm : m (keyT t) = some true) : t ∈ l.take q := by
  obtain ⟨u, h1, h2⟩ := (h _).1 hm
  rwa [key_inj h2] at h1
theorem SeenK.no {l : List Ty} {q : Nat} {m : Key → Option Bool} (h : SeenK l q m) {t : Ty} (hm : m (keyT t) ≠ some true) : t ∉ l.take q := fun hk => hm ((h _).2 ⟨t, hk, rfl⟩)
theorem row_ne {l : List Ty} (e : rightP l) {q : Nat} (hq : q < l.length) (h8 : q < startL.length) (hc : (!keyB (keyT l[q]) (keyT startL[q])) = true) : False := by
  have h := e.2.2 q hq
  have hsl := start_len
  unfold rowAt at h
  rw [if_pos HW, start_get h8] at h
  rw [h, (keyB_iff _ _).2 rfl] at hc
  exact absurd hc (by decide)
theorem row_eq {l : List Ty} {q : Nat} (hq : q < l.length) (h8 : q < startL.length) (hc : (!keyB (keyT l[q]) (keyT startL[q])) = false) : rowAt l q hq := by
  have hsl := start_len
  unfold rowAt
  rw [if_pos HW, start_get h8]
  have : keyB (keyT l[q]) (keyT startL[q]) = true := by simpa using hc
  exact key_inj ((keyB_iff _ _).1 this)
theorem row_made {l : List Ty} {q : Nat} (hq : q < l.length) (h : ¬ q < 22) (h1 : madeP (l.take q) l[q]) (h2 : l[q] ∉ l.take q) : rowAt l q hq := by
  unfold rowAt; rw [if_neg h]; exact ⟨h1, h2⟩
theorem row_nomade {l : List Ty} (e : rightP l) {q : Nat} (hq : q < l.length) (h : ¬ q < 22) (h1 : ¬ madeP (l.take q) l[q]) : False := by
  have h2 := e.2.2 q hq
  unfold rowAt at h2; rw [if_neg h] at h2; exact h1 h2.1
theorem rows_step {l : List Ty} {q : Nat} (hr : ∀ j (hj : j < l.length), j < q → rowAt l j hj) (hq : q < l.length) (h : rowAt l q hq) : ∀ j (hj : j < l.length), j < q + 1 → rowAt l j hj := by
  intro j hj hjq
  rcases Nat.lt_succ_iff_lt_or_eq.1 hjq with k | rfl
  · exact hr j hj k
  exact h
attribute [local irreducible] AC AT AO AK AH ACalls Sub Res.cells Res.obj Res.nix Res.own Res.map Exit.then Exit.inBlock bodyPost Code.wp Code.wpIn WL Next Post Kont
section
variable {W0 : World} {L : List Res} {F : List Fact} {R : Value → List Res → List Fact → Prop}
theorem Y.neqK {n : Nat} {ρ : Rho} {T : World → Prop} {a b : Key} {x y : Operand} {d : Option Tmp} {yt ty : TypeId} {pos : String} {af : Array Edge} {g : Option (Nat × Bool)} (hx : ev ρ x = some (vKey a)) (hy : ev ρ y = some (vKey b)) : Yd Tryz.prog n ρ T ⟨d, .binOp .neq 163 x y yt, ty, pos, af, g⟩ (.bool (!keyB a b)) := ⟨fun s w st _ => by
  simp only [execOp, GD st hx, GD st hy, Sem.run_bind, run_eqGuard_agg w _ _ _ _ _ _ key_guard, run_neq_struct, key_equalIn, Result.andThen, Sem.run_pure]⟩
set_option maxRecDepth 100000
set_option maxHeartbeats 4000000
theorem start_c (h : ∀ a k c, R (.slice a k c) L (fL startL a k c :: F)) : ACalls Tryz.prog W0 99 #[] L F R := by
  refine Ge Tryz.func99 HU Tryz.ntmps99 HU ?_
  refine qs 13 ?_
  refine Ga (Gi HU HU HU HU HU (fun b4 => ?_))
  refine Gz (GR (GP (i := 0) (enc := eS) (sz := 1) startNames HU (cells_S startNames) (fun _ => rfl) HU (by decide)) (Sub.drop.trans (HG (sz := 1)))) ?_
  refine Ga (Gv HU HU (fun hl5 => ?_) (hm := by repeat (first | exact mem0 | assumption | refine memS ?_)))
  refine qs 4 ?_
  refine GN (fun (i : Nat × Option Addr × Nat × Nat) => i.1 ≤ startNames.length) (fun i => [(1, .slice i.2.1 i.2.2.1 i.2.2.2), (4, .slice (some ⟨b4, 0, none⟩) 20 20), (5, .int .i64 startNames.length), (6, .int .i64 (i.1 : Int))]) (fun i => Res.own (.slice i.2.1 i.2.2.1 i.2.2.2) 29 5 (((startNames.take i.1).map basicT).map eTy) :: L) (fun _ => _) (fun i => startNames.length - i.1) (0, none, 0, 0) (by simp) srA Ha ?_
  rintro ⟨q, a1, k1, c1⟩ hq
  simp only at hq ⊢
  refine qs 2 ?_
  refine Ga (GB HU HU HU (fun c7 => ?_) (fun c7 => ?_))
  ·refine qs 10 ?_
   have hql : q < startNames.length := by omega
   have hnl := names_len
   have htl : ((startNames.take q).map basicT).length = q := by simp; omega
   refine Ga (Gj HU HU HU HU memA hql (fun _ _ => ?_))
   refine Ga (GE HU HU ?_)
   intros
   refine qs 6 ?_
   refine Ga (GI HU HU HU ?_)
   refine Ga (Gi HU HU HU HU HU (fun b13 => ?_))
   refine Ga (GZ (i := 0) (enc := eTy) (lst := (startNames.take q).map basicT) [basicT startNames[q]] HU HU HU HU (.val (.val (.val (.slc (.slc .nil memA) memA)))) HU HU (fun _ => rfl) (by rw [htl]; simp [maxLen]; omega) (by rw [htl]; omega) (fun a14 k14 c14 => ?_))
   rw [basic_step hql]
   refine qs 8 ?_
   refine Gl (q + 1, a14, k14, c14) (by simp only; omega) (by simp only; omega) srA subF
  refine qs 11 ?_
  refine Ga (AO.move HU HU ?_)
  have hall : startNames.take q = startNames := List.take_of_length_le HW
  rw [hall]
  refine Ga (GI HU HU HU (Ga (GI HU HU HU ?_)))
  refine Ga (Gi HU HU HU HU HU (fun b19 => ?_))
  refine Ga (GZ (i := 0) (enc := eTy) (lst := startNames.map basicT) [⟨7, [], 0, [], []⟩, ⟨7, [], 1, [], []⟩] HU HU HU HU (.val (.val (.val (.slc (.slc (.val (.val (.val (.slc (.slc .nil memA) memA)))) memA) memA)))) HU HU (fun _ => rfl) (by decide) (by decide) (fun a20 k20 c20 => ?_))
  refine qs 4 ?_
  refine Gb (L' := L) (F' := fL startL a20 k20 c20 :: F) Tryz.results99 HU ?_ (h _ _ _)
  exact (GH (i := 0) rfl).trans (Sub.drop.trans (Hk (fun x hx => by repeat (first | exact hx | refine List.mem_cons_of_mem _ ?_))))
theorem right_c (g : Glob W0) (l : List Ty) (hok : ∀ t ∈ l, TyOk t) {a : Option Addr} {k c : Nat} (m1 : fL l a k c ∈ F) (hT : rightP l → R (.bool true) L F) (hF : ¬ rightP l → R (.bool false) L F) : ACalls Tryz.prog W0 41 #[.slice a k c] L F R := by
  refine Ge Tryz.func41 HU Tryz.ntmps41 HU ?_
  refine qs 7 ?_
  refine Ga (Gd HU HU (start_c (fun a8 k8 c8 => ?_)))
  have hsl := start_len
  refine qs 7 ?_
  refine Ga (Gv HU HU (fun hl10 => ?_) (hm := by repeat (first | exact mem0 | assumption | refine memS ?_)))
  refine Ga (AO.gtr HU HU HU (fun c11 => ?_) (fun c11 => ?_))
  ·refine qs 17 ?_
   first | refine Gb (L' := L) (F' := F) Tryz.results41 HU subA (hT ?_) | refine Gb (L' := L) (F' := F) Tryz.results41 HU subA (hF ?_)
   first
   | exact fun e => absurd e.2.1 HW
   | exact fun e => absurd e.1 HW
   | exact fun e => row_ne e hql hq8 c40
   | exact fun e => row_nomade e hql HW c52
   | exact fun e => HT e q hql (hseen.yes c59)
   | exact ⟨by omega, by omega, fun i hi => hrow i hi HW⟩
  refine qs 2 ?_
  refine Gh HU HU (Gv HU HU (fun hl14 => ?_) (hm := by repeat (first | exact mem0 | assumption | refine memS ?_)))
  refine qs 1 ?_
  refine Gh HU HU (Gv HU HU (fun hl16 => ?_) (hm := by repeat (first | exact mem0 | assumption | refine memS ?_)))
  refine Gh HU HU (GB HU HU HU (fun c17 => ?_) (fun c17 => ?_))
  ·refine qs 11 ?_
   first | refine Gb (L' := L) (F' := F) Tryz.results41 HU subA (hT ?_) | refine Gb (L' := L) (F' := F) Tryz.results41 HU subA (hF ?_)
   first
   | exact fun e => absurd e.2.1 HW
   | exact fun e => absurd e.1 HW
   | exact fun e => row_ne e hql hq8 c40
   | exact fun e => row_nomade e hql HW c52
   | exact fun e => HT e q hql (hseen.yes c59)
   | exact ⟨by omega, by omega, fun i hi => hrow i hi HW⟩
  refine qs 8 ?_
  refine Ga (AO.makeMap vKey Value.bool HU (fun b19 => ?_))
  refine qs 7 ?_
  refine Ga (Gv HU HU (fun hl21 => ?_) (hm := by repeat (first | exact mem0 | assumption | refine memS ?_)))
  refine qs 4 ?_
  refine GN (fun (i : Nat × (Key → Option Bool)) => i.1 ≤ l.length ∧ SeenK l i.1 i.2 ∧ ∀ j (hj : j < l.length), j < i.1 → rowAt l j hj) (fun i => [(0, .slice a k c), (3, .slice a8 k8 c8), (4, .map (some b19)), (20, .slice a k c), (21, .int .i64 l.length), (22, .int .i64 (i.1 : Int))]) (fun i => Res.map b19 vKey Value.bool i.2 :: _) (fun _ => fL startL a8 k8 c8 :: F) (fun i => l.length - i.1) (0, fun _ => none) ⟨by omega, SeenK.zero _, by omega⟩ srA (Gk _ _) ?_
  rintro ⟨q, m⟩ ⟨hq, hseen, hrow⟩
  simp only at hq hseen hrow ⊢
  refine qs 2 ?_
  refine Ga (GB HU HU HU (fun c23 => ?_) (fun c23 => ?_))
  ·refine qs 11 ?_
   have hql : q < l.length := by omega
   refine Ga (Gj HU HU HU HU memA hql (fun _ _ => ?_))
   refine Ga (GU HU HU ?_)
   intro a26 k26 z26 d26 e26 f26
   refine Ga (Gq HU (fun b6 => ?_))
   refine qs 7 ?_
   refine Ga (Gd HU HU (keyOf_c g l[q] (hok _ (List.getElem_mem hql)).up memA memA ?_))
   refine Ga (Gq HU (fun b7 => ?_))
   refine qs 5 ?_
   refine GO (fun _ => false) [(b6, _, _), (b7, _, _)] bxA HU (fun hx hX => ?_)
   have hll := (Gy (hX (fL l a k c) memA)).1
   have hlc := (Gy (hX (fL l a k c) memA)).2
   have hl8 := (Gy (hX (fL startL a8 k8 c8) memA)).1
   refine qt [0, 1] ?_
   refine GF (i := 2) HU (Y.lenV HU) HV HU HU ?_
   refine He (i := 3) HU (Y.lss HU HU) HV HU HU (fun c32 => ?_) (fun c32 => ?_)
   ·replace c32 := of_decide_eq_true c32
    refine qt [4, 5, 6, 7] ?_
    have hq8 : q < startL.length := by omega
    obtain ⟨p1, o1, rfl, at1⟩ := GG (hX (fL startL a8 k8 c8) memA) hq8
    obtain ⟨w1, x1, y1, w2, x2, y2, hv1, hw1, hw2⟩ := ty_cells at1
    refine Hv hw1 memA (Hv hw2 memA ?_)
    refine GF (i := 8) HU (GM HU HU HU HW) HV HU HU ?_
    refine GV (i := 9) HU (HJ HU HU hv1) HV HV HU HU HU ?_
    refine Gf (i := 10) HV HU HU (fun _ => ?_)
    refine Gd HU HU (keyOf_c g startL[q] (start_ok _ (List.getElem_mem hq8)).up memA memA ?_)
    refine Gc bxA memB ?_
    refine He (i := 11) HU (Y.neqK HU HU) HV HU HU (fun c40 => ?_) (fun c40 => ?_)
    ·refine qt [12, 13, 14, 15, 16, 17, 18, 19, 20, 21, 22, 23, 24, 25, 26, 27, 28, 29, 30, 31] ?_
     refine Gm HV ?_
     refine qs 14 ?_
     first | refine Gb (L' := L) (F' := F) Tryz.results41 HU subA (hT ?_) | refine Gb (L' := L) (F' := F) Tryz.results41 HU subA (hF ?_)
     first
     | exact fun e => absurd e.2.1 HW
     | exact fun e => absurd e.1 HW
     | exact fun e => row_ne e hql hq8 c40
     | exact fun e => row_nomade e hql HW c52
     | exact fun e => HT e q hql (hseen.yes c59)
     | exact ⟨by omega, by omega, fun i hi => hrow i hi HW⟩
    refine qt [12, 13, 14, 15, 16] ?_
    refine He (i := 17) HU (Y.geq HU HU) HV HU HU (fun c46 => absurd (of_decide_eq_true c46) HW) (fun c46 => ?_)
    refine qt [18, 19, 20, 21, 22, 23, 24, 25, 26, 27, 28, 29] ?_
    refine Gf (i := 30) HV HU HU (fun _ => ?_)
    refine AO.lookupB (kenc := vKey) (m := m) (i := 2) (keyT l[q]) HU HU HU (by rfl) (fun c59 => ?_) (fun c59 => ?_)
    all_goals refine Gc bxA memB ?_
    ·refine qt [31] ?_
     refine Gm HV ?_
     refine qs 14 ?_
     first | refine Gb (L' := L) (F' := F) Tryz.results41 HU subA (hT ?_) | refine Gb (L' := L) (F' := F) Tryz.results41 HU subA (hF ?_)
     first
     | exact fun e => absurd e.2.1 HW
     | exact fun e => absurd e.1 HW
     | exact fun e => row_ne e hql hq8 c40
     | exact fun e => row_nomade e hql HW c52
     | exact fun e => HT e q hql (hseen.yes c59)
     | exact ⟨by omega, by omega, fun i hi => hrow i hi HW⟩
    refine qt [31] ?_
    refine Gm HV ?_
    refine qs 7 ?_
    refine Ga (Hi (kenc := vKey) (venc := Value.bool) (m := m) (i := 2) (keyT l[q]) true HU HU HU (by rfl) ?_)
    refine qs 7 ?_
    first | refine Gl (q + 1, upd m (keyT l[q]) true) ⟨by simp only; omega, hseen.step hql, rows_step hrow hql (row_eq hql hq8 c40)⟩ (by simp only; omega) srA (Sub.drop.trans (Sub.drop.trans subF)) | refine Gl (q + 1, upd m (keyT l[q]) true) ⟨by simp only; omega, hseen.step hql, rows_step hrow hql (row_made hql HW c52 (hseen.no c59))⟩ (by simp only; omega) srA (Sub.drop.trans (Sub.drop.trans subF))
   replace c32 := of_decide_eq_false c32
   refine qt [4, 5, 6, 7, 8, 9, 10, 11, 12, 13, 14, 15, 16] ?_
   refine He (i := 17) HU (Y.geq HU HU) HV HU HU (fun c46 => ?_) (fun c46 => absurd (of_decide_eq_false c46) HW)
   refine qt [18, 19, 20] ?_
   refine AH.weak (Sub.part (enc := eTy) (lst := l) 0 q c (show fL l a k c ∈ _ from memA) HW HW HW HW) ?_
   refine GF (i := 21) HU (Y.sliceH HU HU HU HW) HV HU HU ?_
   refine qt [22] ?_
   refine Gf (i := 23) HV HU HU (fun _ => ?_)
   refine Gd HU HU (made_c g (l.take q) l[q] (hok _ (List.getElem_mem hql)).up memA memA memA (fun c52 => ?_) (fun c52 => ?_))
   all_goals refine Gc bxA memB ?_
   ·refine qt [24, 25, 26, 27, 28, 29] ?_
    refine Gf (i := 30) HV HU HU (fun _ => ?_)
    refine AO.lookupB (kenc := vKey) (m := m) (i := 2) (keyT l[q]) HU HU HU (by rfl) (fun c59 => ?_) (fun c59 => ?_)
    all_goals refine Gc bxA memB ?_
    ·refine qt [31] ?_
     refine Gm HV ?_
     refine qs 14 ?_
     first | refine Gb (L' := L) (F' := F) Tryz.results41 HU subA (hT ?_) | refine Gb (L' := L) (F' := F) Tryz.results41 HU subA (hF ?_)
     first
     | exact fun e => absurd e.2.1 HW
     | exact fun e => absurd e.1 HW
     | exact fun e => row_ne e hql hq8 c40
     | exact fun e => row_nomade e hql HW c52
     | exact fun e => HT e q hql (hseen.yes c59)
     | exact ⟨by omega, by omega, fun i hi => hrow i hi HW⟩
    refine qt [31] ?_
    refine Gm HV ?_
    refine qs 7 ?_
    refine Ga (Hi (kenc := vKey) (venc := Value.bool) (m := m) (i := 2) (keyT l[q]) true HU HU HU (by rfl) ?_)
    refine qs 7 ?_
    first | refine Gl (q + 1, upd m (keyT l[q]) true) ⟨by simp only; omega, hseen.step hql, rows_step hrow hql (row_eq hql hq8 c40)⟩ (by simp only; omega) srA (Sub.drop.trans (Sub.drop.trans subF)) | refine Gl (q + 1, upd m (keyT l[q]) true) ⟨by simp only; omega, hseen.step hql, rows_step hrow hql (row_made hql HW c52 (hseen.no c59))⟩ (by simp only; omega) srA (Sub.drop.trans (Sub.drop.trans subF))
   refine qt [24, 25, 26, 27, 28, 29, 30, 31] ?_
   refine Gm HV ?_
   refine qs 14 ?_
   first | refine Gb (L' := L) (F' := F) Tryz.results41 HU subA (hT ?_) | refine Gb (L' := L) (F' := F) Tryz.results41 HU subA (hF ?_)
   first
   | exact fun e => absurd e.2.1 HW
   | exact fun e => absurd e.1 HW
   | exact fun e => row_ne e hql hq8 c40
   | exact fun e => row_nomade e hql HW c52
   | exact fun e => HT e q hql (hseen.yes c59)
   | exact ⟨by omega, by omega, fun i hi => hrow i hi HW⟩
  refine qs 15 ?_
  first | refine Gb (L' := L) (F' := F) Tryz.results41 HU subA (hT ?_) | refine Gb (L' := L) (F' := F) Tryz.results41 HU subA (hF ?_)
  first
  | exact fun e => absurd e.2.1 HW
  | exact fun e => absurd e.1 HW
  | exact fun e => row_ne e hql hq8 c40
  | exact fun e => row_nomade e hql HW c52
  | exact fun e => HT e q hql (hseen.yes c59)
  | exact ⟨by omega, by omega, fun i hi => hrow i hi HW⟩
end
end Go.Sy
namespace Go.Sy
open Go Go.Proofs Go.RowKit
attribute [local irreducible] AC AT AO AK AH ACalls Sub Res.cells Res.obj Res.nix Res.own Res.map Exit.then Exit.inBlock bodyPost Code.wp Code.wpIn WL Next Post Kont
section
variable {W0 : World} {L : List Res} {F : List Fact} {R : Value → List Res → List Fact → Prop}
set_option maxRecDepth 100000
set_option maxHeartbeats 4000000
end
end Go.Sy
namespace Go.Sy
open Go Go.Proofs Go.RowKit
attribute [local irreducible] AC AT AO AK AH ACalls Sub Res.cells Res.obj Res.nix Res.own Res.map Exit.then Exit.inBlock bodyPost Code.wp Code.wpIn WL Next Post Kont
section
variable {W0 : World} {L : List Res} {F : List Fact} {R : Value → List Res → List Fact → Prop}
set_option maxRecDepth 100000
set_option maxHeartbeats 4000000
end
end Go.Sy
namespace Go.Sy
open Go Go.Proofs Go.RowKit
theorem at_mem {l : List Ty} {t : Ty} {q : Nat} (hq : q < l.length) (h : l[q] = t) : t ∈ l := h ▸ List.getElem_mem hq
attribute [local irreducible] AC AT AO AK AH ACalls Sub Res.cells Res.obj Res.nix Res.own Res.map Exit.then Exit.inBlock bodyPost Code.wp Code.wpIn WL Next Post Kont
section
variable {W0 : World} {L : List Res} {F : List Fact} {R : Value → List Res → List Fact → Prop}
set_option maxRecDepth 100000
set_option maxHeartbeats 4000000
theorem rnames_c (h : ∀ b, R (.slice (some ⟨b, 0, none⟩) 20 20) L (.slc (.slice (some ⟨b, 0, none⟩) 20 20) 1 (startNames.map eS) :: F)) : ACalls Tryz.prog W0 108 #[] L F R := by
  refine Ge Tryz.func108 HU Tryz.ntmps108 HU ?_
  refine qs 7 ?_
  refine Ga (Gi HU HU HU HU HU (fun b4 => ?_))
  refine Gz (GR (GP (i := 0) (enc := eS) (sz := 1) startNames HU (cells_S startNames) (fun _ => rfl) HU (by decide)) Gn) ?_
  refine qs 4 ?_
  exact Gb Tryz.results108 rfl (Gk _ _) (h _)
end
end Go.Sy
namespace Go.Sy
open Go Go.Proofs Go.RowKit
theorem eTy_one : ∀ (x : Ty) (d : D), d ∈ eTy x → ∀ v, d = .val v → oneC v = true := by
  intro x d hd v hv
  subst hv
  simp only [List.mem_cons, D.val.injEq, List.not_mem_nil, or_false, reduceCtorEq] at hd
  rcases hd with rfl | rfl | rfl <;> rfl
abbrev cKey (k : Key) : Array Value := #[.int .i64 k.kind, .int .i64 k.n, S k.name, S k.words, S k.kids, S k.lengths]
attribute [local irreducible] AC AT AO AK AH ACalls Sub Res.cells Res.obj Res.nix Res.own Res.map Exit.then Exit.inBlock bodyPost Code.wp Code.wpIn WL Next Post Kont
section
variable {W0 : World} {L : List Res} {F : List Fact} {R : Value → List Res → List Fact → Prop}
theorem Y.eqlK {n : Nat} {ρ : Rho} {T : World → Prop} {a b : Key} {x y : Operand} {d : Option Tmp} {yt ty : TypeId} {pos : String} {af : Array Edge} {g : Option (Nat × Bool)} (hx : ev ρ x = some (vKey a)) (hy : ev ρ y = some (vKey b)) : Yd Tryz.prog n ρ T ⟨d, .binOp .eql 163 x y yt, ty, pos, af, g⟩ (.bool (keyB a b)) := ⟨fun s w st _ => by
  simp only [execOp, GD st hx, GD st hy, Sem.run_bind, run_eqGuard_agg w _ _ _ _ _ _ key_guard, run_eql_struct, key_equalIn, Result.andThen, Sem.run_pure]⟩
set_option maxRecDepth 100000
set_option maxHeartbeats 4000000
def TellsT (W0 : World) (L : List Res) (F : List Fact) (g : FuncId) (cs : List Value) (p : Ty → Prop) : Prop :=
  ∀ (t : Ty) (_ : TyOk t) (a1 : Option Addr) (k1 c1 : Nat) (a2 : Option Addr) (k2 c2 : Nat) (F' : List Fact) (_ : ∀ f ∈ F, f ∈ F') (_ : fW t a1 k1 c1 ∈ F') (_ : fK t a2 k2 c2 ∈ F') (R : Value → List Res → List Fact → Prop), (p t → R (.bool true) L F') → (¬ p t → R (.bool false) L F') → ACalls Tryz.prog W0 g ([vTy t a1 k1 c1 a2 k2 c2] ++ cs).toArray L F' R
theorem add1_c (g : Glob W0) (t : Ty) (ht : TyOk2 t) (K : Key) {ty : TypeId} {b : Nat} {a1 a2 : Option Addr} {k1 c1 k2 c2 : Nat} (m1 : fW t a1 k1 c1 ∈ F) (m2 : fK t a2 k2 c2 ∈ F) (hT : keyT t = K → R (.bool true) (Res.cells b (cKey K) ty :: L) F) (hF : keyT t ≠ K → R (.bool false) (Res.cells b (cKey K) ty :: L) F) :
    ACalls Tryz.prog W0 110 #[vTy t a1 k1 c1 a2 k2 c2, .pointer (some ⟨b, 0, none⟩)] (Res.cells b (cKey K) ty :: L) F R := by
  refine Ge Tryz.func110 HU Tryz.ntmps110 HU ?_
  refine qs 2 ?_
  refine Ga (GJ HU HU (fun b2 => ?_))
  refine qs 4 ?_
  refine GO (fun _ => false) [(b2, _, _), (b, _, _)] bxA HU (fun hx hX => ?_)
  refine qt [0, 2] ?_
  refine Gf (i := 1) HV HU HU (fun _ => ?_)
  refine Gd HU HU (keyOf_c g t ht memA memA ?_)
  refine Gc bxA memB ?_
  refine He (i := 3) HU (Y.eqlK (b := K) HU HU) HV HU HU (fun c7 => ?_) (fun c7 => ?_)
  ·refine qt [4] ?_
   refine Gm HV ?_
   refine qs 2 ?_
   first | exact Gb (L' := Res.cells b (cKey K) ty :: L) (F' := F) Tryz.results110 rfl (Sub.drop.trans subF) (hT ((keyB_iff _ _).1 c7)) | exact Gb (L' := Res.cells b (cKey K) ty :: L) (F' := F) Tryz.results110 rfl (Sub.drop.trans subF) (hF (fun e => by rw [(keyB_iff _ _).2 e] at c7; exact absurd c7 (by decide)))
  refine qt [4] ?_
  refine Gm HV ?_
  refine qs 2 ?_
  first | exact Gb (L' := Res.cells b (cKey K) ty :: L) (F' := F) Tryz.results110 rfl (Sub.drop.trans subF) (hT ((keyB_iff _ _).1 c7)) | exact Gb (L' := Res.cells b (cKey K) ty :: L) (F' := F) Tryz.results110 rfl (Sub.drop.trans subF) (hF (fun e => by rw [(keyB_iff _ _).2 e] at c7; exact absurd c7 (by decide)))
theorem indexFuncT_c (l : List Ty) (hok0 : ∀ t ∈ l, TyOk t) {a : Option Addr} {k c : Nat} (m1 : fL l a k c ∈ F) (g : FuncId) [FnT Tryz.prog g] (cs : List Value) (p : Ty → Prop) (hg : TellsT W0 L F g cs p)
    (hT : ∀ (j : Nat) (hj : j < l.length), p l[j] → R (.int .i64 (j : Int)) L F) (hF : (∀ j (hj : j < l.length), ¬ p l[j]) → R (.int .i64 (-1)) L F) : ACalls Tryz.prog W0 107 #[.slice a k c, .func (.func g) #[] cs.toArray] L F R := by
  refine Ge Tryz.func107 HU Tryz.ntmps107 HU ?_
  refine qs 9 ?_
  refine Ga (Gv HU HU (fun hl7 => ?_) (hm := by repeat (first | exact mem0 | assumption | refine memS ?_)))
  refine qs 4 ?_
  refine AC.loopC (fun (q : Nat) => q ≤ l.length ∧ ∀ j (hj : j < l.length), j < q → ¬ p l[j]) (fun q => [(0, .slice a k c), (1, .func (.func g) #[] cs.toArray), (7, .int .i64 l.length), (8, .int .i64 (q : Int))]) (fun q => l.length - q) 0 ⟨by omega, by omega⟩ srA ?_
  rintro q ⟨hq, hok⟩
  refine qs 2 ?_
  refine Ga (GB HU HU HU (fun c9 => ?_) (fun c9 => ?_))
  ·refine qs 19 ?_
   have hql : q < l.length := by omega
   refine Ga (Gj HU HU HU HU memA hql (fun _ _ => ?_))
   refine Ga (GU HU HU ?_)
   intro a15 k15 z15 d15 e15 f15
   refine Ga (AO.callC HU HU HU (hg l[q] (hok0 _ (List.getElem_mem hql)) _ _ _ _ _ _ _ (fun f hf => List.mem_cons_of_mem _ (List.mem_cons_of_mem _ (List.mem_cons_of_mem _ hf))) memA memA _ (fun c16 => ?_) (fun c16 => ?_)))
   ·refine qs 15 ?_
    first | exact Gb (L' := L) (F' := F) Tryz.results107 rfl subF (hT q hql c16) | exact Gb (L' := L) (F' := F) Tryz.results107 rfl subF (hF (fun j hj => hok j hj HW))
   refine qs 10 ?_
   refine Gl (q + 1) ⟨by omega, fun j hj hjq => ?_⟩ HW srA subF
   rcases Nat.lt_succ_iff_lt_or_eq.1 hjq with k9 | rfl
   · exact hok j hj k9
   exact c16
  refine qs 15 ?_
  first | exact Gb (L' := L) (F' := F) Tryz.results107 rfl subF (hT q hql c16) | exact Gb (L' := L) (F' := F) Tryz.results107 rfl subF (hF (fun j hj => hok j hj HW))
theorem clipT_c (l : List Ty) (h0 : 0 < l.length) {a : Option Addr} {k c : Nat} (m1 : fL l a k c ∈ F) (h : ∀ ad, R (.slice (some ad) l.length l.length) L (fL l (some ad) l.length l.length :: F)) : ACalls Tryz.prog W0 111 #[.slice a k c] L F R := by
  refine Ge Tryz.func111 HU Tryz.ntmps111 HU ?_
  refine qs 9 ?_
  refine Ga (Gv HU HU (fun hl5 => ?_) (hm := by repeat (first | exact mem0 | assumption | refine memS ?_)))
  refine qs 1 ?_
  refine Ga (Gv HU HU (fun hl7 => ?_) (hm := by repeat (first | exact mem0 | assumption | refine memS ?_)))
  refine Ga (AO.sliceHM (j' := l.length) (m' := l.length) HU HU HU HU HU HU (enc := eTy) (lst := l) memA HW HW h0 (fun ad => ?_))
  rw [List.take_length]
  refine qs 4 ?_
  exact Gb Tryz.results111 rfl (Gk _ _) (h _)
theorem add_c (g : Glob W0) (l : List Ty) (hok : ∀ t ∈ l, TyOk t) (t : Ty) (ht : TyOk2 t) {a a1 a2 : Option Addr} {k c k1 c1 k2 c2 : Nat} (m : fL l a k c ∈ F) (m1 : fW t a1 k1 c1 ∈ F) (m2 : fK t a2 k2 c2 ∈ F)
    (h1 : ¬ rightP l → R (.tuple #[.slice none 0 0, .int .i64 0, .int .i64 1]) L F)
    (h2 : rightP l → ∀ q (hq : q < l.length), l[q] = t → R (.tuple #[.slice a k c, .int .i64 (q : Int), .int .i64 0]) L F)
    (h3 : rightP l → t ∉ l → ¬ madeP l t → R (.tuple #[.slice none 0 0, .int .i64 0, .int .i64 1]) L F)
    (h4 : rightP l → t ∉ l → madeP l t → l.length = 400 → R (.tuple #[.slice none 0 0, .int .i64 0, .int .i64 7]) L F)
    (h5 : rightP l → t ∉ l → madeP l t → l.length < 400 → ∀ a k c, R (.tuple #[.slice a k c, .int .i64 (l.length : Int), .int .i64 0]) L (fL (l ++ [t]) a k c :: F)) :
    ACalls Tryz.prog W0 52 #[.slice a k c, vTy t a1 k1 c1 a2 k2 c2] L F R := by
  refine Ge Tryz.func52 HU Tryz.ntmps52 HU ?_
  refine qs 2 ?_
  refine Ga (GJ HU HU (fun b3 => ?_))
  refine qs 9 ?_
  refine Ga (Gd HU HU (right_c g l hok memA (fun c10 => ?_) (fun c10 => ?_)))
  ·refine qs 9 ?_
   refine Ga (Gd HU HU (keyOf_c g t ht memA memA ?_))
   refine Ga (Gq HU (fun b7 => ?_))
   refine qs 6 ?_
   refine Ga (Hq HU HU ?_)
   refine Ga (Gd HU HU (indexFuncT_c l hok m _ [.pointer (some ⟨b7, 0, none⟩)] (fun x => keyT x = keyT t) (fun x hx y1 y2 y3 y4 y5 y6 F' hF' n1 n2 R hT hF => add1_c g x hx.up (keyT t) n1 n2 hT hF) (fun j16 hj16 c16 => ?_) (fun c16 => ?_)))
   ·refine qs 8 ?_
    refine Ga (Hh HU HU HU (fun c19 => ?_) (fun c19 => absurd c19 HW))
    refine qs 16 ?_
    first
    | exact GX (L' := L) (F' := F) Tryz.results52 rfl rfl rfl subA (h1 c10)
    | exact GX (L' := L) (F' := F) Tryz.results52 rfl rfl rfl subA (h2 c10 j16 hj16 (key_inj c16))
    | exact GX (L' := L) (F' := F) Tryz.results52 rfl rfl rfl subA (h3 c10 hno c25)
    | exact GX (L' := L) (F' := F) Tryz.results52 rfl rfl rfl subA (h4 c10 hno c25 HW)
    | exact GX (L' := L) (F' := fL (l ++ [t]) a35 k35 z35 :: F) Tryz.results52 rfl rfl rfl ((GH (i := 0) rfl).trans (Sub.drop.trans (Sub.drop.trans (Sub.drop.trans (Hk (fun x hx => by repeat (first | exact hx | refine List.mem_cons_of_mem _ ?_))))))) (h5 c10 hno c25 (by have := c10.2.1; omega) _ _ _)
   refine qs 8 ?_
   have hno : t ∉ l := fun hm => by
    obtain ⟨j, hj, e⟩ := List.getElem_of_mem hm
    exact c16 j hj (by rw [e])
   refine Ga (Hh HU HU HU (fun c19 => absurd c19 HW) (fun c19 => ?_))
   refine qs 8 ?_
   refine Ga (Gd HU HU (made_c g l t ht memA memA memA (fun c25 => ?_) (fun c25 => ?_)))
   ·refine qs 8 ?_
    refine Ga (Gv HU HU (fun hl29 => ?_) (hm := by repeat (first | exact mem0 | assumption | refine memS ?_)))
    refine Ga (GC HU HU HU (fun c30 => ?_) (fun c30 => ?_))
    ·refine qs 14 ?_
     first
     | exact GX (L' := L) (F' := F) Tryz.results52 rfl rfl rfl subA (h1 c10)
     | exact GX (L' := L) (F' := F) Tryz.results52 rfl rfl rfl subA (h2 c10 j16 hj16 (key_inj c16))
     | exact GX (L' := L) (F' := F) Tryz.results52 rfl rfl rfl subA (h3 c10 hno c25)
     | exact GX (L' := L) (F' := F) Tryz.results52 rfl rfl rfl subA (h4 c10 hno c25 HW)
     | exact GX (L' := L) (F' := fL (l ++ [t]) a35 k35 z35 :: F) Tryz.results52 rfl rfl rfl ((GH (i := 0) rfl).trans (Sub.drop.trans (Sub.drop.trans (Sub.drop.trans (Hk (fun x hx => by repeat (first | exact hx | refine List.mem_cons_of_mem _ ?_))))))) (h5 c10 hno c25 (by have := c10.2.1; omega) _ _ _)
    refine qs 8 ?_
    refine GO (fun _ => false) [(b3, _, _)] bxA HU (fun hx hX => ?_)
    have hk9 := (Gy (hX (fL l a k c) memA)).1
    subst hk9
    refine qt [0, 2, 5, 6] ?_
    refine Hj (i := 1) (j := 3) HV HU HU HU HU (fun _ => ?_) (fun _ => ?_)
    ·refine Gd HU HU (clipT_c l (by have := c10.1; omega) memA (fun ad32 => ?_))
     refine Gc bxA memB ?_
     refine Gf (i := 3) HV HU HU (fun _ => ?_)
     refine Gi HU HU HU HU HU (fun b34 => ?_)
     refine Gc bxA memB ?_
     refine Gf (i := 4) HV HU HU (fun _ => ?_)
     refine AO.appendFull (enc := eTy) (lst := l) [t] HU HU HU (show fL l _ _ _ ∈ _ from memA) eTy_one (.val (.val (.val (.slc (.slc .nil memA) memA)))) HU (by decide) (fun _ => rfl) (by have := c10.2.1; simp only [maxLen]; omega) (by have := c10.2.1; omega) (fun a35 k35 z35 => ?_)
     refine Gc bxA memB ?_
     refine qt [7, 8, 9] ?_
     refine Gm HV ?_
     refine qs 2 ?_
     first
     | exact GX (L' := L) (F' := F) Tryz.results52 rfl rfl rfl subA (h1 c10)
     | exact GX (L' := L) (F' := F) Tryz.results52 rfl rfl rfl subA (h2 c10 j16 hj16 (key_inj c16))
     | exact GX (L' := L) (F' := F) Tryz.results52 rfl rfl rfl subA (h3 c10 hno c25)
     | exact GX (L' := L) (F' := F) Tryz.results52 rfl rfl rfl subA (h4 c10 hno c25 HW)
     | exact GX (L' := L) (F' := fL (l ++ [t]) a35 k35 z35 :: F) Tryz.results52 rfl rfl rfl ((GH (i := 0) rfl).trans (Sub.drop.trans (Sub.drop.trans (Sub.drop.trans (Hk (fun x hx => by repeat (first | exact hx | refine List.mem_cons_of_mem _ ?_))))))) (h5 c10 hno c25 (by have := c10.2.1; omega) _ _ _)
    refine Gi HU HU HU HU HU (fun b34 => ?_)
    refine Gc bxA memB ?_
    refine Gf (i := 1) HV HU HU (fun _ => ?_)
    refine Gd HU HU (clipT_c l (by have := c10.1; omega) memA (fun ad32 => ?_))
    refine Gc bxA memB ?_
    refine Gf (i := 4) HV HU HU (fun _ => ?_)
    refine AO.appendFull (enc := eTy) (lst := l) [t] HU HU HU (show fL l _ _ _ ∈ _ from memA) eTy_one (.val (.val (.val (.slc (.slc .nil memA) memA)))) HU (by decide) (fun _ => rfl) (by have := c10.2.1; simp only [maxLen]; omega) (by have := c10.2.1; omega) (fun a35 k35 z35 => ?_)
    refine Gc bxA memB ?_
    refine qt [7, 8, 9] ?_
    refine Gm HV ?_
    refine qs 2 ?_
    first
    | exact GX (L' := L) (F' := F) Tryz.results52 rfl rfl rfl subA (h1 c10)
    | exact GX (L' := L) (F' := F) Tryz.results52 rfl rfl rfl subA (h2 c10 j16 hj16 (key_inj c16))
    | exact GX (L' := L) (F' := F) Tryz.results52 rfl rfl rfl subA (h3 c10 hno c25)
    | exact GX (L' := L) (F' := F) Tryz.results52 rfl rfl rfl subA (h4 c10 hno c25 HW)
    | exact GX (L' := L) (F' := fL (l ++ [t]) a35 k35 z35 :: F) Tryz.results52 rfl rfl rfl ((GH (i := 0) rfl).trans (Sub.drop.trans (Sub.drop.trans (Sub.drop.trans (Hk (fun x hx => by repeat (first | exact hx | refine List.mem_cons_of_mem _ ?_))))))) (h5 c10 hno c25 (by have := c10.2.1; omega) _ _ _)
   refine qs 15 ?_
   first
   | exact GX (L' := L) (F' := F) Tryz.results52 rfl rfl rfl subA (h1 c10)
   | exact GX (L' := L) (F' := F) Tryz.results52 rfl rfl rfl subA (h2 c10 j16 hj16 (key_inj c16))
   | exact GX (L' := L) (F' := F) Tryz.results52 rfl rfl rfl subA (h3 c10 hno c25)
   | exact GX (L' := L) (F' := F) Tryz.results52 rfl rfl rfl subA (h4 c10 hno c25 HW)
   | exact GX (L' := L) (F' := fL (l ++ [t]) a35 k35 z35 :: F) Tryz.results52 rfl rfl rfl ((GH (i := 0) rfl).trans (Sub.drop.trans (Sub.drop.trans (Sub.drop.trans (Hk (fun x hx => by repeat (first | exact hx | refine List.mem_cons_of_mem _ ?_))))))) (h5 c10 hno c25 (by have := c10.2.1; omega) _ _ _)
  refine qs 13 ?_
  first
  | exact GX (L' := L) (F' := F) Tryz.results52 rfl rfl rfl subA (h1 c10)
  | exact GX (L' := L) (F' := F) Tryz.results52 rfl rfl rfl subA (h2 c10 j16 hj16 (key_inj c16))
  | exact GX (L' := L) (F' := F) Tryz.results52 rfl rfl rfl subA (h3 c10 hno c25)
  | exact GX (L' := L) (F' := F) Tryz.results52 rfl rfl rfl subA (h4 c10 hno c25 HW)
  | exact GX (L' := L) (F' := fL (l ++ [t]) a35 k35 z35 :: F) Tryz.results52 rfl rfl rfl ((GH (i := 0) rfl).trans (Sub.drop.trans (Sub.drop.trans (Sub.drop.trans (Hk (fun x hx => by repeat (first | exact hx | refine List.mem_cons_of_mem _ ?_))))))) (h5 c10 hno c25 (by have := c10.2.1; omega) _ _ _)
end
end Go.Sy
namespace Go.Sy
open Go Go.Proofs Go.RowKit
abbrev vI (i : Int) : Value := .int .i64 i
attribute [local irreducible] AC AT AO AK AH ACalls Sub Res.cells Res.obj Res.nix Res.own Res.map Exit.then Exit.inBlock bodyPost Code.wp Code.wpIn WL Next Post Kont
section
variable {W0 : World} {L : List Res} {F : List Fact} {R : Value → List Res → List Fact → Prop}
set_option maxRecDepth 100000
set_option maxHeartbeats 4000000
end
end Go.Sy
namespace Go.Sy
open Go Go.Proofs Go.RowKit
structure TyIn (t : Ty) : Prop where
  kind : -9223372036854775808 ≤ t.kind ∧ t.kind ≤ 9223372036854775807
  n : -9223372036854775808 ≤ t.n ∧ t.n ≤ 9223372036854775807
  kid : ∀ k ∈ t.kids, -9223372036854775808 ≤ k ∧ k ≤ 9223372036854775807
theorem right_snoc {l : List Ty} {t : Ty} (h : rightP l) (hn : t ∉ l) (hm : madeP l t) (hl : l.length < 400) : rightP (l ++ [t]) := by
  refine ⟨by have := h.1; simp; omega, by simp; omega, fun i hi => ?_⟩
  have h22 := h.1
  rcases Nat.lt_or_ge i l.length with k | k
  · have hr := h.2.2 i k
    unfold rowAt at hr ⊢
    rw [List.getElem_append_left k, List.take_append_of_le_length HW]
    exact hr
  have hil : i = l.length := by simp at hi; omega
  subst hil
  unfold rowAt
  rw [if_neg HW, List.getElem_append_right HW, List.take_append_of_le_length HW, List.take_length]
  simp only [Nat.sub_self, List.getElem_cons_zero]
  exact ⟨hm, hn⟩
theorem start_right : rightP startL := by
  have hl := start_len
  refine ⟨by omega, by omega, fun i hi => ?_⟩
  unfold rowAt
  rw [if_pos HW, start_get hi]
def AddP (l : List Ty) (t : Ty) (l' : List Ty) (i e : Int) : Prop :=
  (∃ q : Nat, ∃ hq : q < l.length, l[q] = t ∧ l' = l ∧ i = (q : Int) ∧ e = 0) ∨
  (t ∉ l ∧ ((¬ madeP l t ∧ l' = [] ∧ i = 0 ∧ e = 1) ∨ (madeP l t ∧ l.length = 400 ∧ l' = [] ∧ i = 0 ∧ e = 7) ∨ (madeP l t ∧ l.length ≠ 400 ∧ l' = l ++ [t] ∧ i = (l.length : Int) ∧ e = 0)))
theorem right_inj {l : List Ty} (h : rightP l) {i j : Nat} (hi : i < l.length) (hj : j < l.length) (e : l[i] = l[j]) : i = j := by
  rcases Nat.lt_trichotomy i j with k | k | k
  · refine absurd ?_ (HT h j hj)
    rw [← e, List.mem_take_iff_getElem]
    exact ⟨i, by omega, rfl⟩
  · exact k
  refine absurd ?_ (HT h i hi)
  rw [e, List.mem_take_iff_getElem]
  exact ⟨j, by omega, rfl⟩
theorem addP_one {l : List Ty} {t : Ty} {l1 l2 : List Ty} {i1 e1 i2 e2 : Int} (hr : rightP l) (h1 : AddP l t l1 i1 e1) (h2 : AddP l t l2 i2 e2) : l1 = l2 ∧ i1 = i2 ∧ e1 = e2 := by
  rcases h1 with ⟨q, hq, a1, a2, a3, a4⟩ | ⟨n1, h1⟩
  · rcases h2 with ⟨r, hr', b1, b2, b3, b4⟩ | ⟨n2, _⟩
    · have := right_inj hr hq hr' (a1.trans b1.symm)
      subst this
      exact ⟨by rw [a2, b2], by rw [a3, b3], by rw [a4, b4]⟩
    exact absurd (at_mem hq a1) n2
  rcases h2 with ⟨r, hr', b1, _⟩ | ⟨n2, h2⟩
  · exact absurd (at_mem hr' b1) n1
  rcases h1 with ⟨m1, a2, a3, a4⟩ | ⟨m1, z1, a2, a3, a4⟩ | ⟨m1, z1, a2, a3, a4⟩ <;> rcases h2 with ⟨m2, b2, b3, b4⟩ | ⟨m2, z2, b2, b3, b4⟩ | ⟨m2, z2, b2, b3, b4⟩
  all_goals first | exact absurd m2 m1 | exact absurd m1 m2 | exact absurd z2 z1 | exact absurd z1 z2 | exact ⟨by rw [a2, b2], by rw [a3, b3], by rw [a4, b4]⟩
attribute [local irreducible] AC AT AO AK AH ACalls Sub Res.cells Res.obj Res.nix Res.own Res.map Exit.then Exit.inBlock bodyPost Code.wp Code.wpIn WL Next Post Kont
section
variable {W0 : World} {L : List Res} {F : List Fact} {R : Value → List Res → List Fact → Prop}
set_option maxRecDepth 100000
set_option maxHeartbeats 4000000
theorem add2_c (g : Glob W0) (l : List Ty) (hok : ∀ t ∈ l, TyOk t) (t : Ty) (ht : TyOk2 t) {a a1 a2 : Option Addr} {k c k1 c1 k2 c2 : Nat} (m : fL l a k c ∈ F) (m1 : fW t a1 k1 c1 ∈ F) (m2 : fK t a2 k2 c2 ∈ F)
    (h1 : ¬ rightP l → R (.tuple #[.slice none 0 0, .int .i64 0, .int .i64 1]) L (fL [] none 0 0 :: F))
    (h2 : rightP l → ∀ l' i e a k c, AddP l t l' i e → R (.tuple #[.slice a k c, .int .i64 i, .int .i64 e]) L (fL l' a k c :: F)) :
    ACalls Tryz.prog W0 52 #[.slice a k c, vTy t a1 k1 c1 a2 k2 c2] L F R := by
  refine Hr (HG (sz := 5)) ?_
  refine ACalls.post (R1 := fun v L1 F1 => L1 = L ∧ ((¬ rightP l ∧ v = .tuple #[.slice none 0 0, .int .i64 0, .int .i64 1] ∧ F1 = fL [] none 0 0 :: F) ∨ (rightP l ∧ ∃ l' i e a k c, AddP l t l' i e ∧ v = .tuple #[.slice a k c, .int .i64 i, .int .i64 e] ∧ (∀ f ∈ F, f ∈ F1) ∧ fL l' a k c ∈ F1)))
    (add_c g l hok t ht (List.mem_cons_of_mem _ m) (List.mem_cons_of_mem _ m1) (List.mem_cons_of_mem _ m2)
      (fun n => ⟨rfl, Or.inl ⟨n, rfl, rfl⟩⟩)
      (fun n q hq e => ⟨rfl, Or.inr ⟨n, l, q, 0, a, k, c, Or.inl ⟨q, hq, e, rfl, rfl, rfl⟩, rfl, fun f hf => List.mem_cons_of_mem _ hf, List.mem_cons_of_mem _ m⟩⟩)
      (fun n no nm => ⟨rfl, Or.inr ⟨n, [], 0, 1, none, 0, 0, Or.inr ⟨no, Or.inl ⟨nm, rfl, rfl, rfl⟩⟩, rfl, fun f hf => List.mem_cons_of_mem _ hf, List.mem_cons_self⟩⟩)
      (fun n no nm hl => ⟨rfl, Or.inr ⟨n, [], 0, 7, none, 0, 0, Or.inr ⟨no, Or.inr (Or.inl ⟨nm, hl, rfl, rfl, rfl⟩)⟩, rfl, fun f hf => List.mem_cons_of_mem _ hf, List.mem_cons_self⟩⟩)
      (fun n no nm hl a' k' c' => ⟨rfl, Or.inr ⟨n, l ++ [t], l.length, 0, a', k', c', Or.inr ⟨no, Or.inr (Or.inr ⟨nm, by omega, rfl, rfl, rfl⟩)⟩, rfl, fun f hf => List.mem_cons_of_mem _ (List.mem_cons_of_mem _ hf), List.mem_cons_self⟩⟩)) ?_
  rintro v L1 F1 ⟨rfl, ⟨n, rfl, rfl⟩ | ⟨n, l', i, e, a', k', c', hp, rfl, hf, hm⟩⟩
  · exact ⟨_, _, Gk _ _, h1 n⟩
  exact ⟨_, _, Gg (mem1 hm hf), h2 n l' i e a' k' c' hp⟩
end
end Go.Sy
namespace Go.Sy
open Go Go.Proofs
theorem start_plain : ∀ t ∈ startL, t.kids = [] ∧ t.words = [] ∧ t.kind ≠ 9 ∧ (t.kind = 7 → t.name = []) := by decide
structure RtOk (q : Nat) (t : Ty) : Prop where
  kids : ∀ k ∈ t.kids, 0 ≤ k ∧ k < q
  few : t.kids.length ≤ 16
  param : t.kind = 9 → 0 ≤ t.n ∧ t.n < 16 ∧ t.kids = []
  bare : t.kind = 7 → t.name = []
  iface : t.kind = 7 → t.words.length = t.kids.length
theorem rt_of_right {l : List Ty} (h : rightP l) {q : Nat} (hq : q < l.length) : RtOk q l[q] := by
  have hr := h.2.2 q hq
  unfold rowAt at hr
  by_cases c : q < 22
  · rw [if_pos c] at hr
    have hql : q < startL.length := by rw [start_len]; exact c
    rw [start_get hql] at hr
    obtain ⟨h1, h2, h3, h4⟩ := start_plain _ (List.getElem_mem hql)
    rw [hr]
    generalize startL[q] = t at h1 h2 h3 h4
    exact ⟨by rw [h1]; simp, by rw [h1]; simp, fun e => absurd e h3, h4, fun _ => by rw [h1, h2]; rfl⟩
  rw [if_neg c] at hr
  obtain ⟨⟨hkids, hlen, hname, _, hK⟩, _⟩ := hr
  have htl : (l.take q).length = q := by rw [List.length_take]; omega
  rw [kidsP, htl] at hkids
  generalize l[q] = t at hkids hlen hname hK
  refine ⟨hkids, hlen, fun e => ?_, fun e => hname HW, fun e => ((madeK_7 e).1 hK).1⟩
  have := (madeK_9 e).1 hK
  exact ⟨this.1, this.2.1, List.eq_nil_of_length_eq_zero this.2.2⟩
def askK (A : List Int) (m : Int) (ks : List Int) : Int := ks.foldl (fun m k => max m (A.getD k.toNat 0)) m
def ask0 (t : Ty) : Int := if t.kind = 9 then t.n + 1 else 0
def ask1 (A : List Int) (t : Ty) : Int := askK A (ask0 t) t.kids
def asksL (l : List Ty) : List Int := l.foldl (fun A t => A ++ [ask1 A t]) []
theorem asks_step {l : List Ty} {q : Nat} (hq : q < l.length) : asksL (l.take (q + 1)) = asksL (l.take q) ++ [ask1 (asksL (l.take q)) l[q]] := by
  rw [List.take_succ_eq_append_getElem hq, asksL, List.foldl_append]; rfl
theorem asks_len (l : List Ty) : ∀ q, q ≤ l.length → (asksL (l.take q)).length = q
  | 0, _ => by simp [asksL]
  | q + 1, h => by rw [asks_step HW, List.length_append, asks_len l q HW]; rfl
theorem askK_snoc (A : List Int) (m : Int) (ks : List Int) {v : Nat} (hv : v < ks.length) : askK A m (ks.take (v + 1)) = max (askK A m (ks.take v)) (A.getD ks[v].toNat 0) := by
  rw [List.take_succ_eq_append_getElem hv, askK, List.foldl_append]; rfl
theorem askK_ge (A : List Int) : ∀ (ks : List Int) (m : Int), m ≤ askK A m ks ∧ ∀ k ∈ ks, A.getD k.toNat 0 ≤ askK A m ks
  | [], m => ⟨Int.le_refl _, by simp⟩
  | k :: ks, m => by
    obtain ⟨h1, h2⟩ := askK_ge A ks (max m (A.getD k.toNat 0))
    have e : askK A m (k :: ks) = askK A (max m (A.getD k.toNat 0)) ks := rfl
    rw [e]
    refine ⟨by omega, fun x hx => ?_⟩
    rcases List.mem_cons.1 hx with rfl | hx
    · omega
    exact h2 x hx
theorem getD_app {α : Type} (a b : List α) {k : Nat} (z : α) (hk : k < a.length) : (a ++ b).getD k z = a.getD k z := by
  rw [List.getD_eq_getElem?_getD, List.getElem?_append_left hk, List.getD_eq_getElem?_getD]
theorem asks_pre (l : List Ty) : ∀ (d q k : Nat), q + d ≤ l.length → k < q → (asksL (l.take (q + d))).getD k 0 = (asksL (l.take q)).getD k 0
  | 0, _, _, _, _ => rfl
  | d + 1, q, k, h, hk => by
    have e : q + (d + 1) = q + d + 1 := by omega
    rw [e, asks_step HW, getD_app _ _ _ (by rw [asks_len l _ HW]; omega)]
    exact asks_pre l d q k HW hk
theorem asks_at {l : List Ty} {i n : Nat} (hi : i < l.length) (hn : n ≤ i) : (asksL (l.take (i + 1))).getD n 0 = ask1 (asksL (l.take n)) (l[n]'HW) := by
  have e : i + 1 = n + 1 + (i - n) := by omega
  rw [e, asks_pre l (i - n) (n + 1) n HW HW, asks_step HW, List.getD_eq_getElem?_getD, List.getElem?_append_right (by rw [asks_len l n HW]; omega), asks_len l n HW]
  simp
theorem asks_kid {l : List Ty} (hr : rightP l) {i n : Nat} (hi : i < l.length) (hn : n ≤ i) {k : Int} (hk : k ∈ (l[n]'HW).kids) : (asksL (l.take (i + 1))).getD k.toNat 0 ≤ (asksL (l.take (i + 1))).getD n 0 := by
  have hb := (rt_of_right hr (show n < l.length by omega)).kids k hk
  have e : i + 1 = n + (i + 1 - n) := by omega
  rw [asks_at hi hn]
  rw [e, asks_pre l (i + 1 - n) n k.toNat HW HW]
  exact (askK_ge _ _ _).2 k hk
theorem asks_nonneg {l : List Ty} (hr : rightP l) {i n : Nat} (hi : i < l.length) (hn : n ≤ i) : 0 ≤ (asksL (l.take (i + 1))).getD n 0 := by
  rw [asks_at hi hn]
  have h1 := (askK_ge (asksL (l.take n)) (l[n]'HW).kids (ask0 (l[n]'HW))).1
  have h0 : 0 ≤ ask0 (l[n]'HW) := by
    unfold ask0
    split
    · have := ((rt_of_right hr (show n < l.length by omega)).param ‹_›).1; omega
    omega
  exact Int.le_trans h0 h1
def markK (M : List Bool) (ks : List Int) : List Bool := ks.foldl (fun M k => M.set k.toNat true) M
def partStep (l : List Ty) (M : List Bool) (n : Nat) : List Bool := if M.getD n false = true then markK M (rowK l n) else M
where rowK (l : List Ty) (n : Nat) : List Int := (l.getD n (basicT [])).kids
def partsN (l : List Ty) (i : Nat) : Nat → List Bool
  | 0 => (List.replicate (i + 1) false).set i true
  | j + 1 => partStep l (partsN l i j) (i - j)
def partsL (l : List Ty) (i : Nat) : List Bool := partsN l i (i + 1)
theorem markK_len : ∀ (ks : List Int) (M : List Bool), (markK M ks).length = M.length
  | [], _ => rfl
  | k :: ks, M => by show (markK (M.set k.toNat true) ks).length = _; rw [markK_len ks]; simp
theorem markK_snoc (M : List Bool) (ks : List Int) {v : Nat} (hv : v < ks.length) : markK M (ks.take (v + 1)) = (markK M (ks.take v)).set ks[v].toNat true := by
  rw [List.take_succ_eq_append_getElem hv, markK, List.foldl_append]; rfl
theorem set_getD (M : List Bool) (a n : Nat) : (M.set a true).getD n false = (if a = n ∧ a < M.length then true else M.getD n false) := by
  simp only [List.getD_eq_getElem?_getD, List.getElem?_set]
  by_cases h1 : a = n
  · subst h1
    by_cases h2 : a < M.length
    · simp [h2]
    simp [h2]
  simp [h1]
theorem markK_get : ∀ (ks : List Int) (M : List Bool) (n : Nat), (∀ k ∈ ks, k.toNat < M.length) → ((markK M ks).getD n false = true ↔ M.getD n false = true ∨ ∃ k ∈ ks, k.toNat = n)
  | [], M, n, _ => by simp [markK]
  | k :: ks, M, n, h => by
    show (markK (M.set k.toNat true) ks).getD n false = true ↔ _
    have hk := h k (.head _)
    rw [markK_get ks _ n (fun x hx => by rw [List.length_set]; exact h x (.tail _ hx)), set_getD]
    by_cases e : k.toNat = n
    · simp [e, e ▸ hk]
    simp [e]
theorem partsN_len (l : List Ty) (i : Nat) : ∀ j, (partsN l i j).length = i + 1
  | 0 => by simp [partsN]
  | j + 1 => by
    rw [partsN, partStep]
    split
    · rw [markK_len, partsN_len l i j]
    exact partsN_len l i j
section
variable {l : List Ty} (hr : rightP l) {i : Nat} (hi : i < l.length)
include hr hi
omit hr in
theorem row_kid {n : Nat} (hn : n ≤ i) : partStep.rowK l n = (l[n]'HW).kids := by
  unfold partStep.rowK; simp [List.getD, List.getElem?_eq_getElem (show n < l.length by omega)]
theorem kid_low {n : Nat} (hn : n ≤ i) {k : Int} (hk : k ∈ partStep.rowK l n) : 0 ≤ k ∧ k < n := by
  rw [row_kid hi hn] at hk
  exact (rt_of_right hr (show n < l.length by omega)).kids k hk
theorem mkpart_get (j : Nat) (hj : j ≤ i) (n : Nat) : (partsN l i (j + 1)).getD n false = true ↔ (partsN l i j).getD n false = true ∨ ((partsN l i j).getD (i - j) false = true ∧ ∃ k ∈ partStep.rowK l (i - j), k.toNat = n) := by
  rw [partsN, partStep]
  split
  · rename_i c
    rw [markK_get _ _ _ (fun k hk => by have := kid_low hr hi (Nat.sub_le i j) hk; rw [partsN_len]; omega)]
    exact ⟨fun h => h.imp id (fun h => ⟨c, h⟩), fun h => h.imp id (fun h => h.2)⟩
  rename_i c
  constructor
  · exact fun h => .inl h
  rintro (h | ⟨h, _⟩)
  · exact h
  exact absurd h c
theorem mkpart_stay (n : Nat) : ∀ d j, j + d ≤ i + 1 → i ≤ n + j → ((partsN l i (j + d)).getD n false = true ↔ (partsN l i j).getD n false = true)
  | 0, _, _, _ => Iff.rfl
  | d + 1, j, h, hn => by
    have e : j + (d + 1) = j + d + 1 := by omega
    rw [e, mkpart_get hr hi (j + d) HW]
    have ih := mkpart_stay n d j HW hn
    constructor
    · rintro (h1 | ⟨_, k, hk, e2⟩)
      · exact ih.1 h1
      have := kid_low hr hi (Nat.sub_le i (j + d)) hk; omega
    exact fun h1 => .inl (ih.2 h1)
theorem mkpart_mono (n : Nat) : ∀ d j, j + d ≤ i + 1 → (partsN l i j).getD n false = true → (partsN l i (j + d)).getD n false = true
  | 0, _, _, h => h
  | d + 1, j, hd, h => by
    have e : j + (d + 1) = j + d + 1 := by omega
    rw [e, mkpart_get hr hi (j + d) HW]
    exact .inl (mkpart_mono n d j HW h)
theorem parts_kid {n : Nat} (hn : n ≤ i) (hm : (partsL l i).getD n false = true) {k : Int} (hk : k ∈ (l[n]'HW).kids) : (partsL l i).getD k.toNat false = true := by
  unfold partsL at hm ⊢
  have e : i + 1 = (i - n) + (n + 1) := by omega
  rw [e] at hm ⊢
  have h1 := (mkpart_stay hr hi n (n + 1) (i - n) HW HW).1 hm
  have e2 : (i - n) + (n + 1) = (i - n + 1) + n := by omega
  rw [e2]
  refine mkpart_mono hr hi _ n (i - n + 1) HW ?_
  rw [mkpart_get hr hi (i - n) HW]
  have e3 : i - (i - n) = n := by omega
  rw [e3]
  exact .inr ⟨h1, k, by rw [row_kid hi hn]; exact hk, rfl⟩
theorem parts_self : (partsL l i).getD i false = true := by
  unfold partsL
  have := mkpart_mono hr hi i (i + 1) 0 HW (by rw [partsN, set_getD]; simp)
  simpa using this
theorem parts_ask {n : Nat} : ∀ j, j ≤ i + 1 → (partsN l i j).getD n false = true → n ≤ i ∧ (asksL (l.take (i + 1))).getD n 0 ≤ (asksL (l.take (i + 1))).getD i 0 := by
  intro j
  induction j generalizing n with
  | zero =>
    intro _ h
    rw [partsN, set_getD] at h
    split at h
    · rename_i c; obtain ⟨rfl, _⟩ := c; exact ⟨Nat.le_refl _, Int.le_refl _⟩
    rcases Nat.lt_or_ge n (i + 1) with c | c
    · rw [List.getD_eq_getElem?_getD, List.getElem?_replicate] at h; simp [c] at h
    rw [List.getD_eq_getElem?_getD, List.getElem?_eq_none (by simpa using c)] at h; simp at h
  | succ j ih =>
    intro hj h
    rw [mkpart_get hr hi j HW] at h
    rcases h with h | ⟨h1, k, hk, e⟩
    · exact ih HW h
    have h2 := ih HW h1
    have hb := kid_low hr hi (Nat.sub_le i j) hk
    rw [row_kid hi (Nat.sub_le i j)] at hk
    have h3 := asks_kid hr hi (Nat.sub_le i j) hk
    rw [e] at h3
    exact ⟨by omega, Int.le_trans h3 h2.2⟩
end
end Go.Sy
namespace Go.Sy
open Go Go.Proofs
instance (w : List UInt8) : Decidable (markP w) := by unfold markP; infer_instance
abbrev Tm := List UInt8 × Int
def zips (t : Ty) : List Tm := t.words.zip t.kids
theorem snocInd {α : Type} {P : List α → Prop} (h0 : P []) (hs : ∀ l x, P l → P (l ++ [x])) (l : List α) : P l := by
  have h : ∀ r : List α, P r.reverse := by
    intro r
    induction r with
    | nil => exact h0
    | cons x r ih => rw [List.reverse_cons]; exact hs _ _ ih
  have := h l.reverse
  rwa [List.reverse_reverse] at this
def markOf (zs : List Tm) (k : Int) : List UInt8 := zs.foldl (fun is z => if markP z.1 ∧ z.2 = k ∧ is ≠ [126] then z.1 else is) []
def termsR (m : Nat) (zs : List Tm) : List Tm := (List.range m).filterMap fun (p : Nat) => if markOf zs (p : Int) = [] then none else some (markOf zs (p : Int), (p : Int))
def declsR (zs : List Tm) : List Tm := zs.filter fun z => !decide (markP z.1)
def termsT (m : Nat) (t : Ty) : Ty := ⟨t.kind, [], t.n, (declsR (zips t) ++ termsR m (zips t)).map (·.1), (declsR (zips t) ++ termsR m (zips t)).map (·.2)⟩
def addTm (a : List Tm) (z : Tm) : List Tm := match a.findIdx? (·.2 == z.2) with
  | none => a ++ [z]
  | some k => if z.1 = [126] then a.set k z else a
def termsA (zs : List Tm) : List Tm := zs.foldl (fun a z => if markP z.1 then addTm a z else a) []
theorem markOf_snoc (zs : List Tm) (z : Tm) (k : Int) : markOf (zs ++ [z]) k = if markP z.1 ∧ z.2 = k ∧ markOf zs k ≠ [126] then z.1 else markOf zs k := by
  unfold markOf; rw [List.foldl_append]; rfl
theorem termsA_snoc (zs : List Tm) (z : Tm) : termsA (zs ++ [z]) = if markP z.1 then addTm (termsA zs) z else termsA zs := by
  unfold termsA; rw [List.foldl_append]; rfl
theorem markOf_is (zs : List Tm) (k : Int) : markOf zs k = [] ∨ markP (markOf zs k) := by
  refine snocInd (P := fun zs => markOf zs k = [] ∨ markP (markOf zs k)) ?_ ?_ zs
  · exact .inl rfl
  intro zs z ih
  rw [markOf_snoc]
  split
  · exact .inr ‹_ ∧ _›.1
  exact ih
theorem idx_none {a : List Tm} {k : Int} (h : a.findIdx? (·.2 == k) = none) : k ∉ a.map (·.2) := by
  intro hm
  obtain ⟨x, hx, e⟩ := List.mem_map.1 hm
  have := List.findIdx?_eq_none_iff.1 h x hx
  simp [e] at this
theorem idx_some {a : List Tm} {k : Int} {j : Nat} (h : a.findIdx? (·.2 == k) = some j) : ∃ hj : j < a.length, a[j].2 = k := by
  obtain ⟨hj, h1, _⟩ := List.findIdx?_eq_some_iff_getElem.1 h
  exact ⟨hj, by simpa using h1⟩
theorem addTm_kids (a : List Tm) (z : Tm) : (addTm a z).map (·.2) = if z.2 ∈ a.map (·.2) then a.map (·.2) else a.map (·.2) ++ [z.2] := by
  unfold addTm
  cases h : a.findIdx? (·.2 == z.2) with
  | none => rw [if_neg (idx_none h)]; simp
  | some j =>
    obtain ⟨hj, e⟩ := idx_some h
    rw [if_pos (List.mem_map.2 ⟨_, List.getElem_mem hj, e⟩)]
    simp only
    split
    · rw [List.map_set]
      have : z.2 = (a.map (·.2))[j]'(by simpa using hj) := by simp [e]
      rw [this]; exact List.set_getElem_self _
    rfl
theorem termsA_is (zs : List Tm) : ((termsA zs).map (·.2)).Nodup ∧ ∀ x : Tm, x ∈ termsA zs ↔ x.1 = markOf zs x.2 ∧ x.1 ≠ [] := by
  refine snocInd (P := fun zs => ((termsA zs).map (·.2)).Nodup ∧ ∀ x : Tm, x ∈ termsA zs ↔ x.1 = markOf zs x.2 ∧ x.1 ≠ []) ?_ ?_ zs
  · exact ⟨by simp [termsA], fun x => by simp [termsA, markOf]⟩
  intro zs z ih
  obtain ⟨hn, hm⟩ := ih
  rw [termsA_snoc]
  by_cases c : markP z.1
  · rw [if_pos c]
    have hz0 : z.1 ≠ [] := by rcases c with e | e <;> rw [e] <;> simp
    have hmem : z.2 ∈ (termsA zs).map (·.2) ↔ markOf zs z.2 ≠ [] := by
      constructor
      · intro h
        obtain ⟨x, hx, e⟩ := List.mem_map.1 h
        have := (hm x).1 hx
        rw [← e, ← this.1]; exact this.2
      exact fun h => List.mem_map.2 ⟨(markOf zs z.2, z.2), (hm _).2 ⟨rfl, h⟩, rfl⟩
    constructor
    · rw [addTm_kids]
      split
      · exact hn
      rename_i h
      exact List.nodup_append.2 ⟨hn, by simp, fun a ha b hb => by
        have : b = z.2 := by simpa using hb
        subst this; intro e; subst e; exact h ha⟩
    intro x
    rw [markOf_snoc]
    unfold addTm
    cases h : (termsA zs).findIdx? (·.2 == z.2) with
    | none =>
      have hno := idx_none h
      have h0 : markOf zs z.2 = [] := by
        rcases Classical.em (markOf zs z.2 = []) with k | k
        · exact k
        exact absurd (hmem.2 k) hno
      simp only [List.mem_append, List.mem_singleton]
      constructor
      · rintro (hx | rfl)
        · have := (hm x).1 hx
          have hne : z.2 ≠ x.2 := fun e => hno (e ▸ List.mem_map.2 ⟨x, hx, rfl⟩)
          rw [if_neg (fun k => hne k.2.1)]; exact this
        rw [if_pos ⟨c, rfl, by rw [h0]; simp⟩]; exact ⟨rfl, hz0⟩
      rintro ⟨h1, h2⟩
      by_cases e : z.2 = x.2
      · rw [if_pos ⟨c, e, by rw [← e, h0]; simp⟩] at h1
        exact .inr (Prod.ext h1 e.symm)
      rw [if_neg (fun k => e k.2.1)] at h1
      exact .inl ((hm x).2 ⟨h1, h2⟩)
    | some j =>
      obtain ⟨hj, ej⟩ := idx_some h
      have hjm := (hm _).1 (List.getElem_mem hj)
      simp only
      have huniq : ∀ y ∈ termsA zs, y.2 = z.2 → y = (termsA zs)[j] := by
        intro y hy e
        have := (hm y).1 hy
        refine Prod.ext ?_ (e.trans ej.symm)
        rw [this.1, hjm.1, e, ej]
      by_cases ct : z.1 = [126]
      · rw [if_pos ct]
        have hset : ∀ y : Tm, y ∈ (termsA zs).set j z ↔ y = z ∨ (y ∈ termsA zs ∧ y.2 ≠ z.2) := by
          intro y
          rw [List.mem_iff_getElem?]
          constructor
          · rintro ⟨q, hq⟩
            by_cases e : j = q
            · subst e; rw [List.getElem?_set_self hj] at hq; exact .inl (Option.some.inj hq).symm
            rw [List.getElem?_set_ne e] at hq
            have hyq := List.mem_of_getElem? hq
            refine .inr ⟨hyq, fun e2 => e ?_⟩
            have hql : q < (termsA zs).length := by
              rcases Nat.lt_or_ge q (termsA zs).length with k | k
              · exact k
              simp [List.getElem?_eq_none k] at hq
            have e3 : (termsA zs)[q] = y := by rw [List.getElem?_eq_getElem hql] at hq; exact Option.some.inj hq
            have e4 : ((termsA zs).map (·.2))[j]'(by simpa using hj) = ((termsA zs).map (·.2))[q]'(by simpa using hql) := by
              simp only [List.getElem_map]; rw [e3, e2, ej]
            exact (List.getElem_inj (h₀ := by simpa using hj) (h₁ := by simpa using hql) hn).1 e4
          rintro (rfl | ⟨hy, hne⟩)
          · exact ⟨j, List.getElem?_set_self hj⟩
          obtain ⟨q, hq, rfl⟩ := List.getElem_of_mem hy
          refine ⟨q, ?_⟩
          rw [List.getElem?_set_ne (fun e => hne (by subst e; exact ej)), List.getElem?_eq_getElem hq]
        rw [hset]
        constructor
        · rintro (rfl | ⟨hx, hne⟩)
          · refine ⟨?_, hz0⟩
            by_cases e : markOf zs x.2 = [126]
            · rw [if_neg (fun k => k.2.2 e), e]; exact ct
            rw [if_pos ⟨c, rfl, e⟩]
          rw [if_neg (fun k => hne k.2.1.symm)]; exact (hm x).1 hx
        rintro ⟨h1, h2⟩
        by_cases e : z.2 = x.2
        · left
          refine Prod.ext ?_ e.symm
          by_cases e2 : markOf zs x.2 = [126]
          · rw [if_neg (fun k => k.2.2 e2), e2] at h1; rw [h1, ct]
          rw [if_pos ⟨c, e, e2⟩] at h1; exact h1
        rw [if_neg (fun k => e k.2.1)] at h1
        exact .inr ⟨(hm x).2 ⟨h1, h2⟩, fun k => e k.symm⟩
      rw [if_neg ct]
      have hz61 : z.1 = [61] := c.resolve_right ct
      constructor
      · intro hx
        have := (hm x).1 hx
        by_cases e : z.2 = x.2
        · by_cases e2 : markOf zs x.2 = [126]
          · rw [if_neg (fun k => k.2.2 e2)]; exact this
          rw [if_pos ⟨c, e, e2⟩]
          have h5 : markP (markOf zs x.2) := (markOf_is zs x.2).resolve_left (by rw [← this.1]; exact this.2)
          exact ⟨by rw [this.1, hz61]; exact h5.resolve_right e2, this.2⟩
        rw [if_neg (fun k => e k.2.1)]; exact this
      rintro ⟨h1, h2⟩
      by_cases e : z.2 = x.2
      · have h5 : markP (markOf zs z.2) := (markOf_is zs z.2).resolve_left (by rw [← ej, ← hjm.1]; exact hjm.2)
        by_cases e2 : markOf zs x.2 = [126]
        · rw [if_neg (fun k => k.2.2 e2)] at h1; exact (hm x).2 ⟨h1, h2⟩
        rw [if_pos ⟨c, e, e2⟩] at h1
        refine (hm x).2 ⟨?_, h2⟩
        rw [h1, hz61, ← e]; rw [← e] at e2; exact (h5.resolve_right e2).symm
      rw [if_neg (fun k => e k.2.1)] at h1
      exact (hm x).2 ⟨h1, h2⟩
  rw [if_neg c]
  refine ⟨hn, fun x => ?_⟩
  rw [markOf_snoc, if_neg (fun k => c k.1)]
  exact hm x
theorem termsR_mem (m : Nat) (zs : List Tm) (x : Tm) : x ∈ termsR m zs ↔ x.1 = markOf zs x.2 ∧ x.1 ≠ [] ∧ 0 ≤ x.2 ∧ x.2 < m := by
  unfold termsR
  rw [List.mem_filterMap]
  constructor
  · rintro ⟨p, hp, e⟩
    have hpm := List.mem_range.1 hp
    split at e
    · cases e
    injection e with e; subst e
    exact ⟨rfl, ‹_›, by simp only; omega, by simp only; omega⟩
  rintro ⟨h1, h2, h3, h4⟩
  refine ⟨x.2.toNat, List.mem_range.2 HW, ?_⟩
  have e : ((x.2.toNat : Nat) : Int) = x.2 := by omega
  rw [e, if_neg (by rw [← h1]; exact h2), ← h1]
theorem termsR_sorted (m : Nat) (zs : List Tm) : (termsR m zs).Pairwise fun x y => x.2 < y.2 := by
  unfold termsR
  refine List.Pairwise.filterMap (R := fun (a b : Nat) => a < b) _ ?_ List.pairwise_lt_range
  intro a b hab x hx y hy
  split at hx
  · cases hx
  split at hy
  · cases hy
  injection hx with hx; injection hy with hy; subst hx hy; simp only; omega
theorem markOf_kid (zs : List Tm) (k : Int) (h : markOf zs k ≠ []) : ∃ z ∈ zs, markP z.1 ∧ z.2 = k := by
  revert h
  refine snocInd (P := fun zs => markOf zs k ≠ [] → ∃ z ∈ zs, markP z.1 ∧ z.2 = k) (fun h => absurd HU h) ?_ zs
  intro zs z ih h
  rw [markOf_snoc] at h
  split at h
  · rename_i c; exact ⟨z, by simp, c.1, c.2.1⟩
  obtain ⟨y, hy, h2⟩ := ih h
  exact ⟨y, List.mem_append_left _ hy, h2⟩
theorem terms_sort {m : Nat} {zs : List Tm} (hz : ∀ z ∈ zs, markP z.1 → 0 ≤ z.2 ∧ z.2 < m) {lst : List Tm} (hp : lst.Perm (termsA zs)) (hs : lst.Pairwise fun x y => x.2 ≤ y.2) : lst = termsR m zs := by
  obtain ⟨hn, hm⟩ := termsA_is zs
  have hnd : (termsA zs).Nodup := by
    have h1 : (termsA zs).Pairwise fun a b => a.2 ≠ b.2 := List.pairwise_map.1 hn
    exact h1.imp fun h e => h (by rw [e])
  have hnr : (termsR m zs).Nodup := (termsR_sorted m zs).imp fun h e => by rw [e] at h; omega
  have hperm : lst.Perm (termsR m zs) := hp.trans ((List.perm_ext_iff_of_nodup hnd hnr).2 fun x => by
    rw [hm, termsR_mem]
    constructor
    · rintro ⟨h1, h2⟩
      obtain ⟨z, hz1, hz2, hz3⟩ := markOf_kid zs x.2 (by rw [← h1]; exact h2)
      have := hz z hz1 hz2
      exact ⟨h1, h2, by omega, by omega⟩
    exact fun h => ⟨h.1, h.2.1⟩)
  refine List.Perm.eq_of_pairwise (le := fun x y => x.2 ≤ y.2) ?_ hs ((termsR_sorted m zs).imp fun h => by omega) hperm
  intro a b ha hb h1 h2
  have ha2 := (termsR_mem m zs a).1 (hperm.mem_iff.1 ha)
  have hb2 := (termsR_mem m zs b).1 hb
  have e : a.2 = b.2 := by omega
  exact Prod.ext (by rw [ha2.1, hb2.1, e]) e
def oddP (l : List Ty) (t : Ty) : Prop := ∃ z ∈ zips t, markP z.1 ∧ (kindAt l z.2 = 7 ∨ kindAt l z.2 = 9 ∨ (14 ≤ z.2 ∧ z.2 ≤ 19))
open Classical in
noncomputable def addF (l : List Ty) (t : Ty) : List Ty × Int × Int := if h : ∃ p : List Ty × Int × Int, AddP l t p.1 p.2.1 p.2.2 then h.choose else ([], 0, 0)
theorem addF_is {l : List Ty} {t : Ty} {m : List Ty} {i e : Int} (hr : rightP l) (h : AddP l t m i e) : addF l t = (m, i, e) := by
  have hx : ∃ p : List Ty × Int × Int, AddP l t p.1 p.2.1 p.2.2 := ⟨(m, i, e), h⟩
  unfold addF
  rw [dif_pos hx]
  obtain ⟨h1, h2, h3⟩ := addP_one hr hx.choose_spec h
  exact Prod.ext h1 (Prod.ext h2 h3)
def mapK (ins : List Int) (t : Ty) : Ty := ⟨t.kind, t.name, t.n, t.words, t.kids.map fun k => ins.getD k.toNat 0⟩
open Classical in
noncomputable def putS (out : List Ty) (ins : List Int) (t : Ty) : Except Int (List Ty × List Int) :=
  if t.kind = 7 ∧ oddP out t then .error 11
  else if (addF out (if t.kind = 7 then termsT out.length t else t)).2.2 = 0 then .ok ((addF out (if t.kind = 7 then termsT out.length t else t)).1, ins ++ [(addF out (if t.kind = 7 then termsT out.length t else t)).2.1])
  else .error (addF out (if t.kind = 7 then termsT out.length t else t)).2.2
noncomputable def stepS (l : List Ty) (args A : List Int) (M : List Bool) (n : Nat) (out : List Ty) (ins : List Int) : Except Int (List Ty × List Int) :=
  if M.getD n false = false ∨ A.getD n 0 = 0 then .ok (out, ins ++ [(n : Int)])
  else if (l.getD n (basicT [])).kind = 9 then .ok (out, ins ++ [args.getD (l.getD n (basicT [])).n.toNat 0])
  else putS out ins (mapK ins (l.getD n (basicT [])))
noncomputable def subN (l : List Ty) (args A : List Int) (M : List Bool) : Nat → Except Int (List Ty × List Int)
  | 0 => .ok (l, [])
  | n + 1 => match subN l args A M n with
    | .error e => .error e
    | .ok (out, ins) => stepS l args A M n out ins
def badArgs (l : List Ty) (i : Nat) (args : List Int) : Prop := (args.length : Int) < (asksL (l.take (i + 1))).getD i 0 ∨ ∃ a ∈ args, ¬(0 ≤ a ∧ a < l.length)
open Classical in
noncomputable def subR (l : List Ty) (i : Nat) (args : List Int) : Except Int (List Ty × Int) :=
  if badArgs l i args then .error 1 else match subN l args (asksL (l.take (i + 1))) (partsL l i) (i + 1) with
    | .error e => .error e
    | .ok (out, ins) => .ok (out, ins.getD i 0)
theorem subN_error {l : List Ty} {args A : List Int} {M : List Bool} {n : Nat} {e : Int} (h : subN l args A M n = .error e) : ∀ d, subN l args A M (n + d) = .error e
  | 0 => h
  | d + 1 => by rw [← Nat.add_assoc, subN, subN_error h d]
structure SubOk (l : List Ty) (n : Nat) (out : List Ty) (ins : List Int) : Prop where
  right : rightP out
  pre : l <+: out
  len : ins.length = n
  ins : ∀ p : Nat, p < n → 0 ≤ ins.getD p 0 ∧ ins.getD p 0 < out.length
theorem mapK_kids {ins : List Int} {out : List Ty} {n : Nat} (h : ∀ p : Nat, p < n → 0 ≤ ins.getD p 0 ∧ ins.getD p 0 < out.length) {t : Ty} (ht : ∀ k ∈ t.kids, 0 ≤ k ∧ k < n) : ∀ k ∈ (mapK ins t).kids, 0 ≤ k ∧ k < out.length := by
  intro k hk
  obtain ⟨x, hx, rfl⟩ := List.mem_map.1 hk
  have := ht x hx
  exact h x.toNat HW
theorem SubOk.step {l : List Ty} {n : Nat} {out : List Ty} {ins : List Int} (h : SubOk l n out ins) {m : List Ty} {k : Int} (hm : rightP m) (hp : out <+: m) (hk : 0 ≤ k ∧ k < m.length) : SubOk l (n + 1) m (ins ++ [k]) := by
  refine ⟨hm, h.pre.trans hp, by rw [List.length_append, h.len]; rfl, fun p hpn => ?_⟩
  have hl := hp.length_le
  rcases Nat.lt_or_ge p n with c | c
  · rw [getD_app _ _ _ (by rw [h.len]; exact c)]
    have := h.ins p c
    omega
  have e : p = ins.length := by have := h.len; omega
  subst e
  simpa [List.getD_eq_getElem?_getD] using hk
theorem add_pre {l : List Ty} {t : Ty} {m : List Ty} {i e : Int} (hr : rightP l) (h : AddP l t m i e) (he : e = 0) : rightP m ∧ l <+: m ∧ 0 ≤ i ∧ i < m.length := by
  rcases h with ⟨q, hq, h1, h2, h3, h4⟩ | ⟨n, ⟨_, h2, _, h4⟩ | ⟨_, _, h2, _, h4⟩ | ⟨hm, hl, h2, h3, h4⟩⟩
  · subst h2; exact ⟨hr, List.prefix_rfl, by omega, by omega⟩
  · omega
  · omega
  subst h2
  have h400 := hr.2.1
  exact ⟨right_snoc hr n hm HW, List.prefix_append _ _, by omega, by rw [List.length_append]; simp only [List.length_cons, List.length_nil]; omega⟩
theorem declsR_snoc (zs : List Tm) (z : Tm) : declsR (zs ++ [z]) = if markP z.1 then declsR zs else declsR zs ++ [z] := by
  unfold declsR
  rw [List.filter_append]
  by_cases c : markP z.1
  · simp [c]
  simp [c]
end Go.Sy
namespace Go.Sy
abbrev GL := @rt_of_right
abbrev Hs := @termsR_mem
end Go.Sy
namespace Go.Sy
open Go Go.Proofs Go.RowKit
abbrev eBl (b : Bool) : List D := [.val (.bool b)]
abbrev fI (l : List Int) (a : Option Addr) (k c : Nat) : Fact := .slc (.slice a k c) 1 (l.map eI)
abbrev fB (l : List Bool) (a : Option Addr) (k c : Nat) : Fact := .slc (.slice a k c) 1 (l.map eBl)
theorem blt_of {a b : Nat} (h : a < b) : Nat.blt a b = true := by show Nat.ble (a + 1) b = true; rw [Nat.ble_eq]; exact h
theorem setA {α : Type} {f : α → Value} {A R : List α} {x v : α} {q : Nat} (hA : A.length = q) : ((A ++ x :: R).map f).set (0 + q * 1) (f v) = (A ++ v :: R).map f := by
  subst hA
  rw [Nat.zero_add, Nat.mul_one, ← List.map_set, List.set_append_right _ _ (Nat.le_refl _)]; simp
theorem getA {α : Type} {f : α → Value} {A R : List α} {x : α} {q : Nat} (hA : A.length = q) : ((A ++ x :: R).map f)[0 + q * 1]? = some (f x) := by
  subst hA; simp
theorem getB {α : Type} {f : α → Value} {A R : List α} {q : Nat} (z : α) (hq : q < A.length) : ((A ++ R).map f)[0 + q * 1]? = some (f (A.getD q z)) := by
  rw [Nat.zero_add, Nat.mul_one, List.getElem?_map, List.getElem?_append_left hq, List.getElem?_eq_getElem hq, List.getD_eq_getElem?_getD, List.getElem?_eq_getElem hq]; rfl
theorem rep_step {α : Type} (z : α) {i q : Nat} (h : q < i + 1) : List.replicate (i + 1 - q) z = z :: List.replicate (i - q) z := by
  have e : i + 1 - q = (i - q) + 1 := by omega
  rw [e, List.replicate_succ]
theorem asks_pos {l : List Ty} {q : Nat} (hq : q < l.length) {k : Int} (hk : 0 ≤ k ∧ k < q) : k.toNat < (asksL (l.take q)).length := by rw [asks_len l q HW]; omega
theorem max_ask (A : List Int) {t : Ty} {v : Nat} (hv : v < t.kids.length) : max (askK A (ask0 t) (t.kids.take v)) (A.getD t.kids[v].toNat 0) = askK A (ask0 t) (t.kids.take (v + 1)) := (askK_snoc A _ _ hv).symm
theorem ask_next {l : List Ty} {i q : Nat} (hq : q < l.length) : (asksL (l.take q) ++ askK (asksL (l.take q)) (ask0 l[q]) l[q].kids :: List.replicate (i - q) 0) = asksL (l.take (q + 1)) ++ List.replicate (i + 1 - (q + 1)) 0 := by
  have e : i + 1 - (q + 1) = i - q := by omega
  rw [e, asks_step hq]; simp [ask1]
attribute [local irreducible] AC AT AO AK AH ACalls Sub Res.cells Res.obj Res.nix Res.own Res.map Exit.then Exit.inBlock bodyPost Code.wp Code.wpIn WL Next Post Kont
section
variable {W0 : World} {L : List Res} {F : List Fact} {R : Value → List Res → List Fact → Prop}
set_option maxRecDepth 100000
set_option maxHeartbeats 4000000
theorem asks_c (l : List Ty) (hr : rightP l) (i : Nat) (hi : i < l.length) {a : Option Addr} {k c : Nat} (mL : fL l a k c ∈ F) (h : ∀ a k c, R (.slice a k c) L (fI (asksL (l.take (i + 1))) a k c :: F)) : ACalls Tryz.prog W0 172 #[.slice a k c, .int .i64 (i : Int)] L F R := by
  have h400 := hr.2.1
  refine Ge Tryz.func172 HU Tryz.ntmps172 HU ?_
  refine qs 9 ?_
  refine Ga (AO.makeSlice1 (m := i + 1) HU HU HU HW HW HW HU (fun b12 => ?_))
  refine qs 9 ?_
  refine Ga (AO.sliceH (j' := i + 1) HU HU HU HW (enc := eTy) (lst := l) memA HW (fun a16 k16 c16 => ?_))
  have htl : (l.take (i + 1)).length = i + 1 := by rw [List.length_take]; omega
  refine Ga (Gv HU HU (fun hl17 => ?_) (hm := by repeat (first | exact mem0 | assumption | refine memS ?_)))
  refine qs 4 ?_
  refine GN (fun (q : Nat) => q ≤ i + 1) (fun q => [(5, .slice (some ⟨b12, 0, none⟩) (i + 1) (i + 1)), (16, .slice a16 k16 c16), (17, .int .i64 (l.take (i + 1)).length), (18, .int .i64 (q : Int))]) (fun q => Res.cells b12 ((asksL (l.take q) ++ List.replicate (i + 1 - q) 0).map (Value.int .i64)).toArray 3 :: L) (fun _ => _) (fun q => i + 1 - q) 0 (Nat.zero_le _) srA (Hn (by simp [asksL])) ?_
  rintro q hq
  refine qs 2 ?_
  refine Ga (GB HU HU HU (fun c19 => ?_) (fun c19 => ?_))
  ·refine qs 11 ?_
   have hqi : q < i + 1 := by omega
   have hql : q < l.length := by omega
   have hqt : q < (l.take (i + 1)).length := by omega
   have hget : (l.take (i + 1))[q] = l[q] := List.getElem_take
   have hAl := asks_len l q HW
   have hrt := GL hr hql
   rw [rep_step 0 hqi]
   refine Ga (Gj HU HU HU HU (enc := eTy) (lst := l.take (i + 1)) memA hqt (fun _ _ => ?_))
   rw [hget]
   refine Ga (GU HU HU ?_)
   intro a22 k22 z22 d22 e22 f22
   refine Ga (Gq HU (fun b7 => ?_))
   refine qs 9 ?_
   refine Ga (GC HU HU HU (fun c25 => ?_) (fun c25 => ?_))
   ·refine qs 8 ?_
    have hp := hrt.param c25
    refine Ga (AO.add HU HU HU HW HW ?_)
    refine Ga (AO.ofY (GM (k := q) HU HU HU HW) HU ?_)
    refine Ga (Gs (v := .int .i64 (l[q].n + 1)) (cs := (asksL (l.take q) ++ 0 :: List.replicate (i - q) 0).map (Value.int .i64)) HU HU HU ?_ (ho := blt_of (by simp; omega)))
    rw [setA hAl]
    refine qs 6 ?_
    refine Ga (Gv HU HU (fun hl34 => ?_) (enc := eI) (lst := l[q].kids) (hm := memA))
    refine qs 4 ?_
    rw [show l[q].n + 1 = ask0 l[q] from (if_pos c25).symm]
    refine GN (fun (v : Nat) => v ≤ l[q].kids.length) (fun v => [(5, .slice (some ⟨b12, 0, none⟩) (i + 1) (i + 1)), (16, .slice a16 k16 c16), (17, .int .i64 (l.take (i + 1)).length), (18, .int .i64 (q : Int)), (6, .int .i64 (q : Int)), (7, .pointer (some ⟨b7, 0, none⟩)), (33, .slice d22 e22 f22), (34, .int .i64 l[q].kids.length), (35, .int .i64 (v : Int))]) (fun v => _ :: Res.cells b12 ((asksL (l.take q) ++ askK (asksL (l.take q)) (ask0 l[q]) (l[q].kids.take v) :: List.replicate (i - q) 0).map (Value.int .i64)).toArray 3 :: L) (fun _ => _) (fun v => l[q].kids.length - v) 0 (Nat.zero_le _) srA (Gk _ _) ?_
    rintro v hv
    refine qs 2 ?_
    refine Ga (GB HU HU HU (fun c36 => ?_) (fun c36 => ?_))
    ·refine qs 10 ?_
     have hvl : v < l[q].kids.length := by omega
     have hb := hrt.kids _ (List.getElem_mem hvl)
     refine Ga (Gj HU HU HU HU (show fK l[q] _ _ _ ∈ _ from memA) hvl (fun _ _ => ?_))
     refine Ga (GE HU HU ?_)
     intros
     refine qs 3 ?_
     refine GO (fun i => Nat.beq i 12) [(b12, _, _)] bxA HU (fun hx hX => ?_)
     refine qt [0, 1, 2, 3, 4] ?_
     refine GV (i := 5) HU (Y.loadB HU (List.Mem.head _) (getA hAl)) HV HV HU HU HU ?_
     refine qt [6, 7] ?_
     refine GF (i := 8) HU (GM (k := l[q].kids[v].toNat) HU HU HW HW) HV HU HU ?_
     refine GV (i := 9) HU (Y.loadB HU (List.Mem.head _) (getB 0 (asks_pos hql hb))) HV HV HU HU HU ?_
     refine qt [10, 11] ?_
     refine Gf (i := 12) HV HU HU (fun _ => ?_)
     rw [max_ask _ hvl]
     refine Gs (v := .int .i64 (askK (asksL (l.take q)) (ask0 l[q]) (l[q].kids.take (v + 1)))) (cs := (asksL (l.take q) ++ askK (asksL (l.take q)) (ask0 l[q]) (l[q].kids.take v) :: List.replicate (i - q) 0).map (Value.int .i64)) HU HU HU ?_ (ho := blt_of (by simp; omega))
     rw [setA hAl]
     refine Gr HU ?_
     refine Gm HV ?_
     refine qs 6 ?_
     refine Gl (v + 1) HW HW srA subF
    refine qs 14 ?_
    refine Gl (q + 1) HW HW srA (Sub.drop.trans ?_)
    have hkt : l[q].kids.take v = l[q].kids := List.take_of_length_le HW
    rw [hkt, ask_next hql]
    exact subF
   refine qs 9 ?_
   refine Ga (Gv HU HU (fun hl34 => ?_) (enc := eI) (lst := l[q].kids) (hm := memA))
   refine qs 4 ?_
   rw [show (0 : Int) :: List.replicate (i - q) 0 = ask0 l[q] :: List.replicate (i - q) 0 by rw [show ask0 l[q] = 0 from if_neg c25]]
   refine GN (fun (v : Nat) => v ≤ l[q].kids.length) (fun v => [(5, .slice (some ⟨b12, 0, none⟩) (i + 1) (i + 1)), (16, .slice a16 k16 c16), (17, .int .i64 (l.take (i + 1)).length), (18, .int .i64 (q : Int)), (6, .int .i64 (q : Int)), (7, .pointer (some ⟨b7, 0, none⟩)), (33, .slice d22 e22 f22), (34, .int .i64 l[q].kids.length), (35, .int .i64 (v : Int))]) (fun v => _ :: Res.cells b12 ((asksL (l.take q) ++ askK (asksL (l.take q)) (ask0 l[q]) (l[q].kids.take v) :: List.replicate (i - q) 0).map (Value.int .i64)).toArray 3 :: L) (fun _ => _) (fun v => l[q].kids.length - v) 0 (Nat.zero_le _) srA (Gk _ _) ?_
   rintro v hv
   refine qs 2 ?_
   refine Ga (GB HU HU HU (fun c36 => ?_) (fun c36 => ?_))
   ·refine qs 10 ?_
    have hvl : v < l[q].kids.length := by omega
    have hb := hrt.kids _ (List.getElem_mem hvl)
    refine Ga (Gj HU HU HU HU (show fK l[q] _ _ _ ∈ _ from memA) hvl (fun _ _ => ?_))
    refine Ga (GE HU HU ?_)
    intros
    refine qs 3 ?_
    refine GO (fun i => Nat.beq i 12) [(b12, _, _)] bxA HU (fun hx hX => ?_)
    refine qt [0, 1, 2, 3, 4] ?_
    refine GV (i := 5) HU (Y.loadB HU (List.Mem.head _) (getA hAl)) HV HV HU HU HU ?_
    refine qt [6, 7] ?_
    refine GF (i := 8) HU (GM (k := l[q].kids[v].toNat) HU HU HW HW) HV HU HU ?_
    refine GV (i := 9) HU (Y.loadB HU (List.Mem.head _) (getB 0 (asks_pos hql hb))) HV HV HU HU HU ?_
    refine qt [10, 11] ?_
    refine Gf (i := 12) HV HU HU (fun _ => ?_)
    rw [max_ask _ hvl]
    refine Gs (v := .int .i64 (askK (asksL (l.take q)) (ask0 l[q]) (l[q].kids.take (v + 1)))) (cs := (asksL (l.take q) ++ askK (asksL (l.take q)) (ask0 l[q]) (l[q].kids.take v) :: List.replicate (i - q) 0).map (Value.int .i64)) HU HU HU ?_ (ho := blt_of (by simp; omega))
    rw [setA hAl]
    refine Gr HU ?_
    refine Gm HV ?_
    refine qs 6 ?_
    refine Gl (v + 1) HW HW srA subF
   refine qs 14 ?_
   refine Gl (q + 1) HW HW srA (Sub.drop.trans ?_)
   have hkt : l[q].kids.take v = l[q].kids := List.take_of_length_le HW
   rw [hkt, ask_next hql]
   exact subF
  refine qs 11 ?_
  refine Ga (AO.move HU HU ?_)
  have hq9 : q = i + 1 := by omega
  subst hq9
  rw [Nat.sub_self, List.replicate_zero, List.append_nil]
  have hAl := asks_len l (i + 1) HW
  refine Gz ((GP (i := 0) (enc := eI) (sz := 1) (k := i + 1) (asksL (l.take (i + 1))) HU (cells_I _) (fun _ => rfl) hAl (by simp only [maxLen]; omega)).trans Gn) ?_
  refine qs 4 ?_
  exact Gb (L' := L) (F' := fI (asksL (l.take (i + 1))) _ _ _ :: F) Tryz.results172 rfl (Hk (fun x hx => by repeat (first | exact hx | refine List.mem_cons_of_mem _ ?_))) (h _ _ _)
end
end Go.Sy
namespace Go.Sy
open Go Go.Proofs Go.RowKit
theorem setM {α : Type} {f : α → Value} {M : List α} {v : α} {q : Nat} : (M.map f).set (0 + q * 1) (f v) = (M.set q v).map f := by
  rw [Nat.zero_add, Nat.mul_one, ← List.map_set]
theorem getM {α : Type} {f : α → Value} {M : List α} {q : Nat} (z : α) (hq : q < M.length) : (M.map f)[0 + q * 1]? = some (f (M.getD q z)) := by
  have := getB (f := f) (A := M) (R := []) z hq
  rwa [List.append_nil] at this
theorem part_no {l : List Ty} {i j : Nat} (h : (partsN l i j).getD (i - j) false = false) : partsN l i j = partsN l i (j + 1) := by
  rw [partsN, partStep, if_neg (by rw [h]; simp)]
theorem part_yes {l : List Ty} {i j : Nat} (hi : i < l.length) (h : (partsN l i j).getD (i - j) false = true) : markK (partsN l i j) (l[i - j]'HW).kids = partsN l i (j + 1) := by
  rw [partsN, partStep, if_pos h, row_kid hi (Nat.sub_le i j)]
attribute [local irreducible] AC AT AO AK AH ACalls Sub Res.cells Res.obj Res.nix Res.own Res.map Exit.then Exit.inBlock bodyPost Code.wp Code.wpIn WL Next Post Kont
section
variable {W0 : World} {L : List Res} {F : List Fact} {R : Value → List Res → List Fact → Prop}
set_option maxRecDepth 100000
set_option maxHeartbeats 4000000
theorem parts_c (l : List Ty) (hr : rightP l) (i : Nat) (hi : i < l.length) {a : Option Addr} {k c : Nat} (mL : fL l a k c ∈ F) (h : ∀ a k c, R (.slice a k c) L (fB (partsL l i) a k c :: F)) : ACalls Tryz.prog W0 174 #[.slice a k c, .int .i64 (i : Int)] L F R := by
  have h400 := hr.2.1
  refine Ge Tryz.func174 HU Tryz.ntmps174 HU ?_
  refine qs 9 ?_
  refine Ga (AO.makeSlice1 (m := i + 1) HU HU HU HW HW HW HU (fun b11 => ?_))
  refine Gz (Hn (L' := Res.cells b11 ((List.replicate (i + 1) false).map Value.bool).toArray 4 :: L) (by simp)) ?_
  refine qs 7 ?_
  refine Ga (AO.ofY (GM (k := i) HU HU HU HW) HU ?_)
  refine Ga (Gs (v := .bool true) (cs := (List.replicate (i + 1) false).map Value.bool) HU HU HU ?_ (ho := blt_of (by simp)))
  rw [setM]
  refine qs 10 ?_
  refine GN (fun (j : Nat) => j ≤ i + 1) (fun j => [(0, .slice a k c), (5, .slice (some ⟨b11, 0, none⟩) (i + 1) (i + 1)), (6, .int .i64 ((i : Int) - (j : Int)))]) (fun j => Res.cells b11 ((partsN l i j).map Value.bool).toArray 4 :: L) (fun _ => F) (fun j => i + 1 - j) 0 (Nat.zero_le _) (by have e0 : (i : Int) - ((0 : Nat) : Int) = (i : Int) := Int.sub_zero _; simp only [e0]; exact srA) (Gk _ _) ?_
  rintro j hj
  have hMl := partsN_len l i j
  refine qs 4 ?_
  refine Ga (Hh HU HU HU (fun c17 => ?_) (fun c17 => ?_))
  ·refine qs 12 ?_
   refine Ga (AO.ofY (GM (k := i - j) HU HU HW HW) HU ?_)
   refine Ga (Gw (v := .bool ((partsN l i j).getD (i - j) false)) HU HU ?_ (hv := getM false HW))
   refine qs 3 ?_
   refine AC.cond HU (fun c24 => ?_) (fun c24 => ?_)
   ·refine qs 9 ?_
    rw [show (i : Int) - (j : Int) - 1 = (i : Int) - ((j + 1 : Nat) : Int) by omega]
    refine Gl (j + 1) HW HW srA ?_
    rw [part_no (by simpa using c24)]
    exact subF
   refine qs 6 ?_
   have hij : i - j < l.length := by omega
   refine Ga (Gj (k := i - j) HU HU HU HW (enc := eTy) (lst := l) memA hij (fun _ _ => ?_))
   refine Ga (HE HU HU (fun _ => ?_))
   refine Ga (GE HU HU ?_)
   intro a29 k29 z29
   refine Ga (Gv HU HU (fun hl30 => ?_) (enc := eI) (lst := l[i - j].kids) (hm := memA))
   refine qs 4 ?_
   refine GN (fun (v : Nat) => v ≤ l[i - j].kids.length) (fun v => [(0, .slice a k c), (5, .slice (some ⟨b11, 0, none⟩) (i + 1) (i + 1)), (6, .int .i64 ((i : Int) - (j : Int))), (29, .slice a29 k29 z29), (30, .int .i64 l[i - j].kids.length), (31, .int .i64 (v : Int))]) (fun v => Res.cells b11 ((markK (partsN l i j) (l[i - j].kids.take v)).map Value.bool).toArray 4 :: L) (fun _ => _) (fun v => l[i - j].kids.length - v) 0 (Nat.zero_le _) srA (Gk _ _) ?_
   rintro v hv
   refine qs 2 ?_
   refine Ga (GB HU HU HU (fun c32 => ?_) (fun c32 => ?_))
   ·refine qs 10 ?_
    have hvl : v < l[i - j].kids.length := by omega
    have hb := (GL hr hij).kids _ (List.getElem_mem hvl)
    refine Ga (Gj HU HU HU HU (show fK l[i - j] _ _ _ ∈ _ from memA) hvl (fun _ _ => ?_))
    refine Ga (GE HU HU ?_)
    intros
    refine qs 6 ?_
    refine Ga (AO.ofY (GM (k := l[i - j].kids[v].toNat) HU HU HW HW) HU ?_)
    refine Ga (Gs (v := .bool true) (cs := (markK (partsN l i j) (l[i - j].kids.take v)).map Value.bool) HU HU HU ?_ (ho := blt_of (by rw [List.length_map, markK_len]; omega)))
    rw [setM, ← markK_snoc _ _ hvl]
    refine qs 7 ?_
    refine Gl (v + 1) HW HW srA subF
   refine qs 15 ?_
   rw [show (i : Int) - (j : Int) - 1 = (i : Int) - ((j + 1 : Nat) : Int) by omega]
   refine Gl (j + 1) HW HW srA ?_
   have hkt : l[i - j].kids.take v = l[i - j].kids := List.take_of_length_le HW
   rw [hkt, part_yes hi (by simpa using c24)]
   exact subF
  refine qs 10 ?_
  refine Ga (AO.move HU HU ?_)
  have hj9 : j = i + 1 := by omega
  subst hj9
  refine Gz ((GP (i := 0) (enc := eBl) (sz := 1) (k := i + 1) (partsL l i) HU (cells_B _) (fun _ => rfl) hMl (by simp only [maxLen]; omega)).trans Gn) ?_
  refine qs 4 ?_
  exact Gb (L' := L) (F' := fB (partsL l i) _ _ _ :: F) Tryz.results174 rfl (Hk (fun x hx => by repeat (first | exact hx | refine List.mem_cons_of_mem _ ?_))) (h _ _ _)
end
end Go.Sy
namespace Go.Sy
open Go Go.RowKit Go.Sort Go.Proofs
theorem get_putCells {F : Array Value} {c : Array Value} {t : Nat} (ht : t < F.size) (hc : t < c.size) : (putCells id 0 F c)[t]? = some F[t]! := by
  unfold putCells
  rw [Array.getElem?_mapIdx, Array.getElem?_eq_getElem hc, Option.map_some, if_pos ⟨Nat.zero_le _, by omega⟩]
  rfl
theorem size_putCells' (F c : Array Value) : (putCells id 0 F c).size = c.size := by unfold putCells; simp
section
variable {P : Program} {W0 : World} {L : List Res} {F : List Fact} {R : Value → List Res → List Fact → Prop}
theorem ACalls.sortK {α : Type} [Inhabited α] (enc : α → List Value) {k : Nat} (hk0 : 0 < k) (hk : ∀ x, (enc x).length = k) (lt : α → α → Bool) {f : FuncId} {fv : Value}
    (hcon : ∀ (blk cap : Nat) (d : Array α) (w : World), HoldsK enc k w blk 0 d → blk < w.heap.size → d.size < 4611686018427387904 →
      Calls P f #[.slice (some ⟨blk, 0, none⟩) d.size cap, fv] w fun e w' => e = .returned (.tuple #[]) ∧ ∃ d' n os, PermIn 0 d.size d d' ∧ SortedIn lt 0 d.size d' ∧ w' = sortWorldK enc k w blk 0 n d' os)
    (hnil : ∀ (w : World), Calls P f #[.slice none 0 0, fv] w fun e w' => e = .returned (.tuple #[]) ∧ w' = w)
    (lst : List α) (hls : lst.length < 4611686018427387904) {i : Nat} {v : Value} {e : TypeId} (hi : L[i]? = some (Res.own v e k (lst.map fun x => (enc x).map D.val)))
    (h : ∀ l2 : List α, l2.Perm lst → l2.Pairwise (fun x y => lt y x = false) → R (.tuple #[]) (L.set i (Res.own v e k (l2.map fun x => (enc x).map D.val))) F) :
    ACalls P W0 f #[v, fv] L F R := by
  intro w s
  obtain ⟨hb, hh, m, sx⟩ := id s
  have hl := HD hi
  obtain ⟨h0, hp⟩ : ownP v e k (lst.map fun x => (enc x).map D.val) hh (m i) := sx.res i _ hi
  rcases hp with ⟨rfl, hr, hm0⟩ | ⟨b, cap, cur, rfl, hm, hcap, hmax, hcs, hxx⟩
  · have hl0 : lst = [] := by simpa using hr
    subst hl0
    refine (hnil w).mono fun e' w' ⟨he, hw⟩ => ?_
    subst he hw
    refine ⟨_, _, _, rfl, h [] (List.Perm.refl _) List.Pairwise.nil, ?_⟩
    have : L.set i (Res.own (.slice none 0 0) e k (([] : List α).map fun x => (enc x).map D.val)) = L := by
      have h2 := (List.getElem?_eq_some_iff.1 hi).2
      rw [← h2]; exact List.set_getElem_self _
    rw [this]; exact s
  have hll : (lst.map fun x => (enc x).map D.val).length = lst.length := List.length_map _
  rw [hll] at hcap
  have hbl := sx.own i b _ hl (by rw [hm]; exact Hb _ _)
  have hbw := hbl.2.1
  have hsz : lst.length * k ≤ cur.size := by rw [hcs]; exact Nat.mul_le_mul_right k hcap
  have hget : ∀ q, q < lst.length → ∀ j, j < k → cur[q * k + j]? = some (enc lst[q]!)[j]! := by
    intro q hq j hj
    obtain ⟨x, hx1, hx2⟩ := hxx q ((enc lst[q]).map D.val) j (.val (enc lst[q])[j]!) (by simp [hq]) (by
      have hjl : j < (enc lst[q]).length := by rw [hk]; exact hj
      simp [hjl])
    cases hx2
    rw [hx1]; simp [hq]
  have hH : HoldsK enc k w b 0 lst.toArray := by
    intro t ht
    have ht' : t < lst.length * k := by simpa using ht
    have hdiv : t / k < lst.length := Nat.div_lt_of_lt_mul (by rw [Nat.mul_comm]; exact ht')
    have hmod : t % k < k := Nat.mod_lt _ hk0
    have e1 := hget _ hdiv _ hmod
    have e2 : t / k * k + t % k = t := by have := Nat.div_add_mod t k; rw [Nat.mul_comm] at this; omega
    rw [e2] at e1
    refine ⟨?_, by simp [World.frozen?, hbw]⟩
    rw [get_flatK _ _ _ _ (by simpa using ht')]
    obtain ⟨cl⟩ := cur
    rw [Nat.zero_add, block_cell hbw]
    simpa using e1
  have hcall := hcon b cap lst.toArray w hH (block_lt hbw) (by simpa using hls)
  rw [hll]
  rw [show lst.toArray.size = lst.length by simp] at hcall
  refine Calls.mono hcall fun e' w' he => ?_
  obtain ⟨he, d', n, os, hperm, hsort, hw⟩ := he
  have hs' : d'.size = lst.length := by simpa using hperm.1
  subst he hw
  have hpl : d'.toList.Perm lst := by
    have := hperm.2.2
    have e1 : d'.extract 0 lst.length = d' := by
      apply Array.ext <;> simp [hs']
    have e2 : lst.toArray.extract 0 lst.length = lst.toArray := by
      apply Array.ext <;> simp
    rw [e1, e2] at this
    simpa using this
  have hsorted : d'.toList.Pairwise (fun x y => lt y x = false) := by
    rw [List.pairwise_iff_getElem]
    intro a c ha hc hac
    have hc' : c < d'.size := by simpa using hc
    have := hsort a c (Nat.zero_le _) hac HW
    rw [getElem!_pos d' c hc', getElem!_pos d' a HW] at this
    simpa using this
  refine ⟨_, _, _, rfl, h d'.toList hpl hsorted, ?_⟩
  have hheap : (sortWorldK enc k w b 0 n d' os).heap = w.heap.modify b (onCells (putCells id 0 (flatK enc k d'))) ++ os := rfl
  have hlt := block_lt hbw
  have hnew : (sortWorldK enc k w b 0 n d' os).heap[b]? = some (.cells (putCells id 0 (flatK enc k d') cur) e (0, 0)) := by
    rw [hheap, Array.getElem?_append_left (by simpa using hlt), Array.getElem?_modify, if_pos rfl, hbw]; rfl
  have st : Step w (sortWorldK enc k w b 0 n d' os) (m i) := by
    refine ⟨rfl, rfl, rfl, by rw [hheap]; simp, fun q hq hmq => ?_⟩
    have hqb : b ≠ q := fun e' => by subst e'; rw [hm, Hb] at hmq; simp at hmq
    rw [hheap, Array.getElem?_append_left (by simpa using hq), Array.getElem?_modify, if_neg hqb]
  refine ⟨Ho hb st (fun b' O hm' => (sx.own i b' O hl hm').1), hh, _, sx.upd hb.size hl st _ (one b (.cells (putCells id 0 (flatK enc k d') cur) e (0, 0))) ⟨?_, .inr ⟨b, cap, putCells id 0 (flatK enc k d') cur, by simp [hs'], rfl, by simp [hs']; exact hcap, hmax, by rw [size_putCells']; exact hcs, ?_⟩⟩ ?_⟩
  · intro q r hr
    simp only [List.getElem?_map, Option.map_eq_some_iff] at hr
    obtain ⟨x, _, rfl⟩ := hr
    simpa using hk x
  · intro q r j dd hr hj
    simp only [List.getElem?_map, Option.map_eq_some_iff] at hr
    obtain ⟨x, hx, rfl⟩ := hr
    simp only [List.getElem?_map, Option.map_eq_some_iff] at hj
    obtain ⟨u, hu, rfl⟩ := hj
    have hql : q < d'.size := by simpa using has_lt' hx
    have hjk : j < k := by have := has_lt' hu; rw [hk] at this; exact this
    have hpl2 : q * k + j < d'.size * k := by
      have := Nat.mul_le_mul_right k (show q + 1 ≤ d'.size from hql)
      rw [Nat.add_mul, Nat.one_mul] at this; omega
    refine ⟨u, ?_, .val _⟩
    rw [get_putCells (by simpa using hpl2) (by rw [hs'] at hpl2; omega), get_flatK _ _ _ _ hpl2]
    have e1 : (q * k + j) / k = q := by rw [Nat.mul_comm, Nat.mul_add_div HW, Nat.div_eq_of_lt hjk]; rfl
    have e2 : (q * k + j) % k = j := by rw [Nat.mul_comm, Nat.mul_add_mod, Nat.mod_eq_of_lt hjk]
    have hx2 : d'[q]! = x := by
      rw [getElem!_pos d' q hql]; have := (List.getElem?_eq_some_iff.1 hx).2; simpa using this
    rw [e1, e2, hx2]
    have := (List.getElem?_eq_some_iff.1 hu)
    obtain ⟨hju, hju2⟩ := this
    rw [getElem!_pos _ j hju, hju2]
  intro b' O hm'
  obtain ⟨rfl, rfl⟩ := one_some hm'
  exact ⟨.inl (by rw [hm, Hb]; simp), hnew⟩
end
end Go.Sy
