/- Joined of my own texts: Shelf, ScA. -/
import Derived.Test.YtodaafgpfjcpgaaGreatDoorX18
import Derived.Shelf.Strings.Builder1
import Derived.Shelf.Strings.Builder2
import Derived.Shelf.Strings.OnBuilder
import Derived.Shelf.Small.Utf8
import Derived.Shelf.Small.Strs
import Derived.Shelf.Strings.BuilderF
import Derived.Shelf.Strings.BuilderK
import Derived.Shelf.Strings.Builder2Cap
import Derived.Shelf.Strings.Search1
import Derived.Shelf.Strings.Search2
import Derived.Shelf.Strings.Search3
import Derived.Shelf.Strings.Cut
import Derived.Shelf.LaysM
import Derived.Shelf.Strings.Shaped
import Derived.Shelf.Strings.Prefix
import Derived.Shelf.Strings.Runes
import Derived.Shelf.Strings.IndexAny
import Derived.Shelf.Strings.AsciiSet
import Derived.Shelf.Strings.IndexAnyAll
import Derived.Shelf.Strings.BuilderCap
import Derived.Shelf.Slices.Turned
import Derived.Shelf.Slices.Equal
import Derived.Shelf.Slices.Empties2
import Derived.Test.YtodaafgpfjcpgaaGreatDoorProg
import Derived.Lib.IndexAny
namespace Go.Proofs
open Go.Shelf
def Tryz.lays156_ren : Go.Shelf.Ren := ⟨fun | 156 => 109 | 165 => 122 | 166 => 85 | 169 => 86 | 240 => 110 | 241 => 130 | 276 => 123 | 277 => 138 | n => n, fun | 31 => 79 | 9 => 9 | 3 => 3 | 4 => 4 | 0 => 0 | 20 => 20 | 72 => 92 | 76 => 95 | 70 => 89 | 37 => 90 | 75 => 94 | 127 => 111 | 164 => 115 | 5 => 5 | 80 => 97 | n => n, fun | n => n⟩
theorem Tryz.lays156 : Go.Proofs.Lays.n156 Tryz.prog Tryz.lays156_ren := {
  mixed := by kernel_rfl
  f156 := Tryz.func109.trans (congrArg some (by kernel_rfl))
  f165 := Tryz.func122.trans (congrArg some (by kernel_rfl))
  f166 := Tryz.func85.trans (congrArg some (by kernel_rfl))
  f169 := Tryz.func86.trans (congrArg some (by kernel_rfl))
  f240 := Tryz.func110.trans (congrArg some (by kernel_rfl))
  f241 := Tryz.func130.trans (congrArg some (by kernel_rfl))
  f276 := Tryz.func123.trans (congrArg some (by kernel_rfl))
  f277 := Tryz.func138.trans (congrArg some (by kernel_rfl))
  t0 := Tryz.underlying0
  a0 := Tryz.isAgg0
  z0 := Tryz.sizeOf0
  v0 := Tryz.zeroValue0
  t3 := Tryz.underlying3
  a3 := Tryz.isAgg3
  z3 := Tryz.sizeOf3
  v3 := Tryz.zeroValue3
  t4 := Tryz.underlying4
  a4 := Tryz.isAgg4
  z4 := Tryz.sizeOf4
  v4 := Tryz.zeroValue4
  t9 := Tryz.underlying9
  a9 := Tryz.isAgg9
  z9 := Tryz.sizeOf9
  v9 := Tryz.zeroValue9
  t20 := Tryz.underlying20
  a20 := Tryz.isAgg20
  z20 := Tryz.sizeOf20
  v20 := Tryz.zeroValue20
  t31 := Tryz.underlying79
  a31 := Tryz.isAgg79
  z31 := Tryz.sizeOf79
  v31 := Tryz.zeroValue79
  t37 := Tryz.underlying90
  a37 := Tryz.isAgg90
  z37 := Tryz.sizeOf90
  v37 := Tryz.zeroValue90
  t70 := Tryz.underlying89
  a70 := Tryz.isAgg89
  z70 := Tryz.sizeOf89
  v70 := Tryz.zeroValue89
  t72 := Tryz.underlying92
  a72 := Tryz.isAgg92
  z72 := Tryz.sizeOf92
  v72 := Tryz.zeroValue92
  t75 := Tryz.underlying94
  a75 := Tryz.isAgg94
  z75 := Tryz.sizeOf94
  v75 := Tryz.zeroValue94
  t76 := Tryz.underlying95
  a76 := Tryz.isAgg95
  z76 := Tryz.sizeOf95
  v76 := Tryz.zeroValue95
  t127 := Tryz.underlying111
  a127 := Tryz.isAgg111
  z127 := Tryz.sizeOf111
  v127 := Tryz.zeroValue111
  t164 := Tryz.underlying115
  a164 := Tryz.isAgg115
  z164 := Tryz.sizeOf115
  v164 := Tryz.zeroValue115 }
theorem Tryz.Builder_Extra_156 : Builder.Extra Tryz.prog Tryz.lays156_ren := {
  sizeBuilder := by kernel_rfl
  liesBuilder := by kernel_rfl
  t5 := Tryz.underlying5
  a5 := Tryz.isAgg5
  z5 := Tryz.sizeOf5
  v5 := Tryz.zeroValue5
  infoByte := by kernel_rfl
  cellsByte := by kernel_rfl
  sizeByte := by kernel_rfl
  neB5 := by decide }
open Go.RowKit in
theorem Tryz.strings_Join_none (a : Option Addr) (c : Nat) (sep : ByteArray) (w : World) :
    Calls Tryz.prog 109 #[.slice a 0 c, .string sep] w fun e w' => e = .returned (.string ⟨#[]⟩) ∧ w' = w := Any.strings_Join_none Tryz.lays156 Tryz.Builder_Extra_156 a c sep w
open Go.RowKit in
theorem Tryz.strings_Join (bk o c : Nat) (xs : List ByteArray) (sep : ByteArray) (w : World) (hcells : ∀ (j : Nat) x, xs[j]? = some x → w.cell? ⟨bk, o + j, none⟩ = some (.string x)) (hbk : bk < w.heap.size) (hN : xs.length ≤ 140737488355328) (hcap : xs.length ≤ c) (hlen : (Lib.join (xs.map (·.data.toList)) sep.data.toList).length ≤ 140737488355328) :
    Calls Tryz.prog 109 #[.slice (some ⟨bk, o, none⟩) xs.length c, .string sep] w fun e w' => e = .returned (.string ⟨(Lib.join (xs.map (·.data.toList)) sep.data.toList).toArray⟩) ∧ Below w.heap.size w w' := Any.strings_Join Tryz.lays156 Tryz.Builder_Extra_156 bk o c xs sep w hcells hbk hN hcap hlen
def Tryz.lays137_ren : Go.Shelf.Ren := ⟨fun | 137 => 88 | 217 => 112 | 266 => 124 | n => n, fun | 9 => 9 | 5 => 5 | 3 => 3 | n => n, fun | n => n⟩
theorem Tryz.lays137 : Go.Proofs.Lays.n137 Tryz.prog Tryz.lays137_ren := {
  mixed := by kernel_rfl
  f137 := Tryz.func88.trans (congrArg some (by kernel_rfl))
  f217 := Tryz.func112.trans (congrArg some (by kernel_rfl))
  f266 := Tryz.func124.trans (congrArg some (by kernel_rfl))
  t3 := Tryz.underlying3
  a3 := Tryz.isAgg3
  z3 := Tryz.sizeOf3
  v3 := Tryz.zeroValue3
  t5 := Tryz.underlying5
  a5 := Tryz.isAgg5
  z5 := Tryz.sizeOf5
  v5 := Tryz.zeroValue5
  t9 := Tryz.underlying9
  a9 := Tryz.isAgg9
  z9 := Tryz.sizeOf9
  v9 := Tryz.zeroValue9 }
open Go.RowKit in
theorem Tryz.strings_IndexByte (s : ByteArray) (c : Int) (w : World) :
    Calls Tryz.prog 88 #[.string s, .int .u8 c] w fun e w' => e = .returned (.int .i64 (Lib.indexByte s.data.toList c.toNat.toUInt8)) ∧ w' = w := Any.strings_IndexByte Tryz.lays137 s c w
def Tryz.lays219_ren : Go.Shelf.Ren := ⟨fun | 219 => 125 | 217 => 112 | 225 => 131 | 224 => 132 | 267 => 133 | 266 => 124 | 314 => 139 | n => n, fun | 9 => 9 | 3 => 3 | 4 => 4 | 5 => 5 | 46 => 118 | 146 => 126 | 51 => 125 | n => n, fun | 1 => 2 | n => n⟩
def Tryz.lays144_ren : Go.Shelf.Ren := ⟨fun | 144 => 92 | 143 => 114 | 219 => 125 | 217 => 112 | 225 => 131 | 224 => 132 | 267 => 133 | 266 => 124 | 314 => 139 | n => n, fun | 9 => 9 | 4 => 4 | 3 => 3 | 5 => 5 | 46 => 118 | 146 => 126 | 51 => 125 | n => n, fun | 1 => 2 | n => n⟩
theorem Tryz.lays144 : Go.Proofs.Lays.n144 Tryz.prog Tryz.lays144_ren := {
  mixed := by kernel_rfl
  f143 := Tryz.func114.trans (congrArg some (by kernel_rfl))
  f144 := Tryz.func92.trans (congrArg some (by kernel_rfl))
  f217 := Tryz.func112.trans (congrArg some (by kernel_rfl))
  f219 := Tryz.func125.trans (congrArg some (by kernel_rfl))
  f224 := Tryz.func132.trans (congrArg some (by kernel_rfl))
  f225 := Tryz.func131.trans (congrArg some (by kernel_rfl))
  f266 := Tryz.func124.trans (congrArg some (by kernel_rfl))
  f267 := Tryz.func133.trans (congrArg some (by kernel_rfl))
  f314 := Tryz.func139.trans (congrArg some (by kernel_rfl))
  t3 := Tryz.underlying3
  a3 := Tryz.isAgg3
  z3 := Tryz.sizeOf3
  v3 := Tryz.zeroValue3
  t4 := Tryz.underlying4
  a4 := Tryz.isAgg4
  z4 := Tryz.sizeOf4
  v4 := Tryz.zeroValue4
  t5 := Tryz.underlying5
  a5 := Tryz.isAgg5
  z5 := Tryz.sizeOf5
  v5 := Tryz.zeroValue5
  t9 := Tryz.underlying9
  a9 := Tryz.isAgg9
  z9 := Tryz.sizeOf9
  v9 := Tryz.zeroValue9
  t46 := Tryz.underlying118
  a46 := Tryz.isAgg118
  z46 := Tryz.sizeOf118
  v46 := Tryz.zeroValue118
  t51 := Tryz.underlying125
  a51 := Tryz.isAgg125
  z51 := Tryz.sizeOf125
  v51 := Tryz.zeroValue125
  t146 := Tryz.underlying126
  a146 := Tryz.isAgg126
  z146 := Tryz.sizeOf126
  v146 := Tryz.zeroValue126
  g1 := by kernel_rfl }
open Go.RowKit Go.Lib in
theorem Tryz.strings_Contains_one (s : ByteArray) (c : UInt8) (w : World) :
    Calls Tryz.prog 92 #[.string s, .string ⟨#[c]⟩] w fun e w' => e = .returned (.bool (decide (0 ≤ Lib.indexByte s.data.toList c))) ∧ w' = w := Any.strings_Contains_one Tryz.lays144 s c w
def Tryz.lays145_ren : Go.Shelf.Ren := ⟨fun | 145 => 91 | 220 => 113 | 219 => 125 | 217 => 112 | 225 => 131 | 224 => 132 | 267 => 133 | 266 => 124 | 314 => 139 | n => n, fun | 9 => 9 | 4 => 4 | 59 => 102 | 3 => 3 | 5 => 5 | 46 => 118 | 146 => 126 | 51 => 125 | n => n, fun | 1 => 2 | n => n⟩
theorem Tryz.lays145 : Go.Proofs.Lays.n145 Tryz.prog Tryz.lays145_ren := {
  mixed := by kernel_rfl
  f145 := Tryz.func91.trans (congrArg some (by kernel_rfl))
  f217 := Tryz.func112.trans (congrArg some (by kernel_rfl))
  f219 := Tryz.func125.trans (congrArg some (by kernel_rfl))
  f220 := Tryz.func113.trans (congrArg some (by kernel_rfl))
  f224 := Tryz.func132.trans (congrArg some (by kernel_rfl))
  f225 := Tryz.func131.trans (congrArg some (by kernel_rfl))
  f266 := Tryz.func124.trans (congrArg some (by kernel_rfl))
  f267 := Tryz.func133.trans (congrArg some (by kernel_rfl))
  f314 := Tryz.func139.trans (congrArg some (by kernel_rfl))
  t3 := Tryz.underlying3
  a3 := Tryz.isAgg3
  z3 := Tryz.sizeOf3
  v3 := Tryz.zeroValue3
  t4 := Tryz.underlying4
  a4 := Tryz.isAgg4
  z4 := Tryz.sizeOf4
  v4 := Tryz.zeroValue4
  t5 := Tryz.underlying5
  a5 := Tryz.isAgg5
  z5 := Tryz.sizeOf5
  v5 := Tryz.zeroValue5
  t9 := Tryz.underlying9
  a9 := Tryz.isAgg9
  z9 := Tryz.sizeOf9
  v9 := Tryz.zeroValue9
  t46 := Tryz.underlying118
  a46 := Tryz.isAgg118
  z46 := Tryz.sizeOf118
  v46 := Tryz.zeroValue118
  t51 := Tryz.underlying125
  a51 := Tryz.isAgg125
  z51 := Tryz.sizeOf125
  v51 := Tryz.zeroValue125
  t59 := Tryz.underlying102
  a59 := Tryz.isAgg102
  z59 := Tryz.sizeOf102
  v59 := Tryz.zeroValue102
  t146 := Tryz.underlying126
  a146 := Tryz.isAgg126
  z146 := Tryz.sizeOf126
  v146 := Tryz.zeroValue126
  g1 := by kernel_rfl }
open Go.RowKit Go.Lib in
theorem Tryz.strings_Cut (s sep : ByteArray) (m : Int) (w : World) (hs : s.size < 4294967281) (hm : w.cell? ⟨2, 0, none⟩ = some (.int .i64 m)) :
    Calls Tryz.prog 91 #[.string s, .string sep] w fun e w' => e = .returned (.tuple #[.string ⟨(Lib.cut s.data.toList sep.data.toList).1.toArray⟩, .string ⟨(Lib.cut s.data.toList sep.data.toList).2.1.toArray⟩, .bool (Lib.cut s.data.toList sep.data.toList).2.2]) ∧ ∃ n, w' = w.drewN n := Any.strings_Cut Tryz.lays145 s sep m w hs hm
def Tryz.lays206_ren : Go.Shelf.Ren := ⟨fun | 206 => 111 | n => n, fun | 9 => 9 | 4 => 4 | 3 => 3 | n => n, fun | n => n⟩
def Tryz.lays99_ren : Go.Shelf.Ren := ⟨fun | 99 => 87 | 206 => 111 | n => n, fun | 9 => 9 | 4 => 4 | 3 => 3 | n => n, fun | n => n⟩
theorem Tryz.lays99 : Go.Proofs.Lays.n99 Tryz.prog Tryz.lays99_ren := {
  mixed := by kernel_rfl
  f99 := Tryz.func87.trans (congrArg some (by kernel_rfl))
  f206 := Tryz.func111.trans (congrArg some (by kernel_rfl))
  t3 := Tryz.underlying3
  a3 := Tryz.isAgg3
  z3 := Tryz.sizeOf3
  v3 := Tryz.zeroValue3
  t4 := Tryz.underlying4
  a4 := Tryz.isAgg4
  z4 := Tryz.sizeOf4
  v4 := Tryz.zeroValue4
  t9 := Tryz.underlying9
  a9 := Tryz.isAgg9
  z9 := Tryz.sizeOf9
  v9 := Tryz.zeroValue9 }
open Go.RowKit Go.Lib in
theorem Tryz.strings_HasPrefix (s p : ByteArray) (w : World) :
    Calls Tryz.prog 87 #[.string s, .string p] w fun e w' => e = .returned (.bool (Lib.hasPrefix s.data.toList p.data.toList)) ∧ w' = w := Any.strings_HasPrefix Tryz.lays99 s p w
def Tryz.lays150_ren : Go.Shelf.Ren := ⟨fun | 150 => 117 | 153 => 126 | 152 => 134 | 226 => 135 | 227 => 136 | 228 => 137 | 137 => 88 | 119 => 140 | 224 => 132 | 225 => 131 | 217 => 112 | 266 => 124 | n => n, fun | 9 => 9 | 4 => 4 | 3 => 3 | 5 => 5 | 21 => 21 | 117 => 122 | 116 => 121 | 0 => 0 | 46 => 118 | 124 => 129 | n => n, fun | n => n⟩
theorem Tryz.lays150 : Go.Proofs.Lays.n150 Tryz.prog Tryz.lays150_ren := {
  mixed := by kernel_rfl
  f119 := Tryz.func140.trans (congrArg some (by kernel_rfl))
  f137 := Tryz.func88.trans (congrArg some (by kernel_rfl))
  f150 := Tryz.func117.trans (congrArg some (by kernel_rfl))
  f152 := Tryz.func134.trans (congrArg some (by kernel_rfl))
  f153 := Tryz.func126.trans (congrArg some (by kernel_rfl))
  f217 := Tryz.func112.trans (congrArg some (by kernel_rfl))
  f224 := Tryz.func132.trans (congrArg some (by kernel_rfl))
  f225 := Tryz.func131.trans (congrArg some (by kernel_rfl))
  f226 := Tryz.func135.trans (congrArg some (by kernel_rfl))
  f227 := Tryz.func136.trans (congrArg some (by kernel_rfl))
  f228 := Tryz.func137.trans (congrArg some (by kernel_rfl))
  f266 := Tryz.func124.trans (congrArg some (by kernel_rfl))
  t0 := Tryz.underlying0
  a0 := Tryz.isAgg0
  z0 := Tryz.sizeOf0
  v0 := Tryz.zeroValue0
  t3 := Tryz.underlying3
  a3 := Tryz.isAgg3
  z3 := Tryz.sizeOf3
  v3 := Tryz.zeroValue3
  t4 := Tryz.underlying4
  a4 := Tryz.isAgg4
  z4 := Tryz.sizeOf4
  v4 := Tryz.zeroValue4
  t5 := Tryz.underlying5
  a5 := Tryz.isAgg5
  z5 := Tryz.sizeOf5
  v5 := Tryz.zeroValue5
  t9 := Tryz.underlying9
  a9 := Tryz.isAgg9
  z9 := Tryz.sizeOf9
  v9 := Tryz.zeroValue9
  t21 := Tryz.underlying21
  a21 := Tryz.isAgg21
  z21 := Tryz.sizeOf21
  v21 := Tryz.zeroValue21
  t46 := Tryz.underlying118
  a46 := Tryz.isAgg118
  z46 := Tryz.sizeOf118
  v46 := Tryz.zeroValue118
  t116 := Tryz.underlying121
  a116 := Tryz.isAgg121
  z116 := Tryz.sizeOf121
  t117 := Tryz.underlying122
  a117 := Tryz.isAgg122
  z117 := Tryz.sizeOf122
  v117 := Tryz.zeroValue122
  t124 := Tryz.underlying129
  a124 := Tryz.isAgg129
  z124 := Tryz.sizeOf129
  v124 := Tryz.zeroValue129 }
open Go.RowKit Go.Lib in
theorem Tryz.strings_ContainsAny_laid (s chars : ByteArray) (w : World) (hs : s.size < 4294967281) (hcs : chars.size < 4294967281) (has : ∀ (j : Nat) b, s.data.toList[j]? = some b → b.toNat < 128) (hac : ∀ (j : Nat) b, chars.data.toList[j]? = some b → b.toNat < 128) :
    Calls Tryz.prog 117 #[.string s, .string chars] w fun e w' => e = .returned (.bool (Lib.containsAny s.data.toList chars.data.toList)) ∧ Below w.heap.size w w' := Any.strings_ContainsAny_laid Tryz.lays150 (by kernel_rfl) s chars w hs hcs has hac
def Tryz.lays110_ren : Go.Shelf.Ren := ⟨fun | 110 => 69 | 109 => 100 | n => n, fun | 31 => 79 | 9 => 9 | 4 => 4 | 3 => 3 | 0 => 0 | n => n, fun | n => n⟩
theorem Tryz.lays110 : Go.Proofs.Lays.n110 Tryz.prog Tryz.lays110_ren := {
  mixed := by kernel_rfl
  f109 := Tryz.func100.trans (congrArg some (by kernel_rfl))
  f110 := Tryz.func69.trans (congrArg some (by kernel_rfl))
  t0 := Tryz.underlying0
  a0 := Tryz.isAgg0
  z0 := Tryz.sizeOf0
  v0 := Tryz.zeroValue0
  t3 := Tryz.underlying3
  a3 := Tryz.isAgg3
  z3 := Tryz.sizeOf3
  v3 := Tryz.zeroValue3
  t4 := Tryz.underlying4
  a4 := Tryz.isAgg4
  z4 := Tryz.sizeOf4
  v4 := Tryz.zeroValue4
  t9 := Tryz.underlying9
  a9 := Tryz.isAgg9
  z9 := Tryz.sizeOf9
  v9 := Tryz.zeroValue9
  t31 := Tryz.underlying79
  a31 := Tryz.isAgg79
  z31 := Tryz.sizeOf79
  v31 := Tryz.zeroValue79 }
open Go.Lib in
theorem Tryz.slices_Contains_string (b off n c : Nat) (zs : List ByteArray) (x : ByteArray) (w : World) (hz : n ≤ zs.length) (hbig : n ≤ 9223372036854775807) (hc : ∀ j, j < zs.length → w.cell? ⟨b, off + j, none⟩ = some (.string (zs.getD j ByteArray.empty))) :
    Calls Tryz.prog 69 #[.slice (some ⟨b, off, none⟩) n c, .string x] w fun e w' => e = .returned (.bool (Lib.containsS (zs.take n) x)) ∧ w' = w := Any.slices_Contains_string Tryz.lays110 b off n c zs x w hz hbig hc
open Go.Lib in
theorem Tryz.slices_Contains_string_empty (a : Option Addr) (c : Nat) (x : ByteArray) (w : World) :
    Calls Tryz.prog 69 #[.slice a 0 c, .string x] w fun e w' => e = .returned (.bool false) ∧ w' = w := Any.slices_Contains_string_empty Tryz.lays110 a c x w
end Go.Proofs
namespace Go.Sy
open Go Go.Proofs Go.RowKit
abbrev eTok (t : Tok) : List D := [.val (.int .i64 t.kind), .val (S t.text), .val (.int .i64 (t.pos : Int))]
abbrev eInt (i : Int) : List D := [.val (.int .i64 i)]
abbrev eStr (x : Bs) : List D := [.val (S x)]
abbrev eNod (n : Nod) : List D := [.val (.int .i64 n.kind), .val (S n.text), .slc 1 (n.kids.map eInt), .val (.int .i64 n.pos)]
abbrev pt (b : Nat) : Value := .pointer (some ⟨b, 0, none⟩)
theorem u8_back (c : UInt8) : ((c.toNat : Int)).toNat.toUInt8 = c := by simp
theorem u8_eq {a b : UInt8} : ((a.toNat : Int) = (b.toNat : Int)) ↔ a = b := by
  constructor
  · intro h; exact UInt8.toNat_inj.1 HS
  rintro rfl; rfl
theorem whileF_stop {p : Nat → UInt8 → Bool} {s : Bs} {n : Nat} (h : n < s.length) (hp : p n s[n] = false) : whileF p n (s.drop n) = n := by
  rw [List.drop_eq_getElem_cons h, whileF, if_neg (by rw [hp]; decide)]
theorem whileF_go {p : Nat → UInt8 → Bool} {s : Bs} {n : Nat} (h : n < s.length) (hp : p n s[n] = true) : whileF p n (s.drop n) = whileF p (n + 1) (s.drop (n + 1)) := by
  rw [List.drop_eq_getElem_cons h, whileF, if_pos hp]
attribute [local irreducible] AC AT AO AK AH ACalls ACallsX Sub Res.cells Res.obj Res.nix Res.own Res.map Exit.then Exit.inBlock Exit.noGoto bodyPost Code.wp Code.wpIn WL Next Post PostX Kont
section
variable {W0 : World} {L : List Res} {F : List Fact} {R : Value → List Res → List Fact → Prop}
set_option maxRecDepth 100000
set_option maxHeartbeats 4000000
theorem letC_c (c : UInt8) (hT : letC c = true → R (.bool true) L F) (hF : letC c = false → R (.bool false) L F) : ACalls Tryz.prog W0 93 #[.int .u8 c.toNat] L F R := by
  refine Gn Tryz.func93 HQ Tryz.ntmps93 HQ ?_
  refine qs 8 ?_
  refine Gb (AO.geq HQ HQ HQ (fun c4 => ?_) (fun c4 => ?_))
  ·refine qs 2 ?_
   refine Gr HQ HQ (AO.leq HQ HQ HQ (fun c7 => ?_) (fun c7 => ?_))
   ·refine qs 17 ?_
    first | refine Gg Tryz.results93 HQ (Ga _ _) (hT ?_) | refine Gg Tryz.results93 HQ (Ga _ _) (hF ?_)
    simp [letC]; omega
   refine qs 3 ?_
   refine Gr HQ HQ (AO.geq HQ HQ HQ (fun c11 => ?_) (fun c11 => ?_))
   ·refine qs 2 ?_
    refine Gr HQ HQ (AO.leq HQ HQ HQ (fun c14 => ?_) (fun c14 => ?_))
    ·refine qs 10 ?_
     first | refine Gg Tryz.results93 HQ (Ga _ _) (hT ?_) | refine Gg Tryz.results93 HQ (Ga _ _) (hF ?_)
     simp [letC]; omega
    refine qs 4 ?_
    refine Gr HQ HQ (GA HQ HQ HQ (fun c19 => ?_) (fun c19 => ?_))
    ·refine qs 5 ?_
     first | refine Gg Tryz.results93 HQ (Ga _ _) (hT ?_) | refine Gg Tryz.results93 HQ (Ga _ _) (hF ?_)
     simp [letC]; omega
    refine qs 5 ?_
    first | refine Gg Tryz.results93 HQ (Ga _ _) (hT ?_) | refine Gg Tryz.results93 HQ (Ga _ _) (hF ?_)
    simp [letC]; omega
   refine qs 7 ?_
   refine Gr HQ HQ (GA HQ HQ HQ (fun c19 => ?_) (fun c19 => ?_))
   ·refine qs 5 ?_
    first | refine Gg Tryz.results93 HQ (Ga _ _) (hT ?_) | refine Gg Tryz.results93 HQ (Ga _ _) (hF ?_)
    simp [letC]; omega
   refine qs 5 ?_
   first | refine Gg Tryz.results93 HQ (Ga _ _) (hT ?_) | refine Gg Tryz.results93 HQ (Ga _ _) (hF ?_)
   simp [letC]; omega
  refine qs 6 ?_
  refine Gr HQ HQ (AO.geq HQ HQ HQ (fun c11 => ?_) (fun c11 => ?_))
  ·refine qs 2 ?_
   refine Gr HQ HQ (AO.leq HQ HQ HQ (fun c14 => ?_) (fun c14 => ?_))
   ·refine qs 10 ?_
    first | refine Gg Tryz.results93 HQ (Ga _ _) (hT ?_) | refine Gg Tryz.results93 HQ (Ga _ _) (hF ?_)
    simp [letC]; omega
   refine qs 4 ?_
   refine Gr HQ HQ (GA HQ HQ HQ (fun c19 => ?_) (fun c19 => ?_))
   ·refine qs 5 ?_
    first | refine Gg Tryz.results93 HQ (Ga _ _) (hT ?_) | refine Gg Tryz.results93 HQ (Ga _ _) (hF ?_)
    simp [letC]; omega
   refine qs 5 ?_
   first | refine Gg Tryz.results93 HQ (Ga _ _) (hT ?_) | refine Gg Tryz.results93 HQ (Ga _ _) (hF ?_)
   simp [letC]; omega
  refine qs 7 ?_
  refine Gr HQ HQ (GA HQ HQ HQ (fun c19 => ?_) (fun c19 => ?_))
  ·refine qs 5 ?_
   first | refine Gg Tryz.results93 HQ (Ga _ _) (hT ?_) | refine Gg Tryz.results93 HQ (Ga _ _) (hF ?_)
   simp [letC]; omega
  refine qs 5 ?_
  first | refine Gg Tryz.results93 HQ (Ga _ _) (hT ?_) | refine Gg Tryz.results93 HQ (Ga _ _) (hF ?_)
  simp [letC]; omega
theorem digC_c (c : UInt8) (hT : digC c = true → R (.bool true) L F) (hF : digC c = false → R (.bool false) L F) : ACalls Tryz.prog W0 97 #[.int .u8 c.toNat] L F R := by
  refine Gn Tryz.func97 HQ Tryz.ntmps97 HQ ?_
  refine qs 8 ?_
  refine Gb (AO.geq HQ HQ HQ (fun c4 => ?_) (fun c4 => ?_))
  ·refine qs 2 ?_
   refine Gr HQ HQ (AO.leq HQ HQ HQ (fun c7 => ?_) (fun c7 => ?_))
   ·refine qs 5 ?_
    first | refine Gg Tryz.results97 HQ (Ga _ _) (hT ?_) | refine Gg Tryz.results97 HQ (Ga _ _) (hF ?_)
    simp [digC]; omega
   refine qs 5 ?_
   first | refine Gg Tryz.results97 HQ (Ga _ _) (hT ?_) | refine Gg Tryz.results97 HQ (Ga _ _) (hF ?_)
   simp [digC]; omega
  refine qs 8 ?_
  first | refine Gg Tryz.results97 HQ (Ga _ _) (hT ?_) | refine Gg Tryz.results97 HQ (Ga _ _) (hF ?_)
  simp [digC]; omega
theorem wordC_c (c : UInt8) (hT : wordC c = true → R (.bool true) L F) (hF : wordC c = false → R (.bool false) L F) : ACalls Tryz.prog W0 95 #[.int .u8 c.toNat] L F R := by
  refine Gn Tryz.func95 HQ Tryz.ntmps95 HQ ?_
  refine qs 8 ?_
  refine Gb (Gi HQ HQ (letC_c _ (fun c4 => ?_) (fun c4 => ?_)))
  ·refine qs 8 ?_
   first | refine Gg Tryz.results95 HQ (Ga _ _) (hT ?_) | refine Gg Tryz.results95 HQ (Ga _ _) (hF ?_)
   simp [wordC, *]
  refine qs 2 ?_
  refine Gr HQ HQ (Gi HQ HQ (digC_c _ (fun c7 => ?_) (fun c7 => ?_)))
  ·refine qs 5 ?_
   first | refine Gg Tryz.results95 HQ (Ga _ _) (hT ?_) | refine Gg Tryz.results95 HQ (Ga _ _) (hF ?_)
   simp [wordC, *]
  refine qs 5 ?_
  first | refine Gg Tryz.results95 HQ (Ga _ _) (hT ?_) | refine Gg Tryz.results95 HQ (Ga _ _) (hF ?_)
  simp [wordC, *]
theorem idxByte_c (l : Bs) (c : UInt8) (h : R (.int .i64 (Lib.indexByte l c)) L F) : ACalls Tryz.prog W0 88 #[S l, .int .u8 c.toNat] L F R := by
  refine ACalls.lib0 (fun w _ => ?_) h
  have := Tryz.strings_IndexByte ⟨l.toArray⟩ (c.toNat : Int) w
  rw [u8_back] at this
  exact this
theorem hasPre_c (s p : Bs) (h : R (.bool (p.isPrefixOf s)) L F) : ACalls Tryz.prog W0 87 #[S s, S p] L F R :=
  ACalls.lib0 (fun w _ => Tryz.strings_HasPrefix ⟨s.toArray⟩ ⟨p.toArray⟩ w) h
theorem hasByte_c (s : Bs) (c : UInt8) (h : R (.bool (s.contains c)) L F) : ACalls Tryz.prog W0 92 #[S s, S [c]] L F R := by
  refine ACalls.lib0 (fun w _ => ?_) h
  have := Tryz.strings_Contains_one ⟨s.toArray⟩ c w
  rw [← Lib.contains_iff_indexByte] at this
  exact this
theorem while_c {f : FuncId} [FnT Tryz.prog f] {cs : List Value} (p : Nat → UInt8 → Bool) (s : Bs) (hs : s.length ≤ 100000) (hp : ∀ (i : Nat) (hi : i < s.length) {R' : Value → List Res → List Fact → Prop}, R' (.bool (p i s[i])) L F → ACalls Tryz.prog W0 f ([Value.int .i64 (i : Int), Value.int .u8 s[i].toNat] ++ cs).toArray L F R')
    (h : R (.int .i64 (whileF p 0 s : Int)) L F) : ACalls Tryz.prog W0 89 #[S s, .func (.func f) #[] cs.toArray] L F R := by
  refine Gn Tryz.func89 HQ Tryz.ntmps89 HQ ?_
  refine qs 12 ?_
  refine Hj (fun (n : Nat) => n ≤ s.length ∧ whileF p 0 s = whileF p n (s.drop n)) (fun n => [(0, S s), (1, .func (.func f) #[] cs.toArray), (5, .int .i64 (n : Int))]) (fun _ => L) (fun _ => F) (fun n => s.length - n) 0 ⟨Nat.zero_le _, rfl⟩ srA (Ga _ _) ?_
  rintro n ⟨hn, he⟩
  refine qs 6 ?_
  refine Gb (Hq HQ HQ HQ (fun c9 => ?_) (fun c9 => ?_))
  ·refine qs 5 ?_
   refine Gr HQ HQ (Hm HQ HQ HQ HQ HS ?_)
   have hlt : n < s.length := by omega
   refine Gr HQ HQ (AO.callC (cs := cs) HQ HQ HQ (hp n hlt ?_))
   refine qs 3 ?_
   refine AC.cond HQ (fun c17 => ?_) (fun c17 => ?_)
   ·refine qs 9 ?_
    refine GX (n + 1) ⟨by omega, by rw [he, whileF_go HS c17]⟩ HS srA (Ga _ _)
   refine qs 12 ?_
   rw [he, whileF_stop HS c17] at h
   exact Gg Tryz.results89 rfl (Ga _ _) h
  refine qs 23 ?_
  rw [he, List.drop_of_length_le HS] at h
  exact Gg Tryz.results89 rfl (Ga _ _) h
end
end Go.Sy
namespace Go.Sy
abbrev HC := @wordC_c
end Go.Sy
