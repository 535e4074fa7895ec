/- Joined of my own texts: Shelf, ScA. -/
import Derived.Test.YtodaafgpfjcpgaaDoorV17
import Derived.Shelf.Small.Utf8
import Derived.Shelf.Small.Strs
import Derived.Shelf.Strings.Search1
import Derived.Shelf.Strings.Search2
import Derived.Shelf.Strings.Search3
import Derived.Shelf.Strings.Cut
import Derived.Shelf.LaysM
import Derived.Shelf.Strings.Shaped
import Derived.Shelf.Strings.Prefix
import Derived.Shelf.Strings.Runes
import Derived.Shelf.Strings.IndexAny
import Derived.Shelf.Strings.AsciiSet
import Derived.Shelf.Strings.IndexAnyAll
import Derived.Shelf.Slices.Turned
import Derived.Test.YtodaafgpfjcpgaaDoorProg
import Derived.Lib.IndexAny
namespace Go.Proofs
open Go.Shelf
def Tryd.lays137_ren : Go.Shelf.Ren := ⟨fun | 137 => 48 | 217 => 70 | 266 => 80 | n => n, fun | 9 => 9 | 5 => 5 | 3 => 3 | n => n, fun | n => n⟩
theorem Tryd.lays137 : Go.Proofs.Lays.n137 Tryd.prog Tryd.lays137_ren := {
  mixed := by kernel_rfl
  f137 := Tryd.func48.trans (congrArg some (by kernel_rfl))
  f217 := Tryd.func70.trans (congrArg some (by kernel_rfl))
  f266 := Tryd.func80.trans (congrArg some (by kernel_rfl))
  t3 := Tryd.underlying3
  a3 := Tryd.isAgg3
  z3 := Tryd.sizeOf3
  v3 := Tryd.zeroValue3
  t5 := Tryd.underlying5
  a5 := Tryd.isAgg5
  z5 := Tryd.sizeOf5
  v5 := Tryd.zeroValue5
  t9 := Tryd.underlying9
  a9 := Tryd.isAgg9
  z9 := Tryd.sizeOf9
  v9 := Tryd.zeroValue9 }
open Go.RowKit in
theorem Tryd.strings_IndexByte (s : ByteArray) (c : Int) (w : World) :
    Calls Tryd.prog 48 #[.string s, .int .u8 c] w fun e w' => e = .returned (.int .i64 (Lib.indexByte s.data.toList c.toNat.toUInt8)) ∧ w' = w := Any.strings_IndexByte Tryd.lays137 s c w
def Tryd.lays219_ren : Go.Shelf.Ren := ⟨fun | 219 => 81 | 217 => 70 | 225 => 86 | 224 => 87 | 267 => 88 | 266 => 80 | 314 => 93 | n => n, fun | 9 => 9 | 3 => 3 | 4 => 4 | 5 => 5 | 46 => 91 | 146 => 99 | 51 => 98 | n => n, fun | 1 => 2 | n => n⟩
def Tryd.lays144_ren : Go.Shelf.Ren := ⟨fun | 144 => 52 | 143 => 72 | 219 => 81 | 217 => 70 | 225 => 86 | 224 => 87 | 267 => 88 | 266 => 80 | 314 => 93 | n => n, fun | 9 => 9 | 4 => 4 | 3 => 3 | 5 => 5 | 46 => 91 | 146 => 99 | 51 => 98 | n => n, fun | 1 => 2 | n => n⟩
theorem Tryd.lays144 : Go.Proofs.Lays.n144 Tryd.prog Tryd.lays144_ren := {
  mixed := by kernel_rfl
  f143 := Tryd.func72.trans (congrArg some (by kernel_rfl))
  f144 := Tryd.func52.trans (congrArg some (by kernel_rfl))
  f217 := Tryd.func70.trans (congrArg some (by kernel_rfl))
  f219 := Tryd.func81.trans (congrArg some (by kernel_rfl))
  f224 := Tryd.func87.trans (congrArg some (by kernel_rfl))
  f225 := Tryd.func86.trans (congrArg some (by kernel_rfl))
  f266 := Tryd.func80.trans (congrArg some (by kernel_rfl))
  f267 := Tryd.func88.trans (congrArg some (by kernel_rfl))
  f314 := Tryd.func93.trans (congrArg some (by kernel_rfl))
  t3 := Tryd.underlying3
  a3 := Tryd.isAgg3
  z3 := Tryd.sizeOf3
  v3 := Tryd.zeroValue3
  t4 := Tryd.underlying4
  a4 := Tryd.isAgg4
  z4 := Tryd.sizeOf4
  v4 := Tryd.zeroValue4
  t5 := Tryd.underlying5
  a5 := Tryd.isAgg5
  z5 := Tryd.sizeOf5
  v5 := Tryd.zeroValue5
  t9 := Tryd.underlying9
  a9 := Tryd.isAgg9
  z9 := Tryd.sizeOf9
  v9 := Tryd.zeroValue9
  t46 := Tryd.underlying91
  a46 := Tryd.isAgg91
  z46 := Tryd.sizeOf91
  v46 := Tryd.zeroValue91
  t51 := Tryd.underlying98
  a51 := Tryd.isAgg98
  z51 := Tryd.sizeOf98
  v51 := Tryd.zeroValue98
  t146 := Tryd.underlying99
  a146 := Tryd.isAgg99
  z146 := Tryd.sizeOf99
  v146 := Tryd.zeroValue99
  g1 := by kernel_rfl }
open Go.RowKit Go.Lib in
theorem Tryd.strings_Contains_one (s : ByteArray) (c : UInt8) (w : World) :
    Calls Tryd.prog 52 #[.string s, .string ⟨#[c]⟩] w fun e w' => e = .returned (.bool (decide (0 ≤ Lib.indexByte s.data.toList c))) ∧ w' = w := Any.strings_Contains_one Tryd.lays144 s c w
def Tryd.lays145_ren : Go.Shelf.Ren := ⟨fun | 145 => 51 | 220 => 71 | 219 => 81 | 217 => 70 | 225 => 86 | 224 => 87 | 267 => 88 | 266 => 80 | 314 => 93 | n => n, fun | 9 => 9 | 4 => 4 | 59 => 80 | 3 => 3 | 5 => 5 | 46 => 91 | 146 => 99 | 51 => 98 | n => n, fun | 1 => 2 | n => n⟩
theorem Tryd.lays145 : Go.Proofs.Lays.n145 Tryd.prog Tryd.lays145_ren := {
  mixed := by kernel_rfl
  f145 := Tryd.func51.trans (congrArg some (by kernel_rfl))
  f217 := Tryd.func70.trans (congrArg some (by kernel_rfl))
  f219 := Tryd.func81.trans (congrArg some (by kernel_rfl))
  f220 := Tryd.func71.trans (congrArg some (by kernel_rfl))
  f224 := Tryd.func87.trans (congrArg some (by kernel_rfl))
  f225 := Tryd.func86.trans (congrArg some (by kernel_rfl))
  f266 := Tryd.func80.trans (congrArg some (by kernel_rfl))
  f267 := Tryd.func88.trans (congrArg some (by kernel_rfl))
  f314 := Tryd.func93.trans (congrArg some (by kernel_rfl))
  t3 := Tryd.underlying3
  a3 := Tryd.isAgg3
  z3 := Tryd.sizeOf3
  v3 := Tryd.zeroValue3
  t4 := Tryd.underlying4
  a4 := Tryd.isAgg4
  z4 := Tryd.sizeOf4
  v4 := Tryd.zeroValue4
  t5 := Tryd.underlying5
  a5 := Tryd.isAgg5
  z5 := Tryd.sizeOf5
  v5 := Tryd.zeroValue5
  t9 := Tryd.underlying9
  a9 := Tryd.isAgg9
  z9 := Tryd.sizeOf9
  v9 := Tryd.zeroValue9
  t46 := Tryd.underlying91
  a46 := Tryd.isAgg91
  z46 := Tryd.sizeOf91
  v46 := Tryd.zeroValue91
  t51 := Tryd.underlying98
  a51 := Tryd.isAgg98
  z51 := Tryd.sizeOf98
  v51 := Tryd.zeroValue98
  t59 := Tryd.underlying80
  a59 := Tryd.isAgg80
  z59 := Tryd.sizeOf80
  v59 := Tryd.zeroValue80
  t146 := Tryd.underlying99
  a146 := Tryd.isAgg99
  z146 := Tryd.sizeOf99
  v146 := Tryd.zeroValue99
  g1 := by kernel_rfl }
open Go.RowKit Go.Lib in
theorem Tryd.strings_Cut (s sep : ByteArray) (m : Int) (w : World) (hs : s.size < 4294967281) (hm : w.cell? ⟨2, 0, none⟩ = some (.int .i64 m)) :
    Calls Tryd.prog 51 #[.string s, .string sep] w fun e w' => e = .returned (.tuple #[.string ⟨(Lib.cut s.data.toList sep.data.toList).1.toArray⟩, .string ⟨(Lib.cut s.data.toList sep.data.toList).2.1.toArray⟩, .bool (Lib.cut s.data.toList sep.data.toList).2.2]) ∧ ∃ n, w' = w.drewN n := Any.strings_Cut Tryd.lays145 s sep m w hs hm
def Tryd.lays206_ren : Go.Shelf.Ren := ⟨fun | 206 => 69 | n => n, fun | 9 => 9 | 4 => 4 | 3 => 3 | n => n, fun | n => n⟩
def Tryd.lays99_ren : Go.Shelf.Ren := ⟨fun | 99 => 47 | 206 => 69 | n => n, fun | 9 => 9 | 4 => 4 | 3 => 3 | n => n, fun | n => n⟩
theorem Tryd.lays99 : Go.Proofs.Lays.n99 Tryd.prog Tryd.lays99_ren := {
  mixed := by kernel_rfl
  f99 := Tryd.func47.trans (congrArg some (by kernel_rfl))
  f206 := Tryd.func69.trans (congrArg some (by kernel_rfl))
  t3 := Tryd.underlying3
  a3 := Tryd.isAgg3
  z3 := Tryd.sizeOf3
  v3 := Tryd.zeroValue3
  t4 := Tryd.underlying4
  a4 := Tryd.isAgg4
  z4 := Tryd.sizeOf4
  v4 := Tryd.zeroValue4
  t9 := Tryd.underlying9
  a9 := Tryd.isAgg9
  z9 := Tryd.sizeOf9
  v9 := Tryd.zeroValue9 }
open Go.RowKit Go.Lib in
theorem Tryd.strings_HasPrefix (s p : ByteArray) (w : World) :
    Calls Tryd.prog 47 #[.string s, .string p] w fun e w' => e = .returned (.bool (Lib.hasPrefix s.data.toList p.data.toList)) ∧ w' = w := Any.strings_HasPrefix Tryd.lays99 s p w
def Tryd.lays150_ren : Go.Shelf.Ren := ⟨fun | 150 => 75 | 153 => 82 | 152 => 89 | 226 => 90 | 227 => 91 | 228 => 92 | 137 => 48 | 119 => 94 | 224 => 87 | 225 => 86 | 217 => 70 | 266 => 80 | n => n, fun | 9 => 9 | 4 => 4 | 3 => 3 | 5 => 5 | 21 => 21 | 117 => 96 | 116 => 95 | 0 => 0 | 46 => 91 | 124 => 102 | n => n, fun | n => n⟩
theorem Tryd.lays150 : Go.Proofs.Lays.n150 Tryd.prog Tryd.lays150_ren := {
  mixed := by kernel_rfl
  f119 := Tryd.func94.trans (congrArg some (by kernel_rfl))
  f137 := Tryd.func48.trans (congrArg some (by kernel_rfl))
  f150 := Tryd.func75.trans (congrArg some (by kernel_rfl))
  f152 := Tryd.func89.trans (congrArg some (by kernel_rfl))
  f153 := Tryd.func82.trans (congrArg some (by kernel_rfl))
  f217 := Tryd.func70.trans (congrArg some (by kernel_rfl))
  f224 := Tryd.func87.trans (congrArg some (by kernel_rfl))
  f225 := Tryd.func86.trans (congrArg some (by kernel_rfl))
  f226 := Tryd.func90.trans (congrArg some (by kernel_rfl))
  f227 := Tryd.func91.trans (congrArg some (by kernel_rfl))
  f228 := Tryd.func92.trans (congrArg some (by kernel_rfl))
  f266 := Tryd.func80.trans (congrArg some (by kernel_rfl))
  t0 := Tryd.underlying0
  a0 := Tryd.isAgg0
  z0 := Tryd.sizeOf0
  v0 := Tryd.zeroValue0
  t3 := Tryd.underlying3
  a3 := Tryd.isAgg3
  z3 := Tryd.sizeOf3
  v3 := Tryd.zeroValue3
  t4 := Tryd.underlying4
  a4 := Tryd.isAgg4
  z4 := Tryd.sizeOf4
  v4 := Tryd.zeroValue4
  t5 := Tryd.underlying5
  a5 := Tryd.isAgg5
  z5 := Tryd.sizeOf5
  v5 := Tryd.zeroValue5
  t9 := Tryd.underlying9
  a9 := Tryd.isAgg9
  z9 := Tryd.sizeOf9
  v9 := Tryd.zeroValue9
  t21 := Tryd.underlying21
  a21 := Tryd.isAgg21
  z21 := Tryd.sizeOf21
  v21 := Tryd.zeroValue21
  t46 := Tryd.underlying91
  a46 := Tryd.isAgg91
  z46 := Tryd.sizeOf91
  v46 := Tryd.zeroValue91
  t116 := Tryd.underlying95
  a116 := Tryd.isAgg95
  z116 := Tryd.sizeOf95
  t117 := Tryd.underlying96
  a117 := Tryd.isAgg96
  z117 := Tryd.sizeOf96
  v117 := Tryd.zeroValue96
  t124 := Tryd.underlying102
  a124 := Tryd.isAgg102
  z124 := Tryd.sizeOf102
  v124 := Tryd.zeroValue102 }
open Go.RowKit Go.Lib in
theorem Tryd.strings_ContainsAny_laid (s chars : ByteArray) (w : World) (hs : s.size < 4294967281) (hcs : chars.size < 4294967281) (has : ∀ (j : Nat) b, s.data.toList[j]? = some b → b.toNat < 128) (hac : ∀ (j : Nat) b, chars.data.toList[j]? = some b → b.toNat < 128) :
    Calls Tryd.prog 75 #[.string s, .string chars] w fun e w' => e = .returned (.bool (Lib.containsAny s.data.toList chars.data.toList)) ∧ Below w.heap.size w w' := Any.strings_ContainsAny_laid Tryd.lays150 (by kernel_rfl) s chars w hs hcs has hac
def Tryd.lays110_ren : Go.Shelf.Ren := ⟨fun | 110 => 39 | 109 => 63 | n => n, fun | 31 => 70 | 9 => 9 | 4 => 4 | 3 => 3 | 0 => 0 | n => n, fun | n => n⟩
theorem Tryd.lays110 : Go.Proofs.Lays.n110 Tryd.prog Tryd.lays110_ren := {
  mixed := by kernel_rfl
  f109 := Tryd.func63.trans (congrArg some (by kernel_rfl))
  f110 := Tryd.func39.trans (congrArg some (by kernel_rfl))
  t0 := Tryd.underlying0
  a0 := Tryd.isAgg0
  z0 := Tryd.sizeOf0
  v0 := Tryd.zeroValue0
  t3 := Tryd.underlying3
  a3 := Tryd.isAgg3
  z3 := Tryd.sizeOf3
  v3 := Tryd.zeroValue3
  t4 := Tryd.underlying4
  a4 := Tryd.isAgg4
  z4 := Tryd.sizeOf4
  v4 := Tryd.zeroValue4
  t9 := Tryd.underlying9
  a9 := Tryd.isAgg9
  z9 := Tryd.sizeOf9
  v9 := Tryd.zeroValue9
  t31 := Tryd.underlying70
  a31 := Tryd.isAgg70
  z31 := Tryd.sizeOf70
  v31 := Tryd.zeroValue70 }
open Go.Lib in
theorem Tryd.slices_Contains_string (b off n c : Nat) (zs : List ByteArray) (x : ByteArray) (w : World) (hz : n ≤ zs.length) (hbig : n ≤ 9223372036854775807) (hc : ∀ j, j < zs.length → w.cell? ⟨b, off + j, none⟩ = some (.string (zs.getD j ByteArray.empty))) :
    Calls Tryd.prog 39 #[.slice (some ⟨b, off, none⟩) n c, .string x] w fun e w' => e = .returned (.bool (Lib.containsS (zs.take n) x)) ∧ w' = w := Any.slices_Contains_string Tryd.lays110 b off n c zs x w hz hbig hc
open Go.Lib in
theorem Tryd.slices_Contains_string_empty (a : Option Addr) (c : Nat) (x : ByteArray) (w : World) :
    Calls Tryd.prog 39 #[.slice a 0 c, .string x] w fun e w' => e = .returned (.bool false) ∧ w' = w := Any.slices_Contains_string_empty Tryd.lays110 a c x w
end Go.Proofs
namespace Go.Sy
open Go Go.Proofs Go.RowKit
abbrev eTok (t : Tok) : List D := [.val (.int .i64 t.kind), .val (S t.text), .val (.int .i64 (t.pos : Int))]
abbrev eInt (i : Int) : List D := [.val (.int .i64 i)]
abbrev eStr (x : Bs) : List D := [.val (S x)]
abbrev eNod (n : Nod) : List D := [.val (.int .i64 n.kind), .val (S n.text), .slc 1 (n.kids.map eInt), .val (.int .i64 n.pos)]
abbrev pt (b : Nat) : Value := .pointer (some ⟨b, 0, none⟩)
theorem u8_back (c : UInt8) : ((c.toNat : Int)).toNat.toUInt8 = c := by simp
theorem u8_eq {a b : UInt8} : ((a.toNat : Int) = (b.toNat : Int)) ↔ a = b := by
  constructor
  · intro h; exact UInt8.toNat_inj.1 Hg
  rintro rfl; rfl
theorem whileF_stop {p : Nat → UInt8 → Bool} {s : Bs} {n : Nat} (h : n < s.length) (hp : p n s[n] = false) : whileF p n (s.drop n) = n := by
  rw [List.drop_eq_getElem_cons h, whileF, if_neg (by rw [hp]; decide)]
theorem whileF_go {p : Nat → UInt8 → Bool} {s : Bs} {n : Nat} (h : n < s.length) (hp : p n s[n] = true) : whileF p n (s.drop n) = whileF p (n + 1) (s.drop (n + 1)) := by
  rw [List.drop_eq_getElem_cons h, whileF, if_pos hp]
attribute [local irreducible] AC AT AO AK AH ACalls ACallsX Sub Res.cells Res.obj Res.nix Res.own Res.map Exit.then Exit.inBlock Exit.noGoto bodyPost Code.wp Code.wpIn WL Next Post PostX Kont
section
variable {W0 : World} {L : List Res} {F : List Fact} {R : Value → List Res → List Fact → Prop}
set_option maxRecDepth 100000
set_option maxHeartbeats 4000000
theorem letC_c (c : UInt8) (hT : letC c = true → R (.bool true) L F) (hF : letC c = false → R (.bool false) L F) : ACalls Tryd.prog W0 53 #[.int .u8 c.toNat] L F R := by
  refine Gu Tryd.func53 He Tryd.ntmps53 He ?_
  refine qs 8 ?_
  refine Gd (AO.geq He He He (fun c4 => ?_) (fun c4 => ?_))
  ·refine qs 2 ?_
   refine Gk He He (AO.leq He He He (fun c7 => ?_) (fun c7 => ?_))
   ·refine qs 17 ?_
    first | refine Gf Tryd.results53 He (Ga _ _) (hT ?_) | refine Gf Tryd.results53 He (Ga _ _) (hF ?_)
    simp [letC]; omega
   refine qs 3 ?_
   refine Gk He He (AO.geq He He He (fun c11 => ?_) (fun c11 => ?_))
   ·refine qs 2 ?_
    refine Gk He He (AO.leq He He He (fun c14 => ?_) (fun c14 => ?_))
    ·refine qs 10 ?_
     first | refine Gf Tryd.results53 He (Ga _ _) (hT ?_) | refine Gf Tryd.results53 He (Ga _ _) (hF ?_)
     simp [letC]; omega
    refine qs 4 ?_
    refine Gk He He (Gq He He He (fun c19 => ?_) (fun c19 => ?_))
    ·refine qs 5 ?_
     first | refine Gf Tryd.results53 He (Ga _ _) (hT ?_) | refine Gf Tryd.results53 He (Ga _ _) (hF ?_)
     simp [letC]; omega
    refine qs 5 ?_
    first | refine Gf Tryd.results53 He (Ga _ _) (hT ?_) | refine Gf Tryd.results53 He (Ga _ _) (hF ?_)
    simp [letC]; omega
   refine qs 7 ?_
   refine Gk He He (Gq He He He (fun c19 => ?_) (fun c19 => ?_))
   ·refine qs 5 ?_
    first | refine Gf Tryd.results53 He (Ga _ _) (hT ?_) | refine Gf Tryd.results53 He (Ga _ _) (hF ?_)
    simp [letC]; omega
   refine qs 5 ?_
   first | refine Gf Tryd.results53 He (Ga _ _) (hT ?_) | refine Gf Tryd.results53 He (Ga _ _) (hF ?_)
   simp [letC]; omega
  refine qs 6 ?_
  refine Gk He He (AO.geq He He He (fun c11 => ?_) (fun c11 => ?_))
  ·refine qs 2 ?_
   refine Gk He He (AO.leq He He He (fun c14 => ?_) (fun c14 => ?_))
   ·refine qs 10 ?_
    first | refine Gf Tryd.results53 He (Ga _ _) (hT ?_) | refine Gf Tryd.results53 He (Ga _ _) (hF ?_)
    simp [letC]; omega
   refine qs 4 ?_
   refine Gk He He (Gq He He He (fun c19 => ?_) (fun c19 => ?_))
   ·refine qs 5 ?_
    first | refine Gf Tryd.results53 He (Ga _ _) (hT ?_) | refine Gf Tryd.results53 He (Ga _ _) (hF ?_)
    simp [letC]; omega
   refine qs 5 ?_
   first | refine Gf Tryd.results53 He (Ga _ _) (hT ?_) | refine Gf Tryd.results53 He (Ga _ _) (hF ?_)
   simp [letC]; omega
  refine qs 7 ?_
  refine Gk He He (Gq He He He (fun c19 => ?_) (fun c19 => ?_))
  ·refine qs 5 ?_
   first | refine Gf Tryd.results53 He (Ga _ _) (hT ?_) | refine Gf Tryd.results53 He (Ga _ _) (hF ?_)
   simp [letC]; omega
  refine qs 5 ?_
  first | refine Gf Tryd.results53 He (Ga _ _) (hT ?_) | refine Gf Tryd.results53 He (Ga _ _) (hF ?_)
  simp [letC]; omega
theorem digC_c (c : UInt8) (hT : digC c = true → R (.bool true) L F) (hF : digC c = false → R (.bool false) L F) : ACalls Tryd.prog W0 57 #[.int .u8 c.toNat] L F R := by
  refine Gu Tryd.func57 He Tryd.ntmps57 He ?_
  refine qs 8 ?_
  refine Gd (AO.geq He He He (fun c4 => ?_) (fun c4 => ?_))
  ·refine qs 2 ?_
   refine Gk He He (AO.leq He He He (fun c7 => ?_) (fun c7 => ?_))
   ·refine qs 5 ?_
    first | refine Gf Tryd.results57 He (Ga _ _) (hT ?_) | refine Gf Tryd.results57 He (Ga _ _) (hF ?_)
    simp [digC]; omega
   refine qs 5 ?_
   first | refine Gf Tryd.results57 He (Ga _ _) (hT ?_) | refine Gf Tryd.results57 He (Ga _ _) (hF ?_)
   simp [digC]; omega
  refine qs 8 ?_
  first | refine Gf Tryd.results57 He (Ga _ _) (hT ?_) | refine Gf Tryd.results57 He (Ga _ _) (hF ?_)
  simp [digC]; omega
theorem wordC_c (c : UInt8) (hT : wordC c = true → R (.bool true) L F) (hF : wordC c = false → R (.bool false) L F) : ACalls Tryd.prog W0 55 #[.int .u8 c.toNat] L F R := by
  refine Gu Tryd.func55 He Tryd.ntmps55 He ?_
  refine qs 8 ?_
  refine Gd (Gg He He (letC_c _ (fun c4 => ?_) (fun c4 => ?_)))
  ·refine qs 8 ?_
   first | refine Gf Tryd.results55 He (Ga _ _) (hT ?_) | refine Gf Tryd.results55 He (Ga _ _) (hF ?_)
   simp [wordC, *]
  refine qs 2 ?_
  refine Gk He He (Gg He He (digC_c _ (fun c7 => ?_) (fun c7 => ?_)))
  ·refine qs 5 ?_
   first | refine Gf Tryd.results55 He (Ga _ _) (hT ?_) | refine Gf Tryd.results55 He (Ga _ _) (hF ?_)
   simp [wordC, *]
  refine qs 5 ?_
  first | refine Gf Tryd.results55 He (Ga _ _) (hT ?_) | refine Gf Tryd.results55 He (Ga _ _) (hF ?_)
  simp [wordC, *]
theorem idxByte_c (l : Bs) (c : UInt8) (h : R (.int .i64 (Lib.indexByte l c)) L F) : ACalls Tryd.prog W0 48 #[S l, .int .u8 c.toNat] L F R := by
  refine ACalls.lib0 (fun w _ => ?_) h
  have := Tryd.strings_IndexByte ⟨l.toArray⟩ (c.toNat : Int) w
  rw [u8_back] at this
  exact this
theorem hasPre_c (s p : Bs) (h : R (.bool (p.isPrefixOf s)) L F) : ACalls Tryd.prog W0 47 #[S s, S p] L F R :=
  ACalls.lib0 (fun w _ => Tryd.strings_HasPrefix ⟨s.toArray⟩ ⟨p.toArray⟩ w) h
theorem hasByte_c (s : Bs) (c : UInt8) (h : R (.bool (s.contains c)) L F) : ACalls Tryd.prog W0 52 #[S s, S [c]] L F R := by
  refine ACalls.lib0 (fun w _ => ?_) h
  have := Tryd.strings_Contains_one ⟨s.toArray⟩ c w
  rw [← Lib.contains_iff_indexByte] at this
  exact this
theorem while_c {f : FuncId} [FnT Tryd.prog f] {cs : List Value} (p : Nat → UInt8 → Bool) (s : Bs) (hs : s.length ≤ 100000) (hp : ∀ (i : Nat) (hi : i < s.length) {R' : Value → List Res → List Fact → Prop}, R' (.bool (p i s[i])) L F → ACalls Tryd.prog W0 f ([Value.int .i64 (i : Int), Value.int .u8 s[i].toNat] ++ cs).toArray L F R')
    (h : R (.int .i64 (whileF p 0 s : Int)) L F) : ACalls Tryd.prog W0 49 #[S s, .func (.func f) #[] cs.toArray] L F R := by
  refine Gu Tryd.func49 He Tryd.ntmps49 He ?_
  refine qs 12 ?_
  refine GX (fun (n : Nat) => n ≤ s.length ∧ whileF p 0 s = whileF p n (s.drop n)) (fun n => [(0, S s), (1, .func (.func f) #[] cs.toArray), (5, .int .i64 (n : Int))]) (fun _ => L) (fun _ => F) (fun n => s.length - n) 0 ⟨Nat.zero_le _, rfl⟩ srA (Ga _ _) ?_
  rintro n ⟨hn, he⟩
  refine qs 6 ?_
  refine Gd (Hc He He He (fun c9 => ?_) (fun c9 => ?_))
  ·refine qs 5 ?_
   refine Gk He He (GI He He He He Hg ?_)
   have hlt : n < s.length := by omega
   refine Gk He He (AO.callC (cs := cs) He He He (hp n hlt ?_))
   refine qs 3 ?_
   refine AC.cond He (fun c17 => ?_) (fun c17 => ?_)
   ·refine qs 9 ?_
    refine GH (n + 1) ⟨by omega, by rw [he, whileF_go Hg c17]⟩ Hg srA (Ga _ _)
   refine qs 12 ?_
   rw [he, whileF_stop Hg c17] at h
   exact Gf Tryd.results49 rfl (Ga _ _) h
  refine qs 23 ?_
  rw [he, List.drop_of_length_le Hg] at h
  exact Gf Tryd.results49 rfl (Ga _ _) h
end
end Go.Sy
namespace Go.Sy
abbrev GW := @wordC_c
end Go.Sy
