/- The semver texts: words, what may be, versions that may be. -/
import Derived.Test.YtnbpkaffomklpaaGreatDoorSem1
namespace Go.Sy
open Go Go.Proofs

def oddW (strict : Bool) (x : List UInt8) : Bool := !wordS x || (strict && (numericS x && !numberS x))
def oddM (strict : Bool) (x : List UInt8) : Bool := !wordS x || (decide (40 < x.length) || (strict && (numericS x && (!numberS x || !fitsS x))))
def mayS (l : List (List UInt8)) (strict : Bool) : Bool := decide (l.length ≤ 8) && !l.any (oddM strict)
def greatS (x : List UInt8) : Bool := numericS x && !fitsS x
def Sml (l : List (List UInt8)) : Prop := ∀ s ∈ l, s.length < 4294967281

structure Ver where
  major : Int
  minor : Int
  patch : Int
  pre : List (List UInt8)
  build : List (List UInt8)
deriving DecidableEq

def rightV (v : Ver) : Bool := decide (0 ≤ v.major) && (decide (0 ≤ v.minor) && (decide (0 ≤ v.patch) && (mayS v.pre true && mayS v.build false)))
abbrev vVer (v : Ver) (a1 : Option Addr) (k1 c1 : Nat) (a2 : Option Addr) (k2 c2 : Nat) : Value := .agg #[.int .i64 v.major, .int .i64 v.minor, .int .i64 v.patch, .slice a1 k1 c1, .slice a2 k2 c2]
abbrev lVer (v : Ver) (a1 : Option Addr) (k1 c1 : Nat) (a2 : Option Addr) (k2 c2 : Nat) : List Value := [.int .i64 v.major, .int .i64 v.minor, .int .i64 v.patch, .slice a1 k1 c1, .slice a2 k2 c2]
structure VerOk (v : Ver) : Prop where
  pre : Sml v.pre
  build : Sml v.build
  r1 : -9223372036854775808 ≤ v.major ∧ v.major ≤ 9223372036854775807
  r2 : -9223372036854775808 ≤ v.minor ∧ v.minor ≤ 9223372036854775807
  r3 : -9223372036854775808 ≤ v.patch ∧ v.patch ≤ 9223372036854775807

structure VerIn (v : Ver) : Prop where
  r1 : -9223372036854775808 ≤ v.major ∧ v.major ≤ 9223372036854775807
  r2 : -9223372036854775808 ≤ v.minor ∧ v.minor ≤ 9223372036854775807
  r3 : -9223372036854775808 ≤ v.patch ∧ v.patch ≤ 9223372036854775807

attribute [local irreducible] AC AT AO AK AH ACalls Sub Res.cells Res.obj Res.nix Res.own Exit.then Exit.inBlock bodyPost Code.wp Next Post Kont
section
variable {W0 : World} {L : List Res} {F : List Fact} {R : Value → List Res → List Fact → Prop}
set_option maxRecDepth 100000
theorem words1t_c (s : List UInt8) (hs : s.length < 4294967281) {b i ty : Nat} (hb : L[i]? = some (Res.cells b #[.bool true] ty)) (hT : oddW true s = true → R (.bool true) L F) (hF : oddW true s = false → R (.bool false) L F) :
    ACalls Tryz.prog W0 58 #[S s, .pointer (some ⟨b, 0, none⟩)] L F R := by
  refine ACalls.body Tryz.func58 rfl Tryz.ntmps58 rfl ?_
  refine AC.seq (AC.region (AL.go (AO.assign rfl rfl (AL.nil (AK.seqN (AC.seq ?_))))))
  refine AC.region (AL.go (AO.move rfl rfl ?_))
  refine AL.go (AO.call rfl rfl (word_c s hs (fun c5 => ?_) (fun c5 => ?_)))
  · refine AL.go (AO.not rfl rfl (AL.go (AO.move rfl rfl ?_)))
    refine AL.yes rfl rfl (AO.loadB (cs := [.bool true]) rfl rfl ?_ (hi := hb) (hv := rfl))
    refine AL.yes rfl rfl (AO.move rfl rfl (AL.yes rfl rfl (AO.move rfl rfl ?_)))
    refine AL.yes rfl rfl (AO.call rfl rfl (numeric_c s hs (fun c11 => ?_) (fun c11 => ?_)))
    · refine AL.yes rfl rfl (AO.pickT rfl rfl rfl (AL.yes rfl rfl (AO.move rfl rfl (AL.yes rfl rfl (AO.move rfl rfl ?_)))))
      refine AL.yes rfl rfl (AO.call rfl rfl (number_c s hs (fun c15 => ?_) (fun c15 => ?_)))
      · refine AL.yes rfl rfl (AO.not rfl rfl (AL.yes rfl rfl (AO.pickT rfl rfl rfl (AL.go (AO.pickF rfl rfl rfl (AL.go (AO.assign rfl rfl (AL.nil (AK.seqN ?_)))))))))
        refine AC.ret ?_
        first | refine AK.ret Tryz.results58 rfl (Sub.refl _ _) (hT ?_) | refine AK.ret Tryz.results58 rfl (Sub.refl _ _) (hF ?_)
        simp [oddW, *]
      · refine AL.yes rfl rfl (AO.not rfl rfl (AL.yes rfl rfl (AO.pickT rfl rfl rfl (AL.go (AO.pickF rfl rfl rfl (AL.go (AO.assign rfl rfl (AL.nil (AK.seqN ?_)))))))))
        refine AC.ret ?_
        first | refine AK.ret Tryz.results58 rfl (Sub.refl _ _) (hT ?_) | refine AK.ret Tryz.results58 rfl (Sub.refl _ _) (hF ?_)
        simp [oddW, *]
    · refine AL.yes rfl rfl (AO.pickT rfl rfl rfl (AL.yes rfl rfl (AO.move rfl rfl (AL.no rfl rfl rfl rfl (AL.no rfl rfl rfl rfl (AL.no rfl rfl rfl rfl (AL.yes rfl rfl (AO.pickF rfl rfl rfl ?_))))))))
      refine AL.go (AO.pickF rfl rfl rfl (AL.go (AO.assign rfl rfl (AL.nil (AK.seqN (AC.ret ?_))))))
      first | refine AK.ret Tryz.results58 rfl (Sub.refl _ _) (hT ?_) | refine AK.ret Tryz.results58 rfl (Sub.refl _ _) (hF ?_)
      simp [oddW, *]
  · refine AL.go (AO.not rfl rfl (AL.go (AO.move rfl rfl (AL.no rfl rfl rfl rfl (AL.no rfl rfl rfl rfl (AL.no rfl rfl rfl rfl (AL.no rfl rfl rfl rfl ?_)))))))
    refine AL.no rfl rfl rfl rfl (AL.no rfl rfl rfl rfl (AL.no rfl rfl rfl rfl (AL.no rfl rfl rfl rfl (AL.no rfl rfl rfl rfl (AL.no rfl rfl rfl rfl ?_)))))
    refine AL.go (AO.pickT rfl rfl rfl (AL.go (AO.assign rfl rfl (AL.nil (AK.seqN (AC.ret ?_))))))
    first | refine AK.ret Tryz.results58 rfl (Sub.refl _ _) (hT ?_) | refine AK.ret Tryz.results58 rfl (Sub.refl _ _) (hF ?_)
    simp [oddW, *]
theorem may1t_c (s : List UInt8) (hs : s.length < 4294967281) {b i ty : Nat} (hb : L[i]? = some (Res.cells b #[.bool true] ty)) (hT : oddM true s = true → R (.bool true) L F) (hF : oddM true s = false → R (.bool false) L F) :
    ACalls Tryz.prog W0 55 #[S s, .pointer (some ⟨b, 0, none⟩)] L F R := by
  refine ACalls.body Tryz.func55 rfl Tryz.ntmps55 rfl ?_
  refine AC.seq (AC.region (AL.go (AO.assign rfl rfl (AL.nil (AK.seqN (AC.seq ?_))))))
  refine AC.region (AL.go (AO.move rfl rfl ?_))
  refine AL.go (AO.call rfl rfl (word_c s hs (fun c5 => ?_) (fun c5 => ?_)))
  · refine AL.go (AO.not rfl rfl (AL.go (AO.move rfl rfl (AL.yes rfl rfl (AO.move rfl rfl (AL.yes rfl rfl (AO.lenS rfl rfl ?_)))))))
    refine AL.yes rfl rfl (AO.gtr rfl rfl rfl (fun c10 => ?_) (fun c10 => ?_))
    · refine AL.go (AO.pickF rfl rfl rfl (AL.go (AO.move rfl rfl (AL.no rfl rfl rfl rfl (AL.no rfl rfl rfl rfl (AL.no rfl rfl rfl rfl (AL.no rfl rfl rfl rfl ?_)))))))
      refine AL.no rfl rfl rfl rfl (AL.no rfl rfl rfl rfl (AL.no rfl rfl rfl rfl (AL.no rfl rfl rfl rfl (AL.no rfl rfl rfl rfl (AL.no rfl rfl rfl rfl ?_)))))
      refine AL.no rfl rfl rfl rfl (AL.no rfl rfl rfl rfl (AL.no rfl rfl rfl rfl (AL.no rfl rfl rfl rfl (AL.no rfl rfl rfl rfl (AL.go (AO.pickT rfl rfl rfl ?_))))))
      refine AL.go (AO.assign rfl rfl (AL.nil (AK.seqN (AC.ret ?_))))
      first | refine AK.ret Tryz.results55 rfl (Sub.refl _ _) (hT ?_) | refine AK.ret Tryz.results55 rfl (Sub.refl _ _) (hF ?_)
      first | (simp [oddM, *]; done) | (simp [oddM, *]; omega)
    · refine AL.go (AO.pickF rfl rfl rfl (AL.go (AO.move rfl rfl ?_)))
      refine AL.yes rfl rfl (AO.loadB (cs := [.bool true]) rfl rfl ?_ (hi := hb) (hv := rfl))
      refine AL.yes rfl rfl (AO.move rfl rfl (AL.yes rfl rfl (AO.move rfl rfl ?_)))
      refine AL.yes rfl rfl (AO.call rfl rfl (numeric_c s hs (fun c16 => ?_) (fun c16 => ?_)))
      · refine AL.yes rfl rfl (AO.pickT rfl rfl rfl (AL.yes rfl rfl (AO.move rfl rfl (AL.yes rfl rfl (AO.move rfl rfl ?_)))))
        refine AL.yes rfl rfl (AO.call rfl rfl (number_c s hs (fun c20 => ?_) (fun c20 => ?_)))
        · refine AL.yes rfl rfl (AO.not rfl rfl (AL.yes rfl rfl (AO.move rfl rfl (AL.yes rfl rfl (AO.move rfl rfl ?_)))))
          refine AL.yes rfl rfl (AO.call rfl rfl (fits_c s (fun c24 => ?_) (fun c24 => ?_)))
          · refine AL.yes rfl rfl (AO.not rfl rfl (AL.yes rfl rfl (AO.pickF rfl rfl rfl (AL.yes rfl rfl (AO.pickT rfl rfl rfl (AL.go (AO.pickF rfl rfl rfl (AL.go (AO.assign rfl rfl (AL.nil ?_))))))))))
            refine AK.seqN (AC.ret ?_)
            first | refine AK.ret Tryz.results55 rfl (Sub.refl _ _) (hT ?_) | refine AK.ret Tryz.results55 rfl (Sub.refl _ _) (hF ?_)
            first | (simp [oddM, *]; done) | (simp [oddM, *]; omega)
          · refine AL.yes rfl rfl (AO.not rfl rfl (AL.yes rfl rfl (AO.pickF rfl rfl rfl (AL.yes rfl rfl (AO.pickT rfl rfl rfl (AL.go (AO.pickF rfl rfl rfl (AL.go (AO.assign rfl rfl (AL.nil ?_))))))))))
            refine AK.seqN (AC.ret ?_)
            first | refine AK.ret Tryz.results55 rfl (Sub.refl _ _) (hT ?_) | refine AK.ret Tryz.results55 rfl (Sub.refl _ _) (hF ?_)
            first | (simp [oddM, *]; done) | (simp [oddM, *]; omega)
        · refine AL.yes rfl rfl (AO.not rfl rfl (AL.yes rfl rfl (AO.move rfl rfl (AL.no rfl rfl rfl rfl (AL.no rfl rfl rfl rfl (AL.no rfl rfl rfl rfl (AL.yes rfl rfl (AO.pickT rfl rfl rfl ?_))))))))
          refine AL.yes rfl rfl (AO.pickT rfl rfl rfl (AL.go (AO.pickF rfl rfl rfl (AL.go (AO.assign rfl rfl (AL.nil (AK.seqN (AC.ret ?_))))))))
          first | refine AK.ret Tryz.results55 rfl (Sub.refl _ _) (hT ?_) | refine AK.ret Tryz.results55 rfl (Sub.refl _ _) (hF ?_)
          first | (simp [oddM, *]; done) | (simp [oddM, *]; omega)
      · refine AL.yes rfl rfl (AO.pickT rfl rfl rfl (AL.yes rfl rfl (AO.move rfl rfl (AL.no rfl rfl rfl rfl (AL.no rfl rfl rfl rfl (AL.no rfl rfl rfl rfl (AL.no rfl rfl rfl rfl ?_)))))))
        refine AL.no rfl rfl rfl rfl (AL.no rfl rfl rfl rfl (AL.no rfl rfl rfl rfl (AL.no rfl rfl rfl rfl (AL.yes rfl rfl (AO.pickF rfl rfl rfl (AL.go (AO.pickF rfl rfl rfl ?_)))))))
        refine AL.go (AO.assign rfl rfl (AL.nil (AK.seqN (AC.ret ?_))))
        first | refine AK.ret Tryz.results55 rfl (Sub.refl _ _) (hT ?_) | refine AK.ret Tryz.results55 rfl (Sub.refl _ _) (hF ?_)
        first | (simp [oddM, *]; done) | (simp [oddM, *]; omega)
  · refine AL.go (AO.not rfl rfl (AL.go (AO.move rfl rfl (AL.no rfl rfl rfl rfl (AL.no rfl rfl rfl rfl (AL.no rfl rfl rfl rfl (AL.go (AO.pickT rfl rfl rfl ?_))))))))
    refine AL.go (AO.move rfl rfl (AL.no rfl rfl rfl rfl (AL.no rfl rfl rfl rfl (AL.no rfl rfl rfl rfl (AL.no rfl rfl rfl rfl (AL.no rfl rfl rfl rfl ?_))))))
    refine AL.no rfl rfl rfl rfl (AL.no rfl rfl rfl rfl (AL.no rfl rfl rfl rfl (AL.no rfl rfl rfl rfl (AL.no rfl rfl rfl rfl (AL.no rfl rfl rfl rfl ?_)))))
    refine AL.no rfl rfl rfl rfl (AL.no rfl rfl rfl rfl (AL.no rfl rfl rfl rfl (AL.no rfl rfl rfl rfl (AL.go (AO.pickT rfl rfl rfl (AL.go (AO.assign rfl rfl ?_)))))))
    refine AL.nil (AK.seqN (AC.ret ?_))
    first | refine AK.ret Tryz.results55 rfl (Sub.refl _ _) (hT ?_) | refine AK.ret Tryz.results55 rfl (Sub.refl _ _) (hF ?_)
    first | (simp [oddM, *]; done) | (simp [oddM, *]; omega)
theorem words1f_c (s : List UInt8) (hs : s.length < 4294967281) {b i ty : Nat} (hb : L[i]? = some (Res.cells b #[.bool false] ty)) (hT : oddW false s = true → R (.bool true) L F) (hF : oddW false s = false → R (.bool false) L F) :
    ACalls Tryz.prog W0 58 #[S s, .pointer (some ⟨b, 0, none⟩)] L F R := by
  refine ACalls.body Tryz.func58 rfl Tryz.ntmps58 rfl ?_
  refine AC.seq (AC.region (AL.go (AO.assign rfl rfl (AL.nil (AK.seqN (AC.seq ?_))))))
  refine AC.region (AL.go (AO.move rfl rfl ?_))
  refine AL.go (AO.call rfl rfl (word_c s hs (fun c5 => ?_) (fun c5 => ?_)))
  · refine AL.go (AO.not rfl rfl (AL.go (AO.move rfl rfl ?_)))
    refine AL.yes rfl rfl (AO.loadB (cs := [.bool false]) rfl rfl ?_ (hi := hb) (hv := rfl))
    refine AL.yes rfl rfl (AO.move rfl rfl (AL.no rfl rfl rfl rfl (AL.no rfl rfl rfl rfl (AL.yes rfl rfl (AO.pickF rfl rfl rfl (AL.yes rfl rfl (AO.move rfl rfl (AL.no rfl rfl rfl rfl ?_))))))))
    refine AL.no rfl rfl rfl rfl (AL.no rfl rfl rfl rfl (AL.yes rfl rfl (AO.pickF rfl rfl rfl (AL.go (AO.pickF rfl rfl rfl (AL.go (AO.assign rfl rfl (AL.nil ?_))))))))
    refine AK.seqN (AC.ret ?_)
    first | refine AK.ret Tryz.results58 rfl (Sub.refl _ _) (hT ?_) | refine AK.ret Tryz.results58 rfl (Sub.refl _ _) (hF ?_)
    simp [oddW, *]
  · refine AL.go (AO.not rfl rfl (AL.go (AO.move rfl rfl (AL.no rfl rfl rfl rfl (AL.no rfl rfl rfl rfl (AL.no rfl rfl rfl rfl (AL.no rfl rfl rfl rfl ?_)))))))
    refine AL.no rfl rfl rfl rfl (AL.no rfl rfl rfl rfl (AL.no rfl rfl rfl rfl (AL.no rfl rfl rfl rfl (AL.no rfl rfl rfl rfl (AL.no rfl rfl rfl rfl ?_)))))
    refine AL.go (AO.pickT rfl rfl rfl (AL.go (AO.assign rfl rfl (AL.nil (AK.seqN (AC.ret ?_))))))
    first | refine AK.ret Tryz.results58 rfl (Sub.refl _ _) (hT ?_) | refine AK.ret Tryz.results58 rfl (Sub.refl _ _) (hF ?_)
    simp [oddW, *]
theorem may1f_c (s : List UInt8) (hs : s.length < 4294967281) {b i ty : Nat} (hb : L[i]? = some (Res.cells b #[.bool false] ty)) (hT : oddM false s = true → R (.bool true) L F) (hF : oddM false s = false → R (.bool false) L F) :
    ACalls Tryz.prog W0 55 #[S s, .pointer (some ⟨b, 0, none⟩)] L F R := by
  refine ACalls.body Tryz.func55 rfl Tryz.ntmps55 rfl ?_
  refine AC.seq (AC.region (AL.go (AO.assign rfl rfl (AL.nil (AK.seqN (AC.seq ?_))))))
  refine AC.region (AL.go (AO.move rfl rfl ?_))
  refine AL.go (AO.call rfl rfl (word_c s hs (fun c5 => ?_) (fun c5 => ?_)))
  · refine AL.go (AO.not rfl rfl (AL.go (AO.move rfl rfl (AL.yes rfl rfl (AO.move rfl rfl (AL.yes rfl rfl (AO.lenS rfl rfl ?_)))))))
    refine AL.yes rfl rfl (AO.gtr rfl rfl rfl (fun c10 => ?_) (fun c10 => ?_))
    · refine AL.go (AO.pickF rfl rfl rfl (AL.go (AO.move rfl rfl (AL.no rfl rfl rfl rfl (AL.no rfl rfl rfl rfl (AL.no rfl rfl rfl rfl (AL.no rfl rfl rfl rfl ?_)))))))
      refine AL.no rfl rfl rfl rfl (AL.no rfl rfl rfl rfl (AL.no rfl rfl rfl rfl (AL.no rfl rfl rfl rfl (AL.no rfl rfl rfl rfl (AL.no rfl rfl rfl rfl ?_)))))
      refine AL.no rfl rfl rfl rfl (AL.no rfl rfl rfl rfl (AL.no rfl rfl rfl rfl (AL.no rfl rfl rfl rfl (AL.no rfl rfl rfl rfl (AL.go (AO.pickT rfl rfl rfl ?_))))))
      refine AL.go (AO.assign rfl rfl (AL.nil (AK.seqN (AC.ret ?_))))
      first | refine AK.ret Tryz.results55 rfl (Sub.refl _ _) (hT ?_) | refine AK.ret Tryz.results55 rfl (Sub.refl _ _) (hF ?_)
      first | (simp [oddM, *]; done) | (simp [oddM, *]; omega)
    · refine AL.go (AO.pickF rfl rfl rfl (AL.go (AO.move rfl rfl ?_)))
      refine AL.yes rfl rfl (AO.loadB (cs := [.bool false]) rfl rfl ?_ (hi := hb) (hv := rfl))
      refine AL.yes rfl rfl (AO.move rfl rfl (AL.no rfl rfl rfl rfl (AL.no rfl rfl rfl rfl (AL.yes rfl rfl (AO.pickF rfl rfl rfl (AL.yes rfl rfl (AO.move rfl rfl (AL.no rfl rfl rfl rfl ?_))))))))
      refine AL.no rfl rfl rfl rfl (AL.no rfl rfl rfl rfl (AL.no rfl rfl rfl rfl (AL.no rfl rfl rfl rfl (AL.no rfl rfl rfl rfl (AL.no rfl rfl rfl rfl ?_)))))
      refine AL.no rfl rfl rfl rfl (AL.yes rfl rfl (AO.pickF rfl rfl rfl (AL.go (AO.pickF rfl rfl rfl (AL.go (AO.assign rfl rfl (AL.nil (AK.seqN ?_))))))))
      refine AC.ret ?_
      first | refine AK.ret Tryz.results55 rfl (Sub.refl _ _) (hT ?_) | refine AK.ret Tryz.results55 rfl (Sub.refl _ _) (hF ?_)
      first | (simp [oddM, *]; done) | (simp [oddM, *]; omega)
  · refine AL.go (AO.not rfl rfl (AL.go (AO.move rfl rfl (AL.no rfl rfl rfl rfl (AL.no rfl rfl rfl rfl (AL.no rfl rfl rfl rfl (AL.go (AO.pickT rfl rfl rfl ?_))))))))
    refine AL.go (AO.move rfl rfl (AL.no rfl rfl rfl rfl (AL.no rfl rfl rfl rfl (AL.no rfl rfl rfl rfl (AL.no rfl rfl rfl rfl (AL.no rfl rfl rfl rfl ?_))))))
    refine AL.no rfl rfl rfl rfl (AL.no rfl rfl rfl rfl (AL.no rfl rfl rfl rfl (AL.no rfl rfl rfl rfl (AL.no rfl rfl rfl rfl (AL.no rfl rfl rfl rfl ?_)))))
    refine AL.no rfl rfl rfl rfl (AL.no rfl rfl rfl rfl (AL.no rfl rfl rfl rfl (AL.no rfl rfl rfl rfl (AL.go (AO.pickT rfl rfl rfl (AL.go (AO.assign rfl rfl ?_)))))))
    refine AL.nil (AK.seqN (AC.ret ?_))
    first | refine AK.ret Tryz.results55 rfl (Sub.refl _ _) (hT ?_) | refine AK.ret Tryz.results55 rfl (Sub.refl _ _) (hF ?_)
    first | (simp [oddM, *]; done) | (simp [oddM, *]; omega)
theorem words1_c (s : List UInt8) (hs : s.length < 4294967281) (strict : Bool) {b i ty : Nat} (hb : L[i]? = some (Res.cells b #[.bool strict] ty)) (hT : oddW strict s = true → R (.bool true) L F) (hF : oddW strict s = false → R (.bool false) L F) :
    ACalls Tryz.prog W0 58 #[S s, .pointer (some ⟨b, 0, none⟩)] L F R := by
  cases strict
  · exact words1f_c s hs hb hT hF
  · exact words1t_c s hs hb hT hF
theorem may1_c (s : List UInt8) (hs : s.length < 4294967281) (strict : Bool) {b i ty : Nat} (hb : L[i]? = some (Res.cells b #[.bool strict] ty)) (hT : oddM strict s = true → R (.bool true) L F) (hF : oddM strict s = false → R (.bool false) L F) :
    ACalls Tryz.prog W0 55 #[S s, .pointer (some ⟨b, 0, none⟩)] L F R := by
  cases strict
  · exact may1f_c s hs hb hT hF
  · exact may1t_c s hs hb hT hF
theorem parse1_c (s : List UInt8) (hs : s.length < 4294967281) (hT : numberS s = false → R (.bool true) L F) (hF : numberS s = true → R (.bool false) L F) : ACalls Tryz.prog W0 40 #[S s] L F R := by
  refine ACalls.body Tryz.func40 rfl Tryz.ntmps40 rfl ?_
  refine AC.seq (AC.region (AL.go (AO.assign rfl rfl (AL.nil (AK.seqN (AC.seq ?_))))))
  refine AC.region (AL.go (AO.move rfl rfl ?_))
  refine AL.go (AO.call rfl rfl (number_c s hs (fun c4 => ?_) (fun c4 => ?_)))
  · refine AL.go (AO.not rfl rfl (AL.go (AO.assign rfl rfl (AL.nil (AK.seqN (AC.ret ?_))))))
    first | exact AK.ret Tryz.results40 rfl (Sub.refl _ _) (hT c4) | exact AK.ret Tryz.results40 rfl (Sub.refl _ _) (hF c4)
  · refine AL.go (AO.not rfl rfl (AL.go (AO.assign rfl rfl (AL.nil (AK.seqN (AC.ret ?_))))))
    first | exact AK.ret Tryz.results40 rfl (Sub.refl _ _) (hT c4) | exact AK.ret Tryz.results40 rfl (Sub.refl _ _) (hF c4)
theorem parse2_c (s : List UInt8) (hT : s.length > 40 → R (.bool true) L F) (hF : s.length ≤ 40 → R (.bool false) L F) : ACalls Tryz.prog W0 42 #[S s] L F R := by
  refine ACalls.body Tryz.func42 rfl Tryz.ntmps42 rfl ?_
  refine AC.seq (AC.region (AL.go (AO.assign rfl rfl (AL.nil (AK.seqN (AC.seq ?_))))))
  refine AC.region (AL.go (AO.move rfl rfl (AL.go (AO.lenS rfl rfl ?_))))
  refine AL.go (AO.gtr rfl rfl rfl (fun c5 => ?_) (fun c5 => ?_))
  · refine AL.go (AO.assign rfl rfl (AL.nil (AK.seqN (AC.ret ?_))))
    first | exact AK.ret Tryz.results42 rfl (Sub.refl _ _) (hT (by omega)) | exact AK.ret Tryz.results42 rfl (Sub.refl _ _) (hF (by omega))
  · refine AL.go (AO.assign rfl rfl (AL.nil (AK.seqN (AC.ret ?_))))
    first | exact AK.ret Tryz.results42 rfl (Sub.refl _ _) (hT (by omega)) | exact AK.ret Tryz.results42 rfl (Sub.refl _ _) (hF (by omega))
theorem parse3_c (s : List UInt8) (hs : s.length < 4294967281) (hT : greatS s = true → R (.bool true) L F) (hF : greatS s = false → R (.bool false) L F) : ACalls Tryz.prog W0 43 #[S s] L F R := by
  refine ACalls.body Tryz.func43 rfl Tryz.ntmps43 rfl ?_
  refine AC.seq (AC.region (AL.go (AO.assign rfl rfl (AL.nil (AK.seqN (AC.seq ?_))))))
  refine AC.region (AL.go (AO.move rfl rfl ?_))
  refine AL.go (AO.call rfl rfl (numeric_c s hs (fun c4 => ?_) (fun c4 => ?_)))
  · refine AL.go (AO.move rfl rfl (AL.yes rfl rfl (AO.move rfl rfl ?_)))
    refine AL.yes rfl rfl (AO.call rfl rfl (fits_c s (fun c7 => ?_) (fun c7 => ?_)))
    · refine AL.yes rfl rfl (AO.not rfl rfl (AL.go (AO.pickT rfl rfl rfl (AL.go (AO.assign rfl rfl (AL.nil (AK.seqN (AC.ret ?_))))))))
      first | refine AK.ret Tryz.results43 rfl (Sub.refl _ _) (hT ?_) | refine AK.ret Tryz.results43 rfl (Sub.refl _ _) (hF ?_)
      simp [greatS, *]
    · refine AL.yes rfl rfl (AO.not rfl rfl (AL.go (AO.pickT rfl rfl rfl (AL.go (AO.assign rfl rfl (AL.nil (AK.seqN (AC.ret ?_))))))))
      first | refine AK.ret Tryz.results43 rfl (Sub.refl _ _) (hT ?_) | refine AK.ret Tryz.results43 rfl (Sub.refl _ _) (hF ?_)
      simp [greatS, *]
  · refine AL.go (AO.move rfl rfl (AL.no rfl rfl rfl rfl (AL.no rfl rfl rfl rfl (AL.no rfl rfl rfl rfl (AL.go (AO.pickF rfl rfl rfl (AL.go (AO.assign rfl rfl ?_))))))))
    refine AL.nil (AK.seqN (AC.ret ?_))
    first | refine AK.ret Tryz.results43 rfl (Sub.refl _ _) (hT ?_) | refine AK.ret Tryz.results43 rfl (Sub.refl _ _) (hF ?_)
    simp [greatS, *]
theorem may_c (l : List (List UInt8)) (hl : Sml l) (strict : Bool) {a : Option Addr} {k c : Nat} (m1 : fS l a k c ∈ F) (hT : mayS l strict = true → R (.bool true) L F) (hF : mayS l strict = false → R (.bool false) L F) :
    ACalls Tryz.prog W0 29 #[.slice a k c, .bool strict] L F R := by
  refine ACalls.body Tryz.func29 rfl Tryz.ntmps29 rfl ?_
  refine AC.seq (AC.region (AL.go (AO.box rfl rfl (fun b3 => ?_))))
  refine AL.go (AO.assign rfl rfl (AL.nil (AK.seqN (AC.seq (AC.region ?_)))))
  refine AL.go (AO.makeFunc rfl rfl ?_)
  refine AL.go (AO.assign rfl rfl (AL.nil (AK.seqN (AC.seq (AC.region (AL.go (AO.move rfl rfl ?_)))))))
  refine AL.go (AO.len rfl rfl (fun hl8 => ?_) (hm := by repeat (first | exact mem0 | assumption | refine memS ?_)))
  refine AL.go (AO.leq rfl rfl rfl (fun c9 => ?_) (fun c9 => ?_))
  · refine AL.go (AO.move rfl rfl (AL.yes rfl rfl (AO.move rfl rfl (AL.yes rfl rfl (AO.move rfl rfl ?_)))))
    refine AL.yes rfl rfl (AO.call rfl rfl (containsFunc_c l hl m1 _ [.pointer (some ⟨b3, 0, none⟩)] (oddM strict) (fun s hs F' hF' R hT hF => may1_c s hs strict (i := 0) rfl hT hF) (fun c13 => ?_) (fun c13 => ?_)))
    · refine AL.yes rfl rfl (AO.not rfl rfl (AL.go (AO.pickT rfl rfl rfl (AL.go (AO.assign rfl rfl (AL.nil (AK.seqN (AC.ret ?_))))))))
      first | refine AK.ret Tryz.results29 rfl (by repeat (first | exact Sub.refl _ _ | refine Sub.trans Sub.drop ?_ | refine Sub.trans Sub.dropF ?_)) (hT ?_) | refine AK.ret Tryz.results29 rfl (by repeat (first | exact Sub.refl _ _ | refine Sub.trans Sub.drop ?_ | refine Sub.trans Sub.dropF ?_)) (hF ?_)
      first | (simp [mayS, *]; done) | (simp [mayS, *]; omega)
    · refine AL.yes rfl rfl (AO.not rfl rfl (AL.go (AO.pickT rfl rfl rfl (AL.go (AO.assign rfl rfl (AL.nil (AK.seqN (AC.ret ?_))))))))
      first | refine AK.ret Tryz.results29 rfl (by repeat (first | exact Sub.refl _ _ | refine Sub.trans Sub.drop ?_ | refine Sub.trans Sub.dropF ?_)) (hT ?_) | refine AK.ret Tryz.results29 rfl (by repeat (first | exact Sub.refl _ _ | refine Sub.trans Sub.drop ?_ | refine Sub.trans Sub.dropF ?_)) (hF ?_)
      first | (simp [mayS, *]; done) | (simp [mayS, *]; omega)
  · refine AL.go (AO.move rfl rfl (AL.no rfl rfl rfl rfl (AL.no rfl rfl rfl rfl (AL.no rfl rfl rfl rfl (AL.no rfl rfl rfl rfl (AL.go (AO.pickF rfl rfl rfl ?_)))))))
    refine AL.go (AO.assign rfl rfl (AL.nil (AK.seqN (AC.ret ?_))))
    first | refine AK.ret Tryz.results29 rfl (by repeat (first | exact Sub.refl _ _ | refine Sub.trans Sub.drop ?_ | refine Sub.trans Sub.dropF ?_)) (hT ?_) | refine AK.ret Tryz.results29 rfl (by repeat (first | exact Sub.refl _ _ | refine Sub.trans Sub.drop ?_ | refine Sub.trans Sub.dropF ?_)) (hF ?_)
    first | (simp [mayS, *]; done) | (simp [mayS, *]; omega)
theorem right_c (v : Ver) (hv : VerOk v) {a1 a2 : Option Addr} {k1 c1 k2 c2 : Nat} (m1 : fS v.pre a1 k1 c1 ∈ F) (m2 : fS v.build a2 k2 c2 ∈ F) (hT : rightV v = true → R (.bool true) L F) (hF : rightV v = false → R (.bool false) L F) :
    ACalls Tryz.prog W0 13 #[vVer v a1 k1 c1 a2 k2 c2] L F R := by
  refine ACalls.body Tryz.func13 rfl Tryz.ntmps13 rfl ?_
  refine AC.seq (AC.region (AL.go (AO.box rfl rfl (fun b1 => ?_))))
  refine AL.go (AO.assign rfl rfl (AL.nil (AK.seqN (AC.seq (AC.region (AL.go (AO.field rfl rfl ?_)))))))
  refine AL.go (AO.loadB rfl rfl ?_)
  refine AL.go (AO.geq rfl rfl rfl (fun c5 => ?_) (fun c5 => ?_))
  · refine AL.go (AO.move rfl rfl (AL.yes rfl rfl (AO.field rfl rfl ?_)))
    refine AL.yes rfl rfl (AO.loadB rfl rfl ?_)
    refine AL.yes rfl rfl (AO.geq rfl rfl rfl (fun c9 => ?_) (fun c9 => ?_))
    · refine AL.go (AO.pickT rfl rfl rfl (AL.go (AO.move rfl rfl (AL.yes rfl rfl (AO.field rfl rfl ?_)))))
      refine AL.yes rfl rfl (AO.loadB rfl rfl ?_)
      refine AL.yes rfl rfl (AO.geq rfl rfl rfl (fun c14 => ?_) (fun c14 => ?_))
      · refine AL.go (AO.pickT rfl rfl rfl (AL.go (AO.move rfl rfl (AL.yes rfl rfl (AO.field rfl rfl ?_)))))
        refine AL.yes rfl rfl (AO.loadB rfl rfl ?_)
        refine AL.yes rfl rfl (AO.call rfl rfl (may_c v.pre hv.pre true m1 (fun c19 => ?_) (fun c19 => ?_)))
        · refine AL.go (AO.pickT rfl rfl rfl (AL.go (AO.move rfl rfl (AL.yes rfl rfl (AO.field rfl rfl ?_)))))
          refine AL.yes rfl rfl (AO.loadB rfl rfl ?_)
          refine AL.yes rfl rfl (AO.call rfl rfl (may_c v.build hv.build false m2 (fun c24 => ?_) (fun c24 => ?_)))
          · refine AL.go (AO.pickT rfl rfl rfl (AL.go (AO.assign rfl rfl (AL.nil (AK.seqN (AC.ret ?_))))))
            first | refine AK.ret Tryz.results13 rfl (by repeat (first | exact Sub.refl _ _ | refine Sub.trans Sub.drop ?_ | refine Sub.trans Sub.dropF ?_)) (hT ?_) | refine AK.ret Tryz.results13 rfl (by repeat (first | exact Sub.refl _ _ | refine Sub.trans Sub.drop ?_ | refine Sub.trans Sub.dropF ?_)) (hF ?_)
            first | (simp [rightV, *]; done) | (simp [rightV, *]; omega)
          · refine AL.go (AO.pickT rfl rfl rfl (AL.go (AO.assign rfl rfl (AL.nil (AK.seqN (AC.ret ?_))))))
            first | refine AK.ret Tryz.results13 rfl (by repeat (first | exact Sub.refl _ _ | refine Sub.trans Sub.drop ?_ | refine Sub.trans Sub.dropF ?_)) (hT ?_) | refine AK.ret Tryz.results13 rfl (by repeat (first | exact Sub.refl _ _ | refine Sub.trans Sub.drop ?_ | refine Sub.trans Sub.dropF ?_)) (hF ?_)
            first | (simp [rightV, *]; done) | (simp [rightV, *]; omega)
        · refine AL.go (AO.pickT rfl rfl rfl (AL.go (AO.move rfl rfl (AL.no rfl rfl rfl rfl (AL.no rfl rfl rfl rfl (AL.no rfl rfl rfl rfl (AL.go (AO.pickF rfl rfl rfl ?_))))))))
          refine AL.go (AO.assign rfl rfl (AL.nil (AK.seqN (AC.ret ?_))))
          first | refine AK.ret Tryz.results13 rfl (by repeat (first | exact Sub.refl _ _ | refine Sub.trans Sub.drop ?_ | refine Sub.trans Sub.dropF ?_)) (hT ?_) | refine AK.ret Tryz.results13 rfl (by repeat (first | exact Sub.refl _ _ | refine Sub.trans Sub.drop ?_ | refine Sub.trans Sub.dropF ?_)) (hF ?_)
          first | (simp [rightV, *]; done) | (simp [rightV, *]; omega)
      · refine AL.go (AO.pickT rfl rfl rfl (AL.go (AO.move rfl rfl (AL.no rfl rfl rfl rfl (AL.no rfl rfl rfl rfl (AL.no rfl rfl rfl rfl (AL.go (AO.pickF rfl rfl rfl ?_))))))))
        refine AL.go (AO.move rfl rfl (AL.no rfl rfl rfl rfl (AL.no rfl rfl rfl rfl (AL.no rfl rfl rfl rfl (AL.go (AO.pickF rfl rfl rfl (AL.go (AO.assign rfl rfl ?_))))))))
        refine AL.nil (AK.seqN (AC.ret ?_))
        first | refine AK.ret Tryz.results13 rfl (by repeat (first | exact Sub.refl _ _ | refine Sub.trans Sub.drop ?_ | refine Sub.trans Sub.dropF ?_)) (hT ?_) | refine AK.ret Tryz.results13 rfl (by repeat (first | exact Sub.refl _ _ | refine Sub.trans Sub.drop ?_ | refine Sub.trans Sub.dropF ?_)) (hF ?_)
        first | (simp [rightV, *]; done) | (simp [rightV, *]; omega)
    · refine AL.go (AO.pickT rfl rfl rfl (AL.go (AO.move rfl rfl (AL.no rfl rfl rfl rfl (AL.no rfl rfl rfl rfl (AL.no rfl rfl rfl rfl (AL.go (AO.pickF rfl rfl rfl ?_))))))))
      refine AL.go (AO.move rfl rfl (AL.no rfl rfl rfl rfl (AL.no rfl rfl rfl rfl (AL.no rfl rfl rfl rfl (AL.go (AO.pickF rfl rfl rfl (AL.go (AO.move rfl rfl ?_))))))))
      refine AL.no rfl rfl rfl rfl (AL.no rfl rfl rfl rfl (AL.no rfl rfl rfl rfl (AL.go (AO.pickF rfl rfl rfl (AL.go (AO.assign rfl rfl (AL.nil ?_)))))))
      refine AK.seqN (AC.ret ?_)
      first | refine AK.ret Tryz.results13 rfl (by repeat (first | exact Sub.refl _ _ | refine Sub.trans Sub.drop ?_ | refine Sub.trans Sub.dropF ?_)) (hT ?_) | refine AK.ret Tryz.results13 rfl (by repeat (first | exact Sub.refl _ _ | refine Sub.trans Sub.drop ?_ | refine Sub.trans Sub.dropF ?_)) (hF ?_)
      first | (simp [rightV, *]; done) | (simp [rightV, *]; omega)
  · refine AL.go (AO.move rfl rfl (AL.no rfl rfl rfl rfl (AL.no rfl rfl rfl rfl (AL.no rfl rfl rfl rfl (AL.go (AO.pickF rfl rfl rfl (AL.go (AO.move rfl rfl ?_))))))))
    refine AL.no rfl rfl rfl rfl (AL.no rfl rfl rfl rfl (AL.no rfl rfl rfl rfl (AL.go (AO.pickF rfl rfl rfl (AL.go (AO.move rfl rfl (AL.no rfl rfl rfl rfl ?_)))))))
    refine AL.no rfl rfl rfl rfl (AL.no rfl rfl rfl rfl (AL.go (AO.pickF rfl rfl rfl (AL.go (AO.move rfl rfl (AL.no rfl rfl rfl rfl (AL.no rfl rfl rfl rfl ?_)))))))
    refine AL.no rfl rfl rfl rfl (AL.go (AO.pickF rfl rfl rfl (AL.go (AO.assign rfl rfl (AL.nil (AK.seqN (AC.ret ?_)))))))
    first | refine AK.ret Tryz.results13 rfl (by repeat (first | exact Sub.refl _ _ | refine Sub.trans Sub.drop ?_ | refine Sub.trans Sub.dropF ?_)) (hT ?_) | refine AK.ret Tryz.results13 rfl (by repeat (first | exact Sub.refl _ _ | refine Sub.trans Sub.drop ?_ | refine Sub.trans Sub.dropF ?_)) (hF ?_)
    first | (simp [rightV, *]; done) | (simp [rightV, *]; omega)
end
end Go.Sy
