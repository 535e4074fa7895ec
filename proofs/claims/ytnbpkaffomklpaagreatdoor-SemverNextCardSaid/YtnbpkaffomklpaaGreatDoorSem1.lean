/- The semver texts: bytes, words, numbers. -/
import Derived.Test.YtnbpkaffomklpaaGreatDoorFacts
import Derived.Test.YtnbpkaffomklpaaGreatDoorFwL
import Derived.Test.YtnbpkaffomklpaaGreatDoorShelf
namespace Go.Sy
open Go Go.Proofs

def digitC (c : UInt8) : Bool := 48 ≤ c.toNat && c.toNat ≤ 57
def letterC (c : UInt8) : Bool := digitC c || (97 ≤ c.toNat && c.toNat ≤ 122) || (65 ≤ c.toNat && c.toNat ≤ 90) || c.toNat == 45
def wordS (s : List UInt8) : Bool := s.all letterC && !s.isEmpty
def numericS (s : List UInt8) : Bool := s.all digitC && !s.isEmpty
def numberS (s : List UInt8) : Bool := numericS s && (s == [48] || s.headD 0 != 48)
def cmpS (a b : List UInt8) : Int := if Op.bytesLess a b then -1 else if a = b then 0 else 1
def firstI (l : List Int) : Int := (l.find? (· ≠ 0)).getD 0
def lowerS (a b : List UInt8) : Int := firstI [Lib.compareInt a.length b.length, cmpS a b]
def greatest : List UInt8 := [57, 50, 50, 51, 51, 55, 50, 48, 51, 54, 56, 53, 52, 55, 55, 53, 56, 48, 55]
def fitsS (s : List UInt8) : Bool := decide (lowerS s greatest ≤ 0)

abbrev eS (s : List UInt8) : List D := [.val (S s)]
abbrev eI (i : Int) : List D := [.val (.int .i64 i)]
abbrev fS (l : List (List UInt8)) (a : Option Addr) (k c : Nat) : Fact := .slc (.slice a k c) 1 (l.map eS)

theorem all_no {α : Type} {p : α → Bool} {s : List α} {j : Nat} (h : j < s.length) (hl : p s[j] = false) : s.all p = false := by
  rw [List.all_eq_false]; exact ⟨s[j], List.getElem_mem h, by simp [hl]⟩
theorem all_yes {α : Type} {p : α → Bool} {s : List α} (h : ∀ j (hj : j < s.length), p s[j] = true) : s.all p = true := by
  rw [List.all_eq_true]; intro c hc
  obtain ⟨j, hj, rfl⟩ := List.getElem_of_mem hc
  exact h j hj

theorem num_one {s : List UInt8} (c4 : numericS s = true) (c7 : s = [48]) : numberS s = true := by rw [numberS, c4, c7]; rfl
theorem num_none {s : List UInt8} (c4 : numericS s = false) : numberS s = false := by rw [numberS, c4]; rfl
theorem num_yes {s : List UInt8} (h0 : 0 < s.length) (c4 : numericS s = true) (c11 : ((s[0].toNat : Nat) : Int) ≠ 48) : numberS s = true := by
  cases s with
  | nil => simp at h0
  | cons x s =>
    have : x ≠ 48 := by rintro rfl; exact c11 rfl
    rw [numberS, c4]; simp [this]
theorem num_no {s : List UInt8} (h0 : 0 < s.length) (c7 : s ≠ [48]) (c11 : ((s[0].toNat : Nat) : Int) = 48) : numberS s = false := by
  cases s with
  | nil => simp at h0
  | cons x s =>
    have : x = 48 := by
      have : x.toNat = 48 := by simpa using (Int.ofNat.inj c11)
      exact UInt8.toNat_inj.1 this
    subst this
    have : s ≠ [] := fun e => c7 (by rw [e])
    simp [numberS, this]
theorem first_some {l : List Int} {k : Nat} (hk : k < l.length) (h : l.take k = List.replicate k 0) (hne : l[k] ≠ 0) : firstI l = l[k] := by
  have h2 : l = List.replicate k 0 ++ l[k] :: l.drop (k + 1) := by
    rw [← h, ← List.drop_eq_getElem_cons hk, List.take_append_drop]
  have h3 : ∀ (x : Int) (r : List Int), x ≠ 0 → firstI (List.replicate k 0 ++ x :: r) = x := by
    intro x r hx
    unfold firstI
    rw [List.find?_append]
    have : (List.replicate k (0 : Int)).find? (fun x => decide (x ≠ 0)) = none := by
      rw [List.find?_eq_none]; intro y hy; have := List.eq_of_mem_replicate hy; simp [this]
    rw [this]; simp [hx]
  calc firstI l = firstI (List.replicate k 0 ++ l[k] :: l.drop (k + 1)) := by rw [← h2]
    _ = l[k] := h3 _ _ hne
theorem first_none {l : List Int} (h : l = List.replicate l.length 0) : firstI l = 0 := by
  unfold firstI
  have : l.find? (fun x => decide (x ≠ 0)) = none := by
    rw [List.find?_eq_none]; intro y hy; rw [h] at hy; have := List.eq_of_mem_replicate hy; simp [this]
  rw [this]; rfl
theorem zero_step {l : List Int} {k : Nat} (hk : k < l.length) (h : l.take k = List.replicate k 0) (he : l[k] = 0) : l.take (k + 1) = List.replicate (k + 1) 0 := by
  rw [List.take_succ_eq_append_getElem hk, h, he, List.replicate_succ']
theorem cmpS_lt {a b : List UInt8} (h : Op.bytesLess a b = true) : cmpS a b = -1 := by simp [cmpS, h]
theorem cmpS_eq {a b : List UInt8} (h : Op.bytesLess a b = false) (h2 : (Op.bytesLess a b || a == b) = true) : cmpS a b = 0 := by
  simp [h] at h2; subst h2; simp [cmpS, h]
theorem cmpS_gt {a b : List UInt8} (h2 : (Op.bytesLess a b || a == b) = false) : cmpS a b = 1 := by
  simp at h2; simp [cmpS, h2]

attribute [local irreducible] AC AT AO AK AH ACalls Sub Res.cells Res.obj Res.nix Res.own Exit.then Exit.inBlock bodyPost Code.wp Next Post Kont
section
variable {W0 : World} {L : List Res} {F : List Fact} {R : Value → List Res → List Fact → Prop}
set_option maxRecDepth 100000
theorem digit_c (c : UInt8) (hT : digitC c = true → R (.bool true) L F) (hF : digitC c = false → R (.bool false) L F) : ACalls Tryz.prog W0 62 #[.int .u8 c.toNat] L F R := by
  refine ACalls.body Tryz.func62 rfl Tryz.ntmps62 rfl ?_
  refine AC.seq (AC.region (AL.go (AO.assign rfl rfl (AL.nil (AK.seqN (AC.seq ?_))))))
  refine AC.region (AL.go (AO.move rfl rfl ?_))
  refine AL.go (AO.geq rfl rfl rfl (fun c4 => ?_) (fun c4 => ?_))
  · refine AL.go (AO.move rfl rfl (AL.yes rfl rfl (AO.move rfl rfl ?_)))
    refine AL.yes rfl rfl (AO.leq rfl rfl rfl (fun c7 => ?_) (fun c7 => ?_))
    · refine AL.go (AO.pickT rfl rfl rfl (AL.go (AO.assign rfl rfl (AL.nil (AK.seqN (AC.ret ?_))))))
      first | refine AK.ret Tryz.results62 rfl (Sub.refl _ _) (hT ?_) | refine AK.ret Tryz.results62 rfl (Sub.refl _ _) (hF ?_)
      simp [digitC]; omega
    · refine AL.go (AO.pickT rfl rfl rfl (AL.go (AO.assign rfl rfl (AL.nil (AK.seqN (AC.ret ?_))))))
      first | refine AK.ret Tryz.results62 rfl (Sub.refl _ _) (hT ?_) | refine AK.ret Tryz.results62 rfl (Sub.refl _ _) (hF ?_)
      simp [digitC]; omega
  · refine AL.go (AO.move rfl rfl (AL.no rfl rfl rfl rfl (AL.no rfl rfl rfl rfl (AL.go (AO.pickF rfl rfl rfl (AL.go (AO.assign rfl rfl (AL.nil ?_))))))))
    refine AK.seqN (AC.ret ?_)
    first | refine AK.ret Tryz.results62 rfl (Sub.refl _ _) (hT ?_) | refine AK.ret Tryz.results62 rfl (Sub.refl _ _) (hF ?_)
    simp [digitC]; omega
theorem letter_c (c : UInt8) (hT : letterC c = true → R (.bool true) L F) (hF : letterC c = false → R (.bool false) L F) : ACalls Tryz.prog W0 70 #[.int .u8 c.toNat] L F R := by
  refine ACalls.body Tryz.func70 rfl Tryz.ntmps70 rfl ?_
  refine AC.seq (AC.region (AL.go (AO.assign rfl rfl (AL.nil (AK.seqN (AC.seq ?_))))))
  refine AC.region (AL.go (AO.move rfl rfl ?_))
  refine AL.go (AO.call rfl rfl (digit_c _ (fun c4 => ?_) (fun c4 => ?_)))
  · refine AL.go (AO.move rfl rfl (AL.no rfl rfl rfl rfl (AL.no rfl rfl rfl rfl (AL.no rfl rfl rfl rfl (AL.no rfl rfl rfl rfl (AL.no rfl rfl rfl rfl ?_))))))
    refine AL.no rfl rfl rfl rfl (AL.go (AO.pickT rfl rfl rfl (AL.go (AO.move rfl rfl (AL.no rfl rfl rfl rfl (AL.no rfl rfl rfl rfl (AL.no rfl rfl rfl rfl ?_)))))))
    refine AL.no rfl rfl rfl rfl (AL.no rfl rfl rfl rfl (AL.no rfl rfl rfl rfl (AL.go (AO.pickT rfl rfl rfl (AL.go (AO.move rfl rfl (AL.no rfl rfl rfl rfl ?_)))))))
    refine AL.no rfl rfl rfl rfl (AL.go (AO.pickT rfl rfl rfl (AL.go (AO.assign rfl rfl (AL.nil (AK.seqN (AC.ret ?_)))))))
    first | refine AK.ret Tryz.results70 rfl (Sub.refl _ _) (hT ?_) | refine AK.ret Tryz.results70 rfl (Sub.refl _ _) (hF ?_)
    first | (simp [letterC, *]; done) | (simp [letterC, *]; omega)
  · refine AL.go (AO.move rfl rfl (AL.yes rfl rfl (AO.move rfl rfl ?_)))
    refine AL.yes rfl rfl (AO.geq rfl rfl rfl (fun c7 => ?_) (fun c7 => ?_))
    · refine AL.yes rfl rfl (AO.move rfl rfl (AL.yes rfl rfl (AO.move rfl rfl ?_)))
      refine AL.yes rfl rfl (AO.leq rfl rfl rfl (fun c10 => ?_) (fun c10 => ?_))
      · refine AL.yes rfl rfl (AO.pickT rfl rfl rfl (AL.go (AO.pickF rfl rfl rfl (AL.go (AO.move rfl rfl (AL.no rfl rfl rfl rfl (AL.no rfl rfl rfl rfl (AL.no rfl rfl rfl rfl ?_))))))))
        refine AL.no rfl rfl rfl rfl (AL.no rfl rfl rfl rfl (AL.no rfl rfl rfl rfl (AL.go (AO.pickT rfl rfl rfl (AL.go (AO.move rfl rfl (AL.no rfl rfl rfl rfl ?_)))))))
        refine AL.no rfl rfl rfl rfl (AL.go (AO.pickT rfl rfl rfl (AL.go (AO.assign rfl rfl (AL.nil (AK.seqN (AC.ret ?_)))))))
        first | refine AK.ret Tryz.results70 rfl (Sub.refl _ _) (hT ?_) | refine AK.ret Tryz.results70 rfl (Sub.refl _ _) (hF ?_)
        first | (simp [letterC, *]; done) | (simp [letterC, *]; omega)
      · refine AL.yes rfl rfl (AO.pickT rfl rfl rfl (AL.go (AO.pickF rfl rfl rfl (AL.go (AO.move rfl rfl (AL.yes rfl rfl (AO.move rfl rfl ?_)))))))
        refine AL.yes rfl rfl (AO.geq rfl rfl rfl (fun c15 => ?_) (fun c15 => ?_))
        · refine AL.yes rfl rfl (AO.move rfl rfl (AL.yes rfl rfl (AO.move rfl rfl ?_)))
          refine AL.yes rfl rfl (AO.leq rfl rfl rfl (fun c18 => ?_) (fun c18 => ?_))
          · refine AL.yes rfl rfl (AO.pickT rfl rfl rfl (AL.go (AO.pickF rfl rfl rfl (AL.go (AO.move rfl rfl (AL.no rfl rfl rfl rfl (AL.no rfl rfl rfl rfl (AL.go (AO.pickT rfl rfl rfl ?_)))))))))
            refine AL.go (AO.assign rfl rfl (AL.nil (AK.seqN (AC.ret ?_))))
            first | refine AK.ret Tryz.results70 rfl (Sub.refl _ _) (hT ?_) | refine AK.ret Tryz.results70 rfl (Sub.refl _ _) (hF ?_)
            first | (simp [letterC, *]; done) | (simp [letterC, *]; omega)
          · refine AL.yes rfl rfl (AO.pickT rfl rfl rfl (AL.go (AO.pickF rfl rfl rfl (AL.go (AO.move rfl rfl (AL.yes rfl rfl (AO.move rfl rfl ?_)))))))
            refine AL.yes rfl rfl (AO.eql rfl rfl rfl (fun c23 => ?_) (fun c23 => ?_))
            · refine AL.go (AO.pickF rfl rfl rfl (AL.go (AO.assign rfl rfl (AL.nil (AK.seqN (AC.ret ?_))))))
              first | refine AK.ret Tryz.results70 rfl (Sub.refl _ _) (hT ?_) | refine AK.ret Tryz.results70 rfl (Sub.refl _ _) (hF ?_)
              first | (simp [letterC, *]; done) | (simp [letterC, *]; omega)
            · refine AL.go (AO.pickF rfl rfl rfl (AL.go (AO.assign rfl rfl (AL.nil (AK.seqN (AC.ret ?_))))))
              first | refine AK.ret Tryz.results70 rfl (Sub.refl _ _) (hT ?_) | refine AK.ret Tryz.results70 rfl (Sub.refl _ _) (hF ?_)
              first | (simp [letterC, *]; done) | (simp [letterC, *]; omega)
        · refine AL.yes rfl rfl (AO.move rfl rfl (AL.no rfl rfl rfl rfl (AL.no rfl rfl rfl rfl (AL.yes rfl rfl (AO.pickF rfl rfl rfl (AL.go (AO.pickF rfl rfl rfl (AL.go (AO.move rfl rfl ?_)))))))))
          refine AL.yes rfl rfl (AO.move rfl rfl ?_)
          refine AL.yes rfl rfl (AO.eql rfl rfl rfl (fun c23 => ?_) (fun c23 => ?_))
          · refine AL.go (AO.pickF rfl rfl rfl (AL.go (AO.assign rfl rfl (AL.nil (AK.seqN (AC.ret ?_))))))
            first | refine AK.ret Tryz.results70 rfl (Sub.refl _ _) (hT ?_) | refine AK.ret Tryz.results70 rfl (Sub.refl _ _) (hF ?_)
            first | (simp [letterC, *]; done) | (simp [letterC, *]; omega)
          · refine AL.go (AO.pickF rfl rfl rfl (AL.go (AO.assign rfl rfl (AL.nil (AK.seqN (AC.ret ?_))))))
            first | refine AK.ret Tryz.results70 rfl (Sub.refl _ _) (hT ?_) | refine AK.ret Tryz.results70 rfl (Sub.refl _ _) (hF ?_)
            first | (simp [letterC, *]; done) | (simp [letterC, *]; omega)
    · refine AL.yes rfl rfl (AO.move rfl rfl (AL.no rfl rfl rfl rfl (AL.no rfl rfl rfl rfl (AL.yes rfl rfl (AO.pickF rfl rfl rfl (AL.go (AO.pickF rfl rfl rfl (AL.go (AO.move rfl rfl ?_)))))))))
      refine AL.yes rfl rfl (AO.move rfl rfl ?_)
      refine AL.yes rfl rfl (AO.geq rfl rfl rfl (fun c15 => ?_) (fun c15 => ?_))
      · refine AL.yes rfl rfl (AO.move rfl rfl (AL.yes rfl rfl (AO.move rfl rfl ?_)))
        refine AL.yes rfl rfl (AO.leq rfl rfl rfl (fun c18 => ?_) (fun c18 => ?_))
        · refine AL.yes rfl rfl (AO.pickT rfl rfl rfl (AL.go (AO.pickF rfl rfl rfl (AL.go (AO.move rfl rfl (AL.no rfl rfl rfl rfl (AL.no rfl rfl rfl rfl (AL.go (AO.pickT rfl rfl rfl ?_)))))))))
          refine AL.go (AO.assign rfl rfl (AL.nil (AK.seqN (AC.ret ?_))))
          first | refine AK.ret Tryz.results70 rfl (Sub.refl _ _) (hT ?_) | refine AK.ret Tryz.results70 rfl (Sub.refl _ _) (hF ?_)
          first | (simp [letterC, *]; done) | (simp [letterC, *]; omega)
        · refine AL.yes rfl rfl (AO.pickT rfl rfl rfl (AL.go (AO.pickF rfl rfl rfl (AL.go (AO.move rfl rfl (AL.yes rfl rfl (AO.move rfl rfl ?_)))))))
          refine AL.yes rfl rfl (AO.eql rfl rfl rfl (fun c23 => ?_) (fun c23 => ?_))
          · refine AL.go (AO.pickF rfl rfl rfl (AL.go (AO.assign rfl rfl (AL.nil (AK.seqN (AC.ret ?_))))))
            first | refine AK.ret Tryz.results70 rfl (Sub.refl _ _) (hT ?_) | refine AK.ret Tryz.results70 rfl (Sub.refl _ _) (hF ?_)
            first | (simp [letterC, *]; done) | (simp [letterC, *]; omega)
          · refine AL.go (AO.pickF rfl rfl rfl (AL.go (AO.assign rfl rfl (AL.nil (AK.seqN (AC.ret ?_))))))
            first | refine AK.ret Tryz.results70 rfl (Sub.refl _ _) (hT ?_) | refine AK.ret Tryz.results70 rfl (Sub.refl _ _) (hF ?_)
            first | (simp [letterC, *]; done) | (simp [letterC, *]; omega)
      · refine AL.yes rfl rfl (AO.move rfl rfl (AL.no rfl rfl rfl rfl (AL.no rfl rfl rfl rfl (AL.yes rfl rfl (AO.pickF rfl rfl rfl (AL.go (AO.pickF rfl rfl rfl (AL.go (AO.move rfl rfl ?_)))))))))
        refine AL.yes rfl rfl (AO.move rfl rfl ?_)
        refine AL.yes rfl rfl (AO.eql rfl rfl rfl (fun c23 => ?_) (fun c23 => ?_))
        · refine AL.go (AO.pickF rfl rfl rfl (AL.go (AO.assign rfl rfl (AL.nil (AK.seqN (AC.ret ?_))))))
          first | refine AK.ret Tryz.results70 rfl (Sub.refl _ _) (hT ?_) | refine AK.ret Tryz.results70 rfl (Sub.refl _ _) (hF ?_)
          first | (simp [letterC, *]; done) | (simp [letterC, *]; omega)
        · refine AL.go (AO.pickF rfl rfl rfl (AL.go (AO.assign rfl rfl (AL.nil (AK.seqN (AC.ret ?_))))))
          first | refine AK.ret Tryz.results70 rfl (Sub.refl _ _) (hT ?_) | refine AK.ret Tryz.results70 rfl (Sub.refl _ _) (hF ?_)
          first | (simp [letterC, *]; done) | (simp [letterC, *]; omega)

theorem all_c (s : List UInt8) (hs : s.length < 4294967281) (p : UInt8 → Bool) (g : FuncId) [FnT Tryz.prog g] (hg : ∀ (c : UInt8) (R : Value → List Res → List Fact → Prop), (p c = true → R (.bool true) L F) → (p c = false → R (.bool false) L F) → ACalls Tryz.prog W0 g #[.int .u8 c.toNat] L F R)
    (hT : (s.all p && !s.isEmpty) = true → R (.bool true) L F) (hF : (s.all p && !s.isEmpty) = false → R (.bool false) L F) : ACalls Tryz.prog W0 61 #[S s, .func (.func g) #[] #[]] L F R := by
  refine ACalls.body Tryz.func61 rfl Tryz.ntmps61 rfl ?_
  refine AC.seq (AC.region (AL.go (AO.assign rfl rfl (AL.nil (AK.seqN (AC.seq ?_))))))
  refine AC.seq (AC.region (AL.go (AO.move rfl rfl (AL.go (AO.lenS rfl rfl (AL.go (AO.move rfl rfl (AL.nil ?_))))))))
  refine AK.seqN (AC.block ?_)
  refine AC.loop (fun k => k ≤ s.length ∧ ∀ j (hj : j < s.length), j < k → p s[j] = true) (fun k => [(0, S s), (1, .func (.func g) #[] #[]), (7, .int .i64 s.length), (8, .int .i64 (k : Int))]) (fun _ => L) (fun _ => F) (fun k => s.length - k) 0 ⟨by omega, by omega⟩ (by repeat (first | exact SubR.nil | refine SubR.cons rfl ?_)) (Sub.refl _ _) ?_
  rintro k ⟨hk, hok⟩
  refine AC.seq (AC.region ?_)
  refine AL.go (AO.lss rfl rfl rfl (fun c9 => ?_) (fun c9 => ?_))
  · refine AL.nil (AK.seqN (AC.seq (AC.condT rfl (AC.skip (AK.seqN ?_)))))
    refine AC.seq (AC.block (AC.seq (AC.region (AL.go (AO.move rfl rfl (AL.go (AO.assign rfl rfl ?_)))))))
    refine AL.nil (AK.seqN (AC.seq (AC.region (AL.go (AO.move rfl rfl (AL.go (AO.move rfl rfl ?_)))))))
    refine AL.go (AO.move rfl rfl ?_)
    refine AL.go (AO.indexS rfl rfl rfl rfl (by omega) ?_)
    refine AL.go (AO.callC (cs := []) rfl rfl rfl (hg _ _ (fun c15 => ?_) (fun c15 => ?_)))
    · refine AL.go (AO.not rfl rfl (AL.nil (AK.seqN (AC.condF rfl (AC.skip (AK.blkN ?_))))))
      refine AK.seqN (AC.region (AL.go (AO.add rfl rfl rfl (by omega) (by omega) (AL.go (AO.move rfl rfl (AL.nil ?_))))))
      refine AK.next (k + 1) ⟨by omega, ?_⟩ (by omega) (by repeat (first | exact SubR.nil | refine SubR.cons rfl ?_)) (Sub.refl _ _)
      intro j hj hjk
      rcases Nat.lt_succ_iff_lt_or_eq.1 hjk with h | rfl
      · exact hok j hj h
      · assumption
    · refine AL.go (AO.not rfl rfl (AL.nil (AK.seqN (AC.condT rfl (AC.seq (AC.region ?_))))))
      refine AL.go (AO.assign rfl rfl (AL.nil (AK.seqN (AC.ret (AK.blkR (AK.seqR ?_))))))
      refine AK.seqR (AK.blkR (AK.seqR ?_))
      first | refine AK.ret Tryz.results61 rfl (Sub.refl _ _) (hT ?_) | refine AK.ret Tryz.results61 rfl (Sub.refl _ _) (hF ?_)
      first | (rw [all_yes (fun j hj => hok j hj (by omega))]; cases s <;> simp_all; done) | (rw [all_no _ c15]; rfl)
  · refine AL.nil (AK.seqN (AC.seq (AC.condF rfl (AC.exit (AK.seqX ?_)))))
    refine AK.seqX (AK.blkX (AK.seqN (AC.seq (AC.region (AL.go (AO.move rfl rfl ?_))))))
    refine AL.go (AO.neqS rfl rfl rfl (fun c19 => ?_) (fun c19 => ?_))
    · refine AL.go (AO.assign rfl rfl (AL.nil (AK.seqN (AC.ret ?_))))
      first | refine AK.ret Tryz.results61 rfl (Sub.refl _ _) (hT ?_) | refine AK.ret Tryz.results61 rfl (Sub.refl _ _) (hF ?_)
      first | (rw [all_yes (fun j hj => hok j hj (by omega))]; cases s <;> simp_all; done) | (rw [all_no _ c15]; rfl)
    · refine AL.go (AO.assign rfl rfl (AL.nil (AK.seqN (AC.ret ?_))))
      first | refine AK.ret Tryz.results61 rfl (Sub.refl _ _) (hT ?_) | refine AK.ret Tryz.results61 rfl (Sub.refl _ _) (hF ?_)
      first | (rw [all_yes (fun j hj => hok j hj (by omega))]; cases s <;> simp_all; done) | (rw [all_no _ c15]; rfl)
theorem word_c (s : List UInt8) (hs : s.length < 4294967281) (hT : wordS s = true → R (.bool true) L F) (hF : wordS s = false → R (.bool false) L F) : ACalls Tryz.prog W0 56 #[S s] L F R := by
  refine ACalls.body Tryz.func56 rfl Tryz.ntmps56 rfl ?_
  refine AC.seq (AC.region (AL.go (AO.assign rfl rfl (AL.nil (AK.seqN (AC.seq ?_))))))
  refine AC.region (AL.go (AO.move rfl rfl ?_))
  refine AL.go (AO.call rfl rfl (all_c s hs letterC _ (fun c R hT hF => letter_c c hT hF) (fun c4 => ?_) (fun c4 => ?_)))
  · refine AL.go (AO.assign rfl rfl (AL.nil (AK.seqN (AC.ret ?_))))
    first | refine AK.ret Tryz.results56 rfl (Sub.refl _ _) (hT c4) | refine AK.ret Tryz.results56 rfl (Sub.refl _ _) (hF c4)
  · refine AL.go (AO.assign rfl rfl (AL.nil (AK.seqN (AC.ret ?_))))
    first | refine AK.ret Tryz.results56 rfl (Sub.refl _ _) (hT c4) | refine AK.ret Tryz.results56 rfl (Sub.refl _ _) (hF c4)
theorem numeric_c (s : List UInt8) (hs : s.length < 4294967281) (hT : numericS s = true → R (.bool true) L F) (hF : numericS s = false → R (.bool false) L F) : ACalls Tryz.prog W0 44 #[S s] L F R := by
  refine ACalls.body Tryz.func44 rfl Tryz.ntmps44 rfl ?_
  refine AC.seq (AC.region (AL.go (AO.assign rfl rfl (AL.nil (AK.seqN (AC.seq ?_))))))
  refine AC.region (AL.go (AO.move rfl rfl ?_))
  refine AL.go (AO.call rfl rfl (all_c s hs digitC _ (fun c R hT hF => digit_c c hT hF) (fun c4 => ?_) (fun c4 => ?_)))
  · refine AL.go (AO.assign rfl rfl (AL.nil (AK.seqN (AC.ret ?_))))
    first | refine AK.ret Tryz.results44 rfl (Sub.refl _ _) (hT c4) | refine AK.ret Tryz.results44 rfl (Sub.refl _ _) (hF c4)
  · refine AL.go (AO.assign rfl rfl (AL.nil (AK.seqN (AC.ret ?_))))
    first | refine AK.ret Tryz.results44 rfl (Sub.refl _ _) (hT c4) | refine AK.ret Tryz.results44 rfl (Sub.refl _ _) (hF c4)
theorem number_c (s : List UInt8) (hs : s.length < 4294967281) (hT : numberS s = true → R (.bool true) L F) (hF : numberS s = false → R (.bool false) L F) : ACalls Tryz.prog W0 41 #[S s] L F R := by
  refine ACalls.body Tryz.func41 rfl Tryz.ntmps41 rfl ?_
  refine AC.seq (AC.region (AL.go (AO.assign rfl rfl (AL.nil (AK.seqN (AC.seq ?_))))))
  refine AC.region (AL.go (AO.move rfl rfl ?_))
  refine AL.go (AO.call rfl rfl (numeric_c s hs (fun c4 => ?_) (fun c4 => ?_)))
  · refine AL.go (AO.move rfl rfl (AL.yes rfl rfl (AO.move rfl rfl ?_)))
    refine AL.yes rfl rfl (AO.eqlS rfl rfl rfl (fun c7 => ?_) (fun c7 => ?_))
    · refine AL.yes rfl rfl (AO.move rfl rfl (AL.no rfl rfl rfl rfl (AL.no rfl rfl rfl rfl (AL.no rfl rfl rfl rfl (AL.yes rfl rfl (AO.pickT rfl rfl rfl (AL.go (AO.pickT rfl rfl rfl ?_))))))))
      refine AL.go (AO.assign rfl rfl (AL.nil (AK.seqN (AC.ret ?_))))
      first | refine AK.ret Tryz.results41 rfl (Sub.refl _ _) (hT ?_) | refine AK.ret Tryz.results41 rfl (Sub.refl _ _) (hF ?_)
      first | exact num_one c4 c7 | exact num_none c4 | exact num_yes h0 c4 c11 | exact num_no h0 c7 c11
    · refine AL.yes rfl rfl (AO.move rfl rfl (AL.yes rfl rfl (AO.move rfl rfl ?_)))
      have h0 : 0 < s.length := by
       rcases Nat.eq_zero_or_pos s.length with h | h
       · have : s = [] := List.eq_nil_of_length_eq_zero h
         subst this; simp [numericS] at c4
       · exact h
      refine AL.yes rfl rfl (AO.indexS rfl rfl rfl rfl h0 ?_)
      refine AL.yes rfl rfl (AO.neq rfl rfl rfl (fun c11 => ?_) (fun c11 => ?_))
      · refine AL.yes rfl rfl (AO.pickF rfl rfl rfl (AL.go (AO.pickT rfl rfl rfl (AL.go (AO.assign rfl rfl (AL.nil (AK.seqN (AC.ret ?_))))))))
        first | refine AK.ret Tryz.results41 rfl (Sub.refl _ _) (hT ?_) | refine AK.ret Tryz.results41 rfl (Sub.refl _ _) (hF ?_)
        first | exact num_one c4 c7 | exact num_none c4 | exact num_yes h0 c4 c11 | exact num_no h0 c7 c11
      · refine AL.yes rfl rfl (AO.pickF rfl rfl rfl (AL.go (AO.pickT rfl rfl rfl (AL.go (AO.assign rfl rfl (AL.nil (AK.seqN (AC.ret ?_))))))))
        first | refine AK.ret Tryz.results41 rfl (Sub.refl _ _) (hT ?_) | refine AK.ret Tryz.results41 rfl (Sub.refl _ _) (hF ?_)
        first | exact num_one c4 c7 | exact num_none c4 | exact num_yes h0 c4 c11 | exact num_no h0 c7 c11
  · refine AL.go (AO.move rfl rfl (AL.no rfl rfl rfl rfl (AL.no rfl rfl rfl rfl (AL.no rfl rfl rfl rfl (AL.no rfl rfl rfl rfl (AL.no rfl rfl rfl rfl ?_))))))
    refine AL.no rfl rfl rfl rfl (AL.no rfl rfl rfl rfl (AL.go (AO.pickF rfl rfl rfl (AL.go (AO.assign rfl rfl (AL.nil (AK.seqN ?_)))))))
    refine AC.ret ?_
    first | refine AK.ret Tryz.results41 rfl (Sub.refl _ _) (hT ?_) | refine AK.ret Tryz.results41 rfl (Sub.refl _ _) (hF ?_)
    first | exact num_one c4 c7 | exact num_none c4 | exact num_yes h0 c4 c11 | exact num_no h0 c7 c11
theorem isNaNS_c (s : List UInt8) (h : R (.bool false) L F) : ACalls Tryz.prog W0 86 #[S s] L F R := by
  refine ACalls.body Tryz.func86 rfl Tryz.ntmps86 rfl ?_
  refine AC.seq (AC.region (AL.go (AO.assign rfl rfl (AL.nil (AK.seqN (AC.seq ?_))))))
  refine AC.region (AL.go (AO.move rfl rfl (AL.go (AO.move rfl rfl ?_))))
  refine AL.go (AO.neqS rfl rfl rfl (fun c5 => ?_) (fun c5 => ?_))
  · refine AL.go (AO.assign rfl rfl (AL.nil (AK.seqN (AC.ret ?_))))
    first | exact AK.ret Tryz.results86 rfl (Sub.refl _ _) h | exact absurd rfl c5
  · refine AL.go (AO.assign rfl rfl (AL.nil (AK.seqN (AC.ret ?_))))
    first | exact AK.ret Tryz.results86 rfl (Sub.refl _ _) h | exact absurd rfl c5
theorem cmpS_c (a b : List UInt8) (h : R (.int .i64 (cmpS a b)) L F) : ACalls Tryz.prog W0 69 #[S a, S b] L F R := by
  refine ACalls.body Tryz.func69 rfl Tryz.ntmps69 rfl ?_
  refine AC.seq (AC.region (AL.go (AO.assign rfl rfl (AL.nil (AK.seqN (AC.seq ?_))))))
  refine AC.region (AL.go (AO.move rfl rfl ?_))
  refine AL.go (AO.call rfl rfl (isNaNS_c _ ?_))
  refine AL.go (AO.assign rfl rfl (AL.nil (AK.seqN (AC.seq (AC.region (AL.go (AO.move rfl rfl ?_)))))))
  refine AL.go (AO.call rfl rfl (isNaNS_c _ ?_))
  refine AL.go (AO.assign rfl rfl (AL.nil (AK.seqN (AC.seq (AC.seq (AC.region ?_))))))
  refine AL.go (AO.move rfl rfl (AL.nil (AK.seqN (AC.condF rfl (AC.skip (AK.seqN ?_))))))
  refine AC.seq (AC.seq (AC.region (AL.go (AO.move rfl rfl (AL.nil (AK.seqN ?_))))))
  refine AC.condF rfl (AC.skip (AK.seqN (AC.seq (AC.seq (AC.region ?_)))))
  refine AL.go (AO.move rfl rfl (AL.go (AO.move rfl rfl ?_)))
  refine AL.go (AO.lssS rfl rfl rfl (fun c16 => ?_) (fun c16 => ?_))
  · refine AL.nil (AK.seqN (AC.condT rfl (AC.seq (AC.region (AL.go (AO.assign rfl rfl ?_))))))
    refine AL.nil (AK.seqN (AC.ret (AK.seqR ?_)))
    refine AK.ret Tryz.results69 rfl (Sub.refl _ _) ?_
    first | exact cmpS_lt c16 ▸ h | exact cmpS_gt c19 ▸ h | exact cmpS_eq c16 c19 ▸ h
  · refine AL.nil (AK.seqN (AC.condF rfl (AC.skip (AK.seqN (AC.seq ?_)))))
    refine AC.seq (AC.region (AL.go (AO.move rfl rfl (AL.go (AO.move rfl rfl ?_)))))
    refine AL.go (AO.gtrS rfl rfl rfl (fun c19 => ?_) (fun c19 => ?_))
    · refine AL.nil (AK.seqN (AC.condT rfl (AC.seq (AC.region (AL.go (AO.assign rfl rfl ?_))))))
      refine AL.nil (AK.seqN (AC.ret (AK.seqR ?_)))
      refine AK.ret Tryz.results69 rfl (Sub.refl _ _) ?_
      first | exact cmpS_lt c16 ▸ h | exact cmpS_gt c19 ▸ h | exact cmpS_eq c16 c19 ▸ h
    · refine AL.nil (AK.seqN (AC.condF rfl (AC.skip (AK.seqN (AC.seq ?_)))))
      refine AC.region (AL.go (AO.assign rfl rfl (AL.nil (AK.seqN (AC.ret ?_)))))
      refine AK.ret Tryz.results69 rfl (Sub.refl _ _) ?_
      first | exact cmpS_lt c16 ▸ h | exact cmpS_gt c19 ▸ h | exact cmpS_eq c16 c19 ▸ h
theorem cmpI_c (a b : Int) (h : R (.int .i64 (Lib.compareInt a b)) L F) : ACalls Tryz.prog W0 28 #[.int .i64 a, .int .i64 b] L F R :=
  ACalls.lib0 (fun w _ => Tryz.cmp_Compare_int a b w) h
theorem first_c (l : List Int) {a : Option Addr} {k c : Nat} (m1 : Fact.slc (.slice a k c) 1 (l.map eI) ∈ F) (h : R (.int .i64 (firstI l)) L F) : ACalls Tryz.prog W0 51 #[.slice a k c] L F R := by
  refine ACalls.body Tryz.func51 rfl Tryz.ntmps51 rfl ?_
  refine AC.seq (AC.region (AL.go (AO.assign rfl rfl (AL.nil (AK.seqN (AC.seq ?_))))))
  refine AC.region (AL.go (AO.assign rfl rfl (AL.nil (AK.seqN (AC.seq (AC.seq ?_))))))
  refine AC.region (AL.go (AO.move rfl rfl ?_))
  refine AL.go (AO.len rfl rfl (fun hl7 => ?_) (hm := by repeat (first | exact mem0 | assumption | refine memS ?_)))
  refine AL.go (AO.move rfl rfl (AL.nil (AK.seqN (AC.block ?_))))
  refine AC.loop (fun q => q ≤ l.length ∧ l.take q = List.replicate q 0) (fun q => [(3, .int .i64 0), (6, .slice a k c), (7, .int .i64 l.length), (8, .int .i64 (q : Int))]) (fun _ => L) (fun _ => F) (fun q => l.length - q) 0 ⟨by omega, by simp⟩ (by repeat (first | exact SubR.nil | refine SubR.cons rfl ?_)) (Sub.refl _ _) ?_
  rintro q ⟨hq, hok⟩
  refine AC.seq (AC.region ?_)
  refine AL.go (AO.lss rfl rfl rfl (fun c9 => ?_) (fun c9 => ?_))
  · refine AL.nil (AK.seqN (AC.seq (AC.condT rfl (AC.skip (AK.seqN ?_)))))
    refine AC.seq (AC.block (AC.seq (AC.region ?_)))
    refine AL.go (AO.indexAddr rfl rfl rfl rfl (by repeat (first | exact mem0 | assumption | refine memS ?_)) (by first | omega | (simp; omega)) (fun _ _ => ?_))
    refine AL.go (AO.loadF rfl rfl ?_)
    intros
    refine AL.go (AO.assign rfl rfl (AL.nil (AK.seqN (AC.seq (AC.region (AL.go (AO.move rfl rfl ?_)))))))
    refine AL.go (AO.move rfl rfl ?_)
    refine AL.go (AO.neq rfl rfl rfl (fun c14 => ?_) (fun c14 => ?_))
    · refine AL.nil (AK.seqN (AC.condT rfl (AC.seq (AC.region (AL.go (AO.move rfl rfl ?_))))))
      refine AL.go (AO.assign rfl rfl (AL.nil (AK.seqN (AC.ret (AK.blkR (AK.seqR ?_))))))
      refine AK.seqR (AK.blkR (AK.seqR ?_))
      first | exact AK.ret Tryz.results51 rfl (by repeat (first | exact Sub.refl _ _ | refine Sub.trans Sub.drop ?_ | refine Sub.trans Sub.dropF ?_)) (first_some (by omega) hok c14 ▸ h) | refine AK.ret Tryz.results51 rfl (by repeat (first | exact Sub.refl _ _ | refine Sub.trans Sub.drop ?_ | refine Sub.trans Sub.dropF ?_)) ?_
      first | done | (rw [first_none (by rw [List.take_of_length_le (by omega)] at hok; rw [hok]; simp)] at h; exact h)
    · refine AL.nil (AK.seqN (AC.condF rfl (AC.skip (AK.blkN (AK.seqN ?_)))))
      refine AC.region (AL.go (AO.add rfl rfl rfl (by omega) (by omega) (AL.go (AO.move rfl rfl (AL.nil ?_)))))
      refine AK.next (q + 1) ⟨by omega, zero_step (by omega) hok c14⟩ (by omega) (by repeat (first | exact SubR.nil | refine SubR.cons rfl ?_)) (by repeat (first | exact Sub.refl _ _ | refine Sub.trans Sub.dropF ?_))
  · refine AL.nil (AK.seqN (AC.seq (AC.condF rfl (AC.exit (AK.seqX ?_)))))
    refine AK.seqX (AK.blkX (AK.seqN (AC.seq (AC.region (AL.go (AO.move rfl rfl ?_))))))
    refine AL.go (AO.assign rfl rfl (AL.nil (AK.seqN (AC.ret ?_))))
    first | exact AK.ret Tryz.results51 rfl (by repeat (first | exact Sub.refl _ _ | refine Sub.trans Sub.drop ?_ | refine Sub.trans Sub.dropF ?_)) (first_some (by omega) hok c14 ▸ h) | refine AK.ret Tryz.results51 rfl (by repeat (first | exact Sub.refl _ _ | refine Sub.trans Sub.drop ?_ | refine Sub.trans Sub.dropF ?_)) ?_
    first | done | (rw [first_none (by rw [List.take_of_length_le (by omega)] at hok; rw [hok]; simp)] at h; exact h)
theorem lower_c (s t : List UInt8) (h : R (.int .i64 (lowerS s t)) L F) : ACalls Tryz.prog W0 63 #[S s, S t] L F R := by
  refine ACalls.body Tryz.func63 rfl Tryz.ntmps63 rfl ?_
  refine AC.seq (AC.region (AL.go (AO.assign rfl rfl (AL.nil (AK.seqN (AC.seq ?_))))))
  refine AC.region (AL.go (AO.move rfl rfl (AL.go (AO.lenS rfl rfl (AL.go (AO.move rfl rfl (AL.go (AO.lenS rfl rfl ?_))))))))
  refine AL.go (AO.call rfl rfl (cmpI_c _ _ ?_))
  refine AL.go (AO.move rfl rfl (AL.go (AO.move rfl rfl ?_)))
  refine AL.go (AO.call rfl rfl (cmpS_c _ _ ?_))
  refine AL.go (AO.buildSlice rfl rfl rfl rfl rfl (fun b13 => ?_))
  refine AL.go (AO.call rfl rfl (ACalls.weak (Sub.lit (i := 0) (k := 2) (enc := eI) [_, _] rfl (.val (.val .nil)) (fun _ => rfl) rfl (by decide)) (first_c _ mem0 ?_)))
  refine AL.go (AO.assign rfl rfl (AL.nil (AK.seqN (AC.ret ?_))))
  exact AK.ret Tryz.results63 rfl (by repeat (first | exact Sub.refl _ _ | refine Sub.trans Sub.drop ?_ | refine Sub.trans Sub.dropF ?_)) h
theorem fits_c (s : List UInt8) (hT : fitsS s = true → R (.bool true) L F) (hF : fitsS s = false → R (.bool false) L F) : ACalls Tryz.prog W0 45 #[S s] L F R := by
  refine ACalls.body Tryz.func45 rfl Tryz.ntmps45 rfl ?_
  refine AC.seq (AC.region (AL.go (AO.assign rfl rfl (AL.nil (AK.seqN (AC.seq ?_))))))
  refine AC.region (AL.go (AO.move rfl rfl ?_))
  refine AL.go (AO.call rfl rfl (lower_c _ _ ?_))
  refine AL.go (AO.leq rfl rfl rfl (fun c5 => ?_) (fun c5 => ?_))
  · refine AL.go (AO.assign rfl rfl (AL.nil (AK.seqN (AC.ret ?_))))
    first | exact AK.ret Tryz.results45 rfl (Sub.refl _ _) (hT (decide_eq_true c5)) | exact AK.ret Tryz.results45 rfl (Sub.refl _ _) (hF (decide_eq_false (by unfold greatest; omega)))
  · refine AL.go (AO.assign rfl rfl (AL.nil (AK.seqN (AC.ret ?_))))
    first | exact AK.ret Tryz.results45 rfl (Sub.refl _ _) (hT (decide_eq_true c5)) | exact AK.ret Tryz.results45 rfl (Sub.refl _ _) (hF (decide_eq_false (by unfold greatest; omega)))
/-- What a function value tells of a text. -/
def TellsS (P : Program) (W0 : World) (L : List Res) (F : List Fact) (g : FuncId) (cs : List Value) (p : List UInt8 → Bool) : Prop :=
  ∀ (s : List UInt8) (_ : s.length < 4294967281) (F' : List Fact) (_ : ∀ f ∈ F, f ∈ F') (R : Value → List Res → List Fact → Prop), (p s = true → R (.bool true) L F') → (p s = false → R (.bool false) L F') → ACalls P W0 g ([S s] ++ cs).toArray L F' R
theorem indexFunc_c (l : List (List UInt8)) (hl : ∀ s ∈ l, s.length < 4294967281) {a : Option Addr} {k c : Nat} (m1 : fS l a k c ∈ F) (g : FuncId) [FnT Tryz.prog g] (cs : List Value) (p : List UInt8 → Bool) (hg : TellsS Tryz.prog W0 L F g cs p)
    (hT : ∀ i : Nat, l.any p = true → R (.int .i64 i) L F) (hF : l.any p = false → R (.int .i64 (-1)) L F) : ACalls Tryz.prog W0 60 #[.slice a k c, .func (.func g) #[] cs.toArray] L F R := by
  refine ACalls.body Tryz.func60 rfl Tryz.ntmps60 rfl ?_
  refine AC.seq (AC.region (AL.go (AO.assign rfl rfl (AL.nil (AK.seqN (AC.seq ?_))))))
  refine AC.seq (AC.region (AL.go (AO.move rfl rfl ?_)))
  refine AL.go (AO.len rfl rfl (fun hl7 => ?_) (hm := by repeat (first | exact mem0 | assumption | refine memS ?_)))
  refine AL.go (AO.move rfl rfl (AL.nil (AK.seqN (AC.block ?_))))
  refine AC.loop (fun q => q ≤ l.length ∧ ∀ j (hj : j < l.length), j < q → p l[j] = false) (fun q => [(0, .slice a k c), (1, .func (.func g) #[] cs.toArray), (7, .int .i64 l.length), (8, .int .i64 (q : Int))]) (fun _ => L) (fun _ => F) (fun q => l.length - q) 0 ⟨by omega, by omega⟩ (by repeat (first | exact SubR.nil | refine SubR.cons rfl ?_)) (Sub.refl _ _) ?_
  rintro q ⟨hq, hok⟩
  refine AC.seq (AC.region ?_)
  refine AL.go (AO.lss rfl rfl rfl (fun c9 => ?_) (fun c9 => ?_))
  · refine AL.nil (AK.seqN (AC.seq (AC.condT rfl (AC.skip (AK.seqN ?_)))))
    refine AC.seq (AC.block (AC.seq (AC.region (AL.go (AO.move rfl rfl (AL.go (AO.assign rfl rfl ?_)))))))
    refine AL.nil (AK.seqN (AC.seq (AC.region (AL.go (AO.move rfl rfl (AL.go (AO.move rfl rfl ?_)))))))
    refine AL.go (AO.move rfl rfl ?_)
    refine AL.go (AO.indexAddr rfl rfl rfl rfl (by repeat (first | exact mem0 | assumption | refine memS ?_)) (by first | omega | (simp; omega)) (fun _ _ => ?_))
    refine AL.go (AO.loadF rfl rfl ?_)
    intros
    refine AL.go (AO.callC (cs := cs) rfl rfl rfl (hg _ (hl _ (List.getElem_mem _)) _ (by intro f hf; repeat (first | exact hf | refine List.mem_cons_of_mem _ ?_)) _ (fun c16 => ?_) (fun c16 => ?_)))
    · refine AL.nil (AK.seqN (AC.condT rfl (AC.seq (AC.region (AL.go (AO.move rfl rfl ?_))))))
      refine AL.go (AO.assign rfl rfl (AL.nil (AK.seqN (AC.ret (AK.blkR (AK.seqR ?_))))))
      refine AK.seqR (AK.blkR (AK.seqR ?_))
      first | exact AK.ret Tryz.results60 rfl (by repeat (first | exact Sub.refl _ _ | refine Sub.trans Sub.drop ?_ | refine Sub.trans Sub.dropF ?_)) (hF (List.any_eq_false.2 (fun x hx => by obtain ⟨j, hj, rfl⟩ := List.getElem_of_mem hx; simp [hok j hj (by omega)]))) | exact AK.ret Tryz.results60 rfl (by repeat (first | exact Sub.refl _ _ | refine Sub.trans Sub.drop ?_ | refine Sub.trans Sub.dropF ?_)) (hT _ (List.any_eq_true.2 ⟨_, List.getElem_mem _, c16⟩))
    · refine AL.nil (AK.seqN (AC.condF rfl (AC.skip (AK.blkN (AK.seqN ?_)))))
      refine AC.region (AL.go (AO.add rfl rfl rfl (by omega) (by omega) (AL.go (AO.move rfl rfl (AL.nil ?_)))))
      refine AK.next (q + 1) ⟨by omega, ?_⟩ (by omega) (by repeat (first | exact SubR.nil | refine SubR.cons rfl ?_)) (by repeat (first | exact Sub.refl _ _ | refine Sub.trans Sub.dropF ?_))
      intro j hj hjk
      rcases Nat.lt_succ_iff_lt_or_eq.1 hjk with h | rfl
      · exact hok j hj h
      · assumption
  · refine AL.nil (AK.seqN (AC.seq (AC.condF rfl (AC.exit (AK.seqX ?_)))))
    refine AK.seqX (AK.blkX (AK.seqN (AC.seq (AC.region (AL.go (AO.assign rfl rfl ?_))))))
    refine AL.nil (AK.seqN (AC.ret ?_))
    first | exact AK.ret Tryz.results60 rfl (by repeat (first | exact Sub.refl _ _ | refine Sub.trans Sub.drop ?_ | refine Sub.trans Sub.dropF ?_)) (hF (List.any_eq_false.2 (fun x hx => by obtain ⟨j, hj, rfl⟩ := List.getElem_of_mem hx; simp [hok j hj (by omega)]))) | exact AK.ret Tryz.results60 rfl (by repeat (first | exact Sub.refl _ _ | refine Sub.trans Sub.drop ?_ | refine Sub.trans Sub.dropF ?_)) (hT _ (List.any_eq_true.2 ⟨_, List.getElem_mem _, c16⟩))
theorem containsFunc_c (l : List (List UInt8)) (hl : ∀ s ∈ l, s.length < 4294967281) {a : Option Addr} {k c : Nat} (m1 : fS l a k c ∈ F) (g : FuncId) [FnT Tryz.prog g] (cs : List Value) (p : List UInt8 → Bool) (hg : TellsS Tryz.prog W0 L F g cs p)
    (hT : l.any p = true → R (.bool true) L F) (hF : l.any p = false → R (.bool false) L F) : ACalls Tryz.prog W0 39 #[.slice a k c, .func (.func g) #[] cs.toArray] L F R := by
  refine ACalls.body Tryz.func39 rfl Tryz.ntmps39 rfl ?_
  refine AC.seq (AC.region (AL.go (AO.assign rfl rfl (AL.nil (AK.seqN (AC.seq ?_))))))
  refine AC.region (AL.go (AO.move rfl rfl (AL.go (AO.move rfl rfl ?_))))
  refine AL.go (AO.call rfl rfl (indexFunc_c l hl m1 g cs p hg (fun i c7 => ?_) (fun c7 => ?_)))
  · refine AL.go (AO.geq rfl rfl rfl (fun c8 => ?_) (fun c8 => ?_))
    · refine AL.go (AO.assign rfl rfl (AL.nil (AK.seqN (AC.ret ?_))))
      first | exact AK.ret Tryz.results39 rfl (Sub.refl _ _) (hT c7) | exact AK.ret Tryz.results39 rfl (Sub.refl _ _) (hF c7) | (exfalso; omega)
    · refine AL.go (AO.assign rfl rfl (AL.nil (AK.seqN (AC.ret ?_))))
      first | exact AK.ret Tryz.results39 rfl (Sub.refl _ _) (hT c7) | exact AK.ret Tryz.results39 rfl (Sub.refl _ _) (hF c7) | (exfalso; omega)
  · refine AL.go (AO.geq rfl rfl rfl (fun c8 => ?_) (fun c8 => ?_))
    · refine AL.go (AO.assign rfl rfl (AL.nil (AK.seqN (AC.ret ?_))))
      first | exact AK.ret Tryz.results39 rfl (Sub.refl _ _) (hT c7) | exact AK.ret Tryz.results39 rfl (Sub.refl _ _) (hF c7) | (exfalso; omega)
    · refine AL.go (AO.assign rfl rfl (AL.nil (AK.seqN (AC.ret ?_))))
      first | exact AK.ret Tryz.results39 rfl (Sub.refl _ _) (hT c7) | exact AK.ret Tryz.results39 rfl (Sub.refl _ _) (hF c7) | (exfalso; omega)
end
end Go.Sy
