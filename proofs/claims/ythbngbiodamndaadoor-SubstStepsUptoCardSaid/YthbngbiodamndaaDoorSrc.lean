/- Layer 4's texts: letters and names, of the program and of the reference. -/
import Derived.Test.YthbngbiodamndaaDoorFacts
namespace Go.Sy
open Go Go.Proofs

def letter (c : UInt8) : Bool := (97 ≤ c.toNat && c.toNat ≤ 122) || (65 ≤ c.toNat && c.toNat ≤ 90) || c.toNat == 95
def nameC (c : UInt8) : Bool := letter c || (48 ≤ c.toNat && c.toNat ≤ 57)
def isName (s : List UInt8) : Bool := !s.isEmpty && s.length ≤ 20 && letter (s.headD 0) && s.all nameC

theorem isName_no {s : List UInt8} {j : Nat} (h : j < s.length) (hl : nameC s[j] = false) : isName s = false := by
  have : s.all nameC = false := by
    rw [List.all_eq_false]; exact ⟨s[j], List.getElem_mem h, by simp [hl]⟩
  simp [isName, this]
theorem isName_yes {s : List UInt8} (h0 : s ≠ []) (h1 : s.length ≤ 20) (h2 : letter (s.headD 0) = true) (h : ∀ j (hj : j < s.length), nameC s[j] = true) : isName s = true := by
  have : s.all nameC = true := by
    rw [List.all_eq_true]; intro c hc
    obtain ⟨j, hj, rfl⟩ := List.getElem_of_mem hc
    exact h j hj
  unfold isName
  rw [this, h2]
  simp [h0, h1]

attribute [local irreducible] AC AT AO AK AH ACalls Sub Res.cells Res.obj Res.nix Res.own Exit.then Exit.inBlock bodyPost Code.wp Next Post Kont
section
variable {W0 : World} {L : List Res} {F : List Fact} {R : Value → List Res → List Fact → Prop}
set_option maxRecDepth 100000
theorem src_Letter_c (c : UInt8) (hT : letter c = true → R (.bool true) L F) (hF : letter c = false → R (.bool false) L F) : ACalls Tryd.prog W0 77 #[.int .u8 c.toNat] L F R := by
  refine ACalls.body Tryd.func77 rfl Tryd.ntmps77 rfl ?_
  refine AC.seq (AC.region (AL.go (AO.assign rfl rfl (AL.nil (AK.seqN (AC.seq ?_))))))
  refine AC.region (AL.go (AO.move rfl rfl ?_))
  refine AL.go (AO.geq rfl rfl rfl (fun c4 => ?_) (fun c4 => ?_))
  · refine AL.go (AO.move rfl rfl (AL.yes rfl rfl (AO.move rfl rfl ?_)))
    refine AL.yes rfl rfl (AO.leq rfl rfl rfl (fun c7 => ?_) (fun c7 => ?_))
    · refine AL.go (AO.pickT rfl rfl rfl (AL.go (AO.move rfl rfl (AL.no rfl rfl rfl rfl (AL.no rfl rfl rfl rfl (AL.no rfl rfl rfl rfl (AL.no rfl rfl rfl rfl ?_)))))))
      refine AL.no rfl rfl rfl rfl (AL.no rfl rfl rfl rfl (AL.go (AO.pickT rfl rfl rfl (AL.go (AO.move rfl rfl (AL.no rfl rfl rfl rfl (AL.no rfl rfl rfl rfl ?_)))))))
      refine AL.go (AO.pickT rfl rfl rfl (AL.go (AO.assign rfl rfl (AL.nil (AK.seqN (AC.ret ?_))))))
      first | refine AK.ret Tryd.results77 rfl (Sub.refl _ _) (hT ?_) | refine AK.ret Tryd.results77 rfl (Sub.refl _ _) (hF ?_)
      simp [letter]; omega
    · refine AL.go (AO.pickT rfl rfl rfl (AL.go (AO.move rfl rfl (AL.yes rfl rfl (AO.move rfl rfl ?_)))))
      refine AL.yes rfl rfl (AO.geq rfl rfl rfl (fun c11 => ?_) (fun c11 => ?_))
      · refine AL.yes rfl rfl (AO.move rfl rfl (AL.yes rfl rfl (AO.move rfl rfl ?_)))
        refine AL.yes rfl rfl (AO.leq rfl rfl rfl (fun c14 => ?_) (fun c14 => ?_))
        · refine AL.yes rfl rfl (AO.pickT rfl rfl rfl (AL.go (AO.pickF rfl rfl rfl (AL.go (AO.move rfl rfl (AL.no rfl rfl rfl rfl (AL.no rfl rfl rfl rfl (AL.go (AO.pickT rfl rfl rfl ?_)))))))))
          refine AL.go (AO.assign rfl rfl (AL.nil (AK.seqN (AC.ret ?_))))
          first | refine AK.ret Tryd.results77 rfl (Sub.refl _ _) (hT ?_) | refine AK.ret Tryd.results77 rfl (Sub.refl _ _) (hF ?_)
          simp [letter]; omega
        · refine AL.yes rfl rfl (AO.pickT rfl rfl rfl (AL.go (AO.pickF rfl rfl rfl (AL.go (AO.move rfl rfl (AL.yes rfl rfl (AO.move rfl rfl ?_)))))))
          refine AL.yes rfl rfl (AO.eql rfl rfl rfl (fun c19 => ?_) (fun c19 => ?_))
          · refine AL.go (AO.pickF rfl rfl rfl (AL.go (AO.assign rfl rfl (AL.nil (AK.seqN (AC.ret ?_))))))
            first | refine AK.ret Tryd.results77 rfl (Sub.refl _ _) (hT ?_) | refine AK.ret Tryd.results77 rfl (Sub.refl _ _) (hF ?_)
            simp [letter]; omega
          · refine AL.go (AO.pickF rfl rfl rfl (AL.go (AO.assign rfl rfl (AL.nil (AK.seqN (AC.ret ?_))))))
            first | refine AK.ret Tryd.results77 rfl (Sub.refl _ _) (hT ?_) | refine AK.ret Tryd.results77 rfl (Sub.refl _ _) (hF ?_)
            simp [letter]; omega
      · refine AL.yes rfl rfl (AO.move rfl rfl (AL.no rfl rfl rfl rfl (AL.no rfl rfl rfl rfl (AL.yes rfl rfl (AO.pickF rfl rfl rfl (AL.go (AO.pickF rfl rfl rfl (AL.go (AO.move rfl rfl ?_)))))))))
        refine AL.yes rfl rfl (AO.move rfl rfl ?_)
        refine AL.yes rfl rfl (AO.eql rfl rfl rfl (fun c19 => ?_) (fun c19 => ?_))
        · refine AL.go (AO.pickF rfl rfl rfl (AL.go (AO.assign rfl rfl (AL.nil (AK.seqN (AC.ret ?_))))))
          first | refine AK.ret Tryd.results77 rfl (Sub.refl _ _) (hT ?_) | refine AK.ret Tryd.results77 rfl (Sub.refl _ _) (hF ?_)
          simp [letter]; omega
        · refine AL.go (AO.pickF rfl rfl rfl (AL.go (AO.assign rfl rfl (AL.nil (AK.seqN (AC.ret ?_))))))
          first | refine AK.ret Tryd.results77 rfl (Sub.refl _ _) (hT ?_) | refine AK.ret Tryd.results77 rfl (Sub.refl _ _) (hF ?_)
          simp [letter]; omega
  · refine AL.go (AO.move rfl rfl (AL.no rfl rfl rfl rfl (AL.no rfl rfl rfl rfl (AL.go (AO.pickF rfl rfl rfl (AL.go (AO.move rfl rfl (AL.yes rfl rfl (AO.move rfl rfl ?_)))))))))
    refine AL.yes rfl rfl (AO.geq rfl rfl rfl (fun c11 => ?_) (fun c11 => ?_))
    · refine AL.yes rfl rfl (AO.move rfl rfl (AL.yes rfl rfl (AO.move rfl rfl ?_)))
      refine AL.yes rfl rfl (AO.leq rfl rfl rfl (fun c14 => ?_) (fun c14 => ?_))
      · refine AL.yes rfl rfl (AO.pickT rfl rfl rfl (AL.go (AO.pickF rfl rfl rfl (AL.go (AO.move rfl rfl (AL.no rfl rfl rfl rfl (AL.no rfl rfl rfl rfl (AL.go (AO.pickT rfl rfl rfl ?_)))))))))
        refine AL.go (AO.assign rfl rfl (AL.nil (AK.seqN (AC.ret ?_))))
        first | refine AK.ret Tryd.results77 rfl (Sub.refl _ _) (hT ?_) | refine AK.ret Tryd.results77 rfl (Sub.refl _ _) (hF ?_)
        simp [letter]; omega
      · refine AL.yes rfl rfl (AO.pickT rfl rfl rfl (AL.go (AO.pickF rfl rfl rfl (AL.go (AO.move rfl rfl (AL.yes rfl rfl (AO.move rfl rfl ?_)))))))
        refine AL.yes rfl rfl (AO.eql rfl rfl rfl (fun c19 => ?_) (fun c19 => ?_))
        · refine AL.go (AO.pickF rfl rfl rfl (AL.go (AO.assign rfl rfl (AL.nil (AK.seqN (AC.ret ?_))))))
          first | refine AK.ret Tryd.results77 rfl (Sub.refl _ _) (hT ?_) | refine AK.ret Tryd.results77 rfl (Sub.refl _ _) (hF ?_)
          simp [letter]; omega
        · refine AL.go (AO.pickF rfl rfl rfl (AL.go (AO.assign rfl rfl (AL.nil (AK.seqN (AC.ret ?_))))))
          first | refine AK.ret Tryd.results77 rfl (Sub.refl _ _) (hT ?_) | refine AK.ret Tryd.results77 rfl (Sub.refl _ _) (hF ?_)
          simp [letter]; omega
    · refine AL.yes rfl rfl (AO.move rfl rfl (AL.no rfl rfl rfl rfl (AL.no rfl rfl rfl rfl (AL.yes rfl rfl (AO.pickF rfl rfl rfl (AL.go (AO.pickF rfl rfl rfl (AL.go (AO.move rfl rfl ?_)))))))))
      refine AL.yes rfl rfl (AO.move rfl rfl ?_)
      refine AL.yes rfl rfl (AO.eql rfl rfl rfl (fun c19 => ?_) (fun c19 => ?_))
      · refine AL.go (AO.pickF rfl rfl rfl (AL.go (AO.assign rfl rfl (AL.nil (AK.seqN (AC.ret ?_))))))
        first | refine AK.ret Tryd.results77 rfl (Sub.refl _ _) (hT ?_) | refine AK.ret Tryd.results77 rfl (Sub.refl _ _) (hF ?_)
        simp [letter]; omega
      · refine AL.go (AO.pickF rfl rfl rfl (AL.go (AO.assign rfl rfl (AL.nil (AK.seqN (AC.ret ?_))))))
        first | refine AK.ret Tryd.results77 rfl (Sub.refl _ _) (hT ?_) | refine AK.ret Tryd.results77 rfl (Sub.refl _ _) (hF ?_)
        simp [letter]; omega

theorem src_Name_c (s : List UInt8) (hT : isName s = true → R (.bool true) L F) (hF : isName s = false → R (.bool false) L F) : ACalls Tryd.prog W0 64 #[S s] L F R := by
  refine ACalls.body Tryd.func64 rfl Tryd.ntmps64 rfl ?_
  refine AC.seq (AC.region (AL.go (AO.assign rfl rfl (AL.nil (AK.seqN (AC.seq ?_))))))
  refine AC.seq (AC.region (AL.go (AO.move rfl rfl ?_)))
  refine AL.go (AO.eqlS rfl rfl rfl (fun c5 => ?_) (fun c5 => ?_))
  · refine AL.go (AO.move rfl rfl (AL.no rfl rfl rfl rfl (AL.no rfl rfl rfl rfl (AL.no rfl rfl rfl rfl (AL.go (AO.pickT rfl rfl rfl (AL.go (AO.move rfl rfl ?_))))))))
    refine AL.no rfl rfl rfl rfl (AL.no rfl rfl rfl rfl (AL.no rfl rfl rfl rfl (AL.no rfl rfl rfl rfl (AL.go (AO.pickT rfl rfl rfl (AL.nil ?_))))))
    refine AK.seqN (AC.condT rfl (AC.seq (AC.region (AL.go (AO.assign rfl rfl (AL.nil ?_))))))
    refine AK.seqN (AC.ret (AK.seqR ?_))
    first | refine AK.ret Tryd.results64 rfl (Sub.refl _ _) (hT ?_) | refine AK.ret Tryd.results64 rfl (Sub.refl _ _) (hF ?_)
    first | (simp [isName, *]; done) | (unfold isName; simp; omega) | exact isName_yes c5 (by omega) (by cases s <;> simp_all) (fun j hj => hok j hj (by omega)) | exact isName_no (j := k) (by omega) (by simp only [nameC, Bool.or_eq_false_iff, Bool.and_eq_false_iff, decide_eq_false_iff_not]; exact ⟨‹_›, by omega⟩) | (cases s <;> simp_all [isName])
  · refine AL.go (AO.move rfl rfl (AL.yes rfl rfl (AO.move rfl rfl (AL.yes rfl rfl (AO.lenS rfl rfl ?_)))))
    refine AL.yes rfl rfl (AO.gtr rfl rfl rfl (fun c9 => ?_) (fun c9 => ?_))
    · refine AL.go (AO.pickF rfl rfl rfl (AL.go (AO.move rfl rfl (AL.no rfl rfl rfl rfl (AL.no rfl rfl rfl rfl (AL.no rfl rfl rfl rfl (AL.no rfl rfl rfl rfl ?_)))))))
      refine AL.go (AO.pickT rfl rfl rfl (AL.nil (AK.seqN (AC.condT rfl (AC.seq (AC.region ?_))))))
      refine AL.go (AO.assign rfl rfl (AL.nil (AK.seqN (AC.ret (AK.seqR ?_)))))
      first | refine AK.ret Tryd.results64 rfl (Sub.refl _ _) (hT ?_) | refine AK.ret Tryd.results64 rfl (Sub.refl _ _) (hF ?_)
      first | (simp [isName, *]; done) | (unfold isName; simp; omega) | exact isName_yes c5 (by omega) (by cases s <;> simp_all) (fun j hj => hok j hj (by omega)) | exact isName_no (j := k) (by omega) (by simp only [nameC, Bool.or_eq_false_iff, Bool.and_eq_false_iff, decide_eq_false_iff_not]; exact ⟨‹_›, by omega⟩) | (cases s <;> simp_all [isName])
    · refine AL.go (AO.pickF rfl rfl rfl (AL.go (AO.move rfl rfl (AL.yes rfl rfl (AO.move rfl rfl ?_)))))
      have h0 : 0 < s.length := List.length_pos_iff.2 c5
      refine AL.yes rfl rfl (AO.indexS rfl rfl rfl rfl h0 ?_)
      refine AL.yes rfl rfl (AO.call rfl rfl (src_Letter_c _ (fun c14 => ?_) (fun c14 => ?_)))
      · refine AL.yes rfl rfl (AO.not rfl rfl (AL.go (AO.pickF rfl rfl rfl (AL.nil (AK.seqN (AC.condF rfl (AC.skip ?_)))))))
        refine AK.seqN (AC.seq (AC.seq (AC.region (AL.go (AO.move rfl rfl (AL.go (AO.lenS rfl rfl ?_)))))))
        refine AL.go (AO.move rfl rfl (AL.nil (AK.seqN (AC.block ?_))))
        refine AC.loop (fun k => k ≤ s.length ∧ ∀ j (hj : j < s.length), j < k → nameC s[j] = true) (fun k => [(0, S s), (18, .int .i64 s.length), (19, .int .i64 (k : Int))]) (fun _ => L) (fun _ => F) (fun k => s.length - k) 0 ⟨by omega, by omega⟩ (by repeat (first | exact SubR.nil | refine SubR.cons rfl ?_)) (Sub.refl _ _) ?_
        rintro k ⟨hk, hok⟩
        refine AC.seq (AC.region ?_)
        refine AL.go (AO.lss rfl rfl rfl (fun c20 => ?_) (fun c20 => ?_))
        · refine AL.nil (AK.seqN (AC.seq (AC.condT rfl (AC.skip (AK.seqN ?_)))))
          refine AC.seq (AC.block (AC.seq (AC.region (AL.go (AO.move rfl rfl (AL.go (AO.assign rfl rfl ?_)))))))
          refine AL.nil (AK.seqN (AC.seq (AC.region (AL.go (AO.move rfl rfl (AL.go (AO.move rfl rfl ?_)))))))
          refine AL.go (AO.indexS rfl rfl rfl rfl (by omega) ?_)
          refine AL.go (AO.call rfl rfl (src_Letter_c _ (fun c25 => ?_) (fun c25 => ?_)))
          · refine AL.go (AO.not rfl rfl (AL.go (AO.move rfl rfl (AL.no rfl rfl rfl rfl (AL.no rfl rfl rfl rfl (AL.no rfl rfl rfl rfl (AL.no rfl rfl rfl rfl ?_)))))))
            refine AL.no rfl rfl rfl rfl (AL.no rfl rfl rfl rfl (AL.no rfl rfl rfl rfl (AL.no rfl rfl rfl rfl (AL.no rfl rfl rfl rfl (AL.no rfl rfl rfl rfl ?_)))))
            refine AL.go (AO.pickF rfl rfl rfl (AL.nil (AK.seqN (AC.condF rfl (AC.skip (AK.blkN ?_))))))
            refine AK.seqN (AC.region (AL.go (AO.add rfl rfl rfl (by omega) (by omega) (AL.go (AO.move rfl rfl (AL.nil ?_))))))
            refine AK.next (k + 1) ⟨by omega, ?_⟩ (by omega) (by repeat (first | exact SubR.nil | refine SubR.cons rfl ?_)) (Sub.refl _ _)
            intro j hj hjk
            rcases Nat.lt_succ_iff_lt_or_eq.1 hjk with h | rfl
            · exact hok j hj h
            · simp only [nameC, Bool.or_eq_true, Bool.and_eq_true, decide_eq_true_eq]
              first | exact .inl ‹_› | (right; omega)
          · refine AL.go (AO.not rfl rfl (AL.go (AO.move rfl rfl (AL.yes rfl rfl (AO.move rfl rfl (AL.yes rfl rfl (AO.move rfl rfl (AL.yes rfl rfl (AO.indexS rfl rfl rfl rfl (by omega) ?_)))))))))
            refine AL.yes rfl rfl (AO.lss rfl rfl rfl (fun c31 => ?_) (fun c31 => ?_))
            · refine AL.yes rfl rfl (AO.move rfl rfl (AL.no rfl rfl rfl rfl (AL.no rfl rfl rfl rfl (AL.no rfl rfl rfl rfl (AL.no rfl rfl rfl rfl (AL.yes rfl rfl (AO.pickT rfl rfl rfl ?_)))))))
              refine AL.go (AO.pickT rfl rfl rfl (AL.nil (AK.seqN (AC.condT rfl (AC.seq (AC.region ?_))))))
              refine AL.go (AO.assign rfl rfl (AL.nil (AK.seqN (AC.ret (AK.blkR (AK.seqR ?_))))))
              refine AK.seqR (AK.blkR (AK.seqR ?_))
              first | refine AK.ret Tryd.results64 rfl (Sub.refl _ _) (hT ?_) | refine AK.ret Tryd.results64 rfl (Sub.refl _ _) (hF ?_)
              first | (simp [isName, *]; done) | (unfold isName; simp; omega) | exact isName_yes c5 (by omega) (by cases s <;> simp_all) (fun j hj => hok j hj (by omega)) | exact isName_no (j := k) (by omega) (by simp only [nameC, Bool.or_eq_false_iff, Bool.and_eq_false_iff, decide_eq_false_iff_not]; exact ⟨‹_›, by omega⟩) | (cases s <;> simp_all [isName])
            · refine AL.yes rfl rfl (AO.move rfl rfl (AL.yes rfl rfl (AO.move rfl rfl (AL.yes rfl rfl (AO.move rfl rfl (AL.yes rfl rfl (AO.indexS rfl rfl rfl rfl (by omega) ?_)))))))
              refine AL.yes rfl rfl (AO.gtr rfl rfl rfl (fun c36 => ?_) (fun c36 => ?_))
              · refine AL.yes rfl rfl (AO.pickF rfl rfl rfl (AL.go (AO.pickT rfl rfl rfl (AL.nil (AK.seqN (AC.condT rfl (AC.seq ?_)))))))
                refine AC.region (AL.go (AO.assign rfl rfl (AL.nil (AK.seqN (AC.ret (AK.blkR ?_))))))
                refine AK.seqR (AK.seqR (AK.blkR (AK.seqR ?_)))
                first | refine AK.ret Tryd.results64 rfl (Sub.refl _ _) (hT ?_) | refine AK.ret Tryd.results64 rfl (Sub.refl _ _) (hF ?_)
                first | (simp [isName, *]; done) | (unfold isName; simp; omega) | exact isName_yes c5 (by omega) (by cases s <;> simp_all) (fun j hj => hok j hj (by omega)) | exact isName_no (j := k) (by omega) (by simp only [nameC, Bool.or_eq_false_iff, Bool.and_eq_false_iff, decide_eq_false_iff_not]; exact ⟨‹_›, by omega⟩) | (cases s <;> simp_all [isName])
              · refine AL.yes rfl rfl (AO.pickF rfl rfl rfl (AL.go (AO.pickT rfl rfl rfl (AL.nil (AK.seqN (AC.condF rfl (AC.skip ?_)))))))
                refine AK.blkN (AK.seqN (AC.region (AL.go (AO.add rfl rfl rfl (by omega) (by omega) (AL.go (AO.move rfl rfl (AL.nil ?_)))))))
                refine AK.next (k + 1) ⟨by omega, ?_⟩ (by omega) (by repeat (first | exact SubR.nil | refine SubR.cons rfl ?_)) (Sub.refl _ _)
                intro j hj hjk
                rcases Nat.lt_succ_iff_lt_or_eq.1 hjk with h | rfl
                · exact hok j hj h
                · simp only [nameC, Bool.or_eq_true, Bool.and_eq_true, decide_eq_true_eq]
                  first | exact .inl ‹_› | (right; omega)
        · refine AL.nil (AK.seqN (AC.seq (AC.condF rfl (AC.exit (AK.seqX ?_)))))
          refine AK.seqX (AK.blkX (AK.seqN (AC.seq (AC.region (AL.go (AO.assign rfl rfl ?_))))))
          refine AL.nil (AK.seqN (AC.ret ?_))
          first | refine AK.ret Tryd.results64 rfl (Sub.refl _ _) (hT ?_) | refine AK.ret Tryd.results64 rfl (Sub.refl _ _) (hF ?_)
          first | (simp [isName, *]; done) | (unfold isName; simp; omega) | exact isName_yes c5 (by omega) (by cases s <;> simp_all) (fun j hj => hok j hj (by omega)) | exact isName_no (j := k) (by omega) (by simp only [nameC, Bool.or_eq_false_iff, Bool.and_eq_false_iff, decide_eq_false_iff_not]; exact ⟨‹_›, by omega⟩) | (cases s <;> simp_all [isName])
      · refine AL.yes rfl rfl (AO.not rfl rfl (AL.go (AO.pickF rfl rfl rfl (AL.nil (AK.seqN (AC.condT rfl (AC.seq ?_)))))))
        refine AC.region (AL.go (AO.assign rfl rfl (AL.nil (AK.seqN (AC.ret (AK.seqR ?_))))))
        first | refine AK.ret Tryd.results64 rfl (Sub.refl _ _) (hT ?_) | refine AK.ret Tryd.results64 rfl (Sub.refl _ _) (hF ?_)
        first | (simp [isName, *]; done) | (unfold isName; simp; omega) | exact isName_yes c5 (by omega) (by cases s <;> simp_all) (fun j hj => hok j hj (by omega)) | exact isName_no (j := k) (by omega) (by simp only [nameC, Bool.or_eq_false_iff, Bool.and_eq_false_iff, decide_eq_false_iff_not]; exact ⟨‹_›, by omega⟩) | (cases s <;> simp_all [isName])
end
end Go.Sy
