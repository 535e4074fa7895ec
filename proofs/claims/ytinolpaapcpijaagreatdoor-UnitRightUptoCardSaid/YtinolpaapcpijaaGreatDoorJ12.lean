/- Joined of my own texts: TyA, TyB. -/
import Derived.Test.YtinolpaapcpijaaGreatDoorJ11
namespace Go.Sy
open Go Go.Proofs Go.RowKit
theorem field_plus {s : List UInt8} (h0 : 0 < s.length) (h : (s[0].toNat : Int) = 43) : s.drop 1 = fieldN s := by
  cases s with
  | nil => simp at h0
  | cons x r =>
    have : x = 43 := UInt8.toNat_inj.1 (by simp only [List.getElem_cons_zero] at h; have : (43 : UInt8).toNat = 43 := rfl; omega)
    subst this; rfl
theorem field_bare {s : List UInt8} (h : (h0 : 0 < s.length) → (s[0].toNat : Int) ≠ 43) : s = fieldN s := by
  cases s with
  | nil => rfl
  | cons x r =>
    unfold fieldN
    split
    · rename_i e
      have := (List.cons.inj e).1
      subst this
      exact absurd rfl (h (by simp))
    · rfl
theorem name_all {s : List UInt8} (h0 : 0 < s.length) (h1 : s.length ≤ 20) (h : ∀ j (hj : j < s.length), nameC s[j] = true ∧ (j = 0 → letter s[j] = true)) : isName s = true := by
  refine isName_yes (List.length_pos_iff.1 h0) h1 ?_ (fun j hj => (h j hj).1)
  have := (h 0 h0).2 rfl
  cases s with
  | nil => simp at h0
  | cons x r => exact this
theorem name_head {s : List UInt8} {k : Nat} (hk : k < s.length) (h0 : k = 0) (h : letter s[k] = false) : isName s = false := by
  subst h0
  cases s with
  | nil => simp at hk
  | cons x r => simp only [List.getElem_cons_zero] at h; simp [isName, h]
theorem name_long {s : List UInt8} (h : 20 < s.length) : isName s = false := by
  have : ¬ s.length ≤ 20 := by omega
  simp [isName, this]
theorem name_none {s : List UInt8} (h : s.length ≤ 0) : isName s = false := by
  have : s = [] := List.eq_nil_of_length_eq_zero (by omega)
  subst this; decide
attribute [local irreducible] AC AT AO AK AH ACalls Sub Res.cells Res.nix Res.own Res.map Exit.then Exit.inBlock bodyPost Code.wp Next Post Kont
section
variable {W0 : World} {L : List Res} {F : List Fact} {R : Value → List Res → List Fact → Prop}
set_option maxRecDepth 100000
set_option maxHeartbeats 4000000
theorem rletter_c (c : UInt8) (hT : letter c = true → R (.bool true) L F) (hF : letter c = false → R (.bool false) L F) : ACalls Tryz.prog W0 66 #[.int .u8 c.toNat] L F R := by
  refine ACalls.body Tryz.func66 rfl Tryz.ntmps66 rfl ?_
  refine AC.seq (AC.region (AL.go (AO.assign rfl rfl (AL.nil (AK.seqN (AC.seq ?_))))))
  refine AC.region (AL.go (AO.move rfl rfl ?_))
  refine AL.go (AO.geq rfl rfl rfl (fun c4 => ?_) (fun c4 => ?_))
  ·refine AL.go (AO.move rfl rfl (AL.yes rfl rfl (AO.move rfl rfl ?_)))
   refine AL.yes rfl rfl (AO.leq rfl rfl rfl (fun c7 => ?_) (fun c7 => ?_))
   ·refine AL.go (AO.pickT rfl rfl rfl (AL.go (AO.move rfl rfl (AL.no rfl rfl rfl rfl (AL.no rfl rfl rfl rfl (AL.no rfl rfl rfl rfl (AL.no rfl rfl rfl rfl ?_)))))))
    refine AL.no rfl rfl rfl rfl (AL.no rfl rfl rfl rfl (AL.go (AO.pickT rfl rfl rfl (AL.go (AO.move rfl rfl (AL.no rfl rfl rfl rfl (AL.no rfl rfl rfl rfl ?_)))))))
    refine AL.go (AO.pickT rfl rfl rfl (AL.go (AO.assign rfl rfl (AL.nil (AK.seqN (AC.ret ?_))))))
    first | refine AK.ret Tryz.results66 rfl (Sub.refl _ _) (hT ?_) | refine AK.ret Tryz.results66 rfl (Sub.refl _ _) (hF ?_)
    simp [letter]; omega
   ·refine AL.go (AO.pickT rfl rfl rfl (AL.go (AO.move rfl rfl (AL.yes rfl rfl (AO.move rfl rfl ?_)))))
    refine AL.yes rfl rfl (AO.geq rfl rfl rfl (fun c11 => ?_) (fun c11 => ?_))
    ·refine AL.yes rfl rfl (AO.move rfl rfl (AL.yes rfl rfl (AO.move rfl rfl ?_)))
     refine AL.yes rfl rfl (AO.leq rfl rfl rfl (fun c14 => ?_) (fun c14 => ?_))
     ·refine AL.yes rfl rfl (AO.pickT rfl rfl rfl (AL.go (AO.pickF rfl rfl rfl (AL.go (AO.move rfl rfl (AL.no rfl rfl rfl rfl (AL.no rfl rfl rfl rfl (AL.go (AO.pickT rfl rfl rfl ?_)))))))))
      refine AL.go (AO.assign rfl rfl (AL.nil (AK.seqN (AC.ret ?_))))
      first | refine AK.ret Tryz.results66 rfl (Sub.refl _ _) (hT ?_) | refine AK.ret Tryz.results66 rfl (Sub.refl _ _) (hF ?_)
      simp [letter]; omega
     ·refine AL.yes rfl rfl (AO.pickT rfl rfl rfl (AL.go (AO.pickF rfl rfl rfl (AL.go (AO.move rfl rfl (AL.yes rfl rfl (AO.move rfl rfl ?_)))))))
      refine AL.yes rfl rfl (AO.eql rfl rfl rfl (fun c19 => ?_) (fun c19 => ?_))
      ·refine AL.go (AO.pickF rfl rfl rfl (AL.go (AO.assign rfl rfl (AL.nil (AK.seqN (AC.ret ?_))))))
       first | refine AK.ret Tryz.results66 rfl (Sub.refl _ _) (hT ?_) | refine AK.ret Tryz.results66 rfl (Sub.refl _ _) (hF ?_)
       simp [letter]; omega
      ·refine AL.go (AO.pickF rfl rfl rfl (AL.go (AO.assign rfl rfl (AL.nil (AK.seqN (AC.ret ?_))))))
       first | refine AK.ret Tryz.results66 rfl (Sub.refl _ _) (hT ?_) | refine AK.ret Tryz.results66 rfl (Sub.refl _ _) (hF ?_)
       simp [letter]; omega
    ·refine AL.yes rfl rfl (AO.move rfl rfl (AL.no rfl rfl rfl rfl (AL.no rfl rfl rfl rfl (AL.yes rfl rfl (AO.pickF rfl rfl rfl (AL.go (AO.pickF rfl rfl rfl (AL.go (AO.move rfl rfl ?_)))))))))
     refine AL.yes rfl rfl (AO.move rfl rfl ?_)
     refine AL.yes rfl rfl (AO.eql rfl rfl rfl (fun c19 => ?_) (fun c19 => ?_))
     ·refine AL.go (AO.pickF rfl rfl rfl (AL.go (AO.assign rfl rfl (AL.nil (AK.seqN (AC.ret ?_))))))
      first | refine AK.ret Tryz.results66 rfl (Sub.refl _ _) (hT ?_) | refine AK.ret Tryz.results66 rfl (Sub.refl _ _) (hF ?_)
      simp [letter]; omega
     ·refine AL.go (AO.pickF rfl rfl rfl (AL.go (AO.assign rfl rfl (AL.nil (AK.seqN (AC.ret ?_))))))
      first | refine AK.ret Tryz.results66 rfl (Sub.refl _ _) (hT ?_) | refine AK.ret Tryz.results66 rfl (Sub.refl _ _) (hF ?_)
      simp [letter]; omega
  ·refine AL.go (AO.move rfl rfl (AL.no rfl rfl rfl rfl (AL.no rfl rfl rfl rfl (AL.go (AO.pickF rfl rfl rfl (AL.go (AO.move rfl rfl (AL.yes rfl rfl (AO.move rfl rfl ?_)))))))))
   refine AL.yes rfl rfl (AO.geq rfl rfl rfl (fun c11 => ?_) (fun c11 => ?_))
   ·refine AL.yes rfl rfl (AO.move rfl rfl (AL.yes rfl rfl (AO.move rfl rfl ?_)))
    refine AL.yes rfl rfl (AO.leq rfl rfl rfl (fun c14 => ?_) (fun c14 => ?_))
    ·refine AL.yes rfl rfl (AO.pickT rfl rfl rfl (AL.go (AO.pickF rfl rfl rfl (AL.go (AO.move rfl rfl (AL.no rfl rfl rfl rfl (AL.no rfl rfl rfl rfl (AL.go (AO.pickT rfl rfl rfl ?_)))))))))
     refine AL.go (AO.assign rfl rfl (AL.nil (AK.seqN (AC.ret ?_))))
     first | refine AK.ret Tryz.results66 rfl (Sub.refl _ _) (hT ?_) | refine AK.ret Tryz.results66 rfl (Sub.refl _ _) (hF ?_)
     simp [letter]; omega
    ·refine AL.yes rfl rfl (AO.pickT rfl rfl rfl (AL.go (AO.pickF rfl rfl rfl (AL.go (AO.move rfl rfl (AL.yes rfl rfl (AO.move rfl rfl ?_)))))))
     refine AL.yes rfl rfl (AO.eql rfl rfl rfl (fun c19 => ?_) (fun c19 => ?_))
     ·refine AL.go (AO.pickF rfl rfl rfl (AL.go (AO.assign rfl rfl (AL.nil (AK.seqN (AC.ret ?_))))))
      first | refine AK.ret Tryz.results66 rfl (Sub.refl _ _) (hT ?_) | refine AK.ret Tryz.results66 rfl (Sub.refl _ _) (hF ?_)
      simp [letter]; omega
     ·refine AL.go (AO.pickF rfl rfl rfl (AL.go (AO.assign rfl rfl (AL.nil (AK.seqN (AC.ret ?_))))))
      first | refine AK.ret Tryz.results66 rfl (Sub.refl _ _) (hT ?_) | refine AK.ret Tryz.results66 rfl (Sub.refl _ _) (hF ?_)
      simp [letter]; omega
   ·refine AL.yes rfl rfl (AO.move rfl rfl (AL.no rfl rfl rfl rfl (AL.no rfl rfl rfl rfl (AL.yes rfl rfl (AO.pickF rfl rfl rfl (AL.go (AO.pickF rfl rfl rfl (AL.go (AO.move rfl rfl ?_)))))))))
    refine AL.yes rfl rfl (AO.move rfl rfl ?_)
    refine AL.yes rfl rfl (AO.eql rfl rfl rfl (fun c19 => ?_) (fun c19 => ?_))
    ·refine AL.go (AO.pickF rfl rfl rfl (AL.go (AO.assign rfl rfl (AL.nil (AK.seqN (AC.ret ?_))))))
     first | refine AK.ret Tryz.results66 rfl (Sub.refl _ _) (hT ?_) | refine AK.ret Tryz.results66 rfl (Sub.refl _ _) (hF ?_)
     simp [letter]; omega
    ·refine AL.go (AO.pickF rfl rfl rfl (AL.go (AO.assign rfl rfl (AL.nil (AK.seqN (AC.ret ?_))))))
     first | refine AK.ret Tryz.results66 rfl (Sub.refl _ _) (hT ?_) | refine AK.ret Tryz.results66 rfl (Sub.refl _ _) (hF ?_)
     simp [letter]; omega
theorem fieldN_len (s : List UInt8) : (fieldN s).length ≤ s.length := by
  unfold fieldN; split <;> simp
theorem rname_c (s : List UInt8) (hs : s.length < 4294967281) (hT : isName s = true → R (.bool true) L F) (hF : isName s = false → R (.bool false) L F) : ACalls Tryz.prog W0 24 #[S s] L F R := by
  refine ACalls.body Tryz.func24 rfl Tryz.ntmps24 rfl ?_
  refine AC.seq (AC.region (AL.go (AO.assign rfl rfl (AL.nil (AK.seqN (AC.seq ?_))))))
  refine AC.seq (AC.region (AL.go (AO.assign rfl rfl (AL.nil (AK.seqN (AC.block ?_))))))
  refine AC.loop (fun k => k ≤ s.length ∧ ∀ j (hj : j < s.length), j < k → nameC s[j] = true ∧ (j = 0 → letter s[j] = true)) (fun k => [(0, S s), (3, .int .i64 (k : Int))]) (fun _ => L) (fun _ => F) (fun k => s.length - k) 0 ⟨by omega, by omega⟩ srA (Sub.refl _ _) ?_
  rintro k ⟨hk, hok⟩
  refine AC.seq (AC.seq (AC.region (AL.go (AO.move rfl rfl (AL.go (AO.move rfl rfl (AL.go (AO.lenS rfl rfl ?_))))))))
  refine AL.go (AO.lss rfl rfl rfl (fun c8 => ?_) (fun c8 => ?_))
  ·refine AL.nil (AK.seqN (AC.condT rfl (AC.skip (AK.seqN (AC.seq ?_)))))
   refine AC.block (AC.seq (AC.region (AL.go (AO.move rfl rfl (AL.go (AO.move rfl rfl (AL.go (AO.indexS rfl rfl rfl rfl (by omega) ?_))))))))
   refine AL.go (AO.geq rfl rfl rfl (fun c14 => ?_) (fun c14 => ?_))
   ·refine AL.go (AO.move rfl rfl (AL.yes rfl rfl (AO.move rfl rfl (AL.yes rfl rfl (AO.move rfl rfl (AL.yes rfl rfl (AO.indexS rfl rfl rfl rfl (by omega) ?_)))))))
    refine AL.yes rfl rfl (AO.leq rfl rfl rfl (fun c19 => ?_) (fun c19 => ?_))
    ·refine AL.go (AO.pickT rfl rfl rfl (AL.go (AO.assign rfl rfl (AL.nil (AK.seqN (AC.seq (AC.region ?_)))))))
     refine AL.go (AO.move rfl rfl (AL.go (AO.move rfl rfl (AL.go (AO.indexS rfl rfl rfl rfl (by omega) ?_)))))
     refine AL.go (AO.call rfl rfl (rletter_c _ (fun c24 => ?_) (fun c24 => ?_)))
     ·refine AL.go (AO.not rfl rfl (AL.go (AO.move rfl rfl (AL.no rfl rfl rfl rfl (AL.no rfl rfl rfl rfl (AL.no rfl rfl rfl rfl (AL.no rfl rfl rfl rfl ?_)))))))
      refine AL.no rfl rfl rfl rfl (AL.no rfl rfl rfl rfl (AL.go (AO.pickF rfl rfl rfl (AL.nil (AK.seqN (AC.condF rfl ?_))))))
      refine AC.skip (AK.blkN (AK.seqN (AC.region (AL.go (AO.move rfl rfl (AL.go (AO.add rfl rfl rfl (by omega) (by omega) ?_)))))))
      refine AL.go (AO.assign rfl rfl (AL.nil ?_))
      refine AK.next (k + 1) ⟨by omega, ?_⟩ (by omega) srA (Sub.refl _ _)
      intro j hj hjk
      rcases Nat.lt_succ_iff_lt_or_eq.1 hjk with h | rfl
      · exact hok j hj h
      · refine ⟨?_, ?_⟩
        · simp only [nameC, Bool.or_eq_true, Bool.and_eq_true, decide_eq_true_eq]
          first | exact .inl ‹_› | (right; omega)
        · first | exact fun _ => ‹_› | (intro e; exact absurd e (by omega))
     ·refine AL.go (AO.not rfl rfl (AL.go (AO.move rfl rfl (AL.yes rfl rfl (AO.move rfl rfl (AL.yes rfl rfl (AO.not rfl rfl (AL.yes rfl rfl (AO.move rfl rfl (AL.yes rfl rfl (AO.move rfl rfl ?_)))))))))))
      refine AL.yes rfl rfl (AO.eql rfl rfl rfl (fun c31 => ?_) (fun c31 => ?_))
      ·refine AL.yes rfl rfl (AO.pickF rfl rfl rfl (AL.go (AO.pickT rfl rfl rfl (AL.nil (AK.seqN (AC.condT rfl (AC.seq ?_)))))))
       refine AC.region (AL.go (AO.assign rfl rfl (AL.nil (AK.seqN (AC.ret (AK.blkR ?_))))))
       refine AK.seqR (AK.seqR (AK.blkR (AK.seqR ?_)))
       first | refine AK.ret Tryz.results24 rfl (Sub.refl _ _) (hT ?_) | refine AK.ret Tryz.results24 rfl (Sub.refl _ _) (hF ?_)
       first
       | exact name_all (by omega) (by omega) (fun j hj => hok j hj (by omega))
       | exact name_long (by omega)
       | exact name_none (by omega)
       | exact name_head (k := k) (by omega) (by omega) ‹_›
       | exact isName_no (j := k) (by omega) (by simp only [nameC, Bool.or_eq_false_iff, Bool.and_eq_false_iff, decide_eq_false_iff_not]; exact ⟨‹_›, by omega⟩)
      ·refine AL.yes rfl rfl (AO.pickF rfl rfl rfl (AL.go (AO.pickT rfl rfl rfl (AL.nil (AK.seqN (AC.condF rfl (AC.skip ?_)))))))
       refine AK.blkN (AK.seqN (AC.region (AL.go (AO.move rfl rfl (AL.go (AO.add rfl rfl rfl (by omega) (by omega) (AL.go (AO.assign rfl rfl ?_))))))))
       refine AL.nil ?_
       refine AK.next (k + 1) ⟨by omega, ?_⟩ (by omega) srA (Sub.refl _ _)
       intro j hj hjk
       rcases Nat.lt_succ_iff_lt_or_eq.1 hjk with h | rfl
       · exact hok j hj h
       · refine ⟨?_, ?_⟩
         · simp only [nameC, Bool.or_eq_true, Bool.and_eq_true, decide_eq_true_eq]
           first | exact .inl ‹_› | (right; omega)
         · first | exact fun _ => ‹_› | (intro e; exact absurd e (by omega))
    ·refine AL.go (AO.pickT rfl rfl rfl (AL.go (AO.assign rfl rfl (AL.nil (AK.seqN (AC.seq (AC.region ?_)))))))
     refine AL.go (AO.move rfl rfl (AL.go (AO.move rfl rfl (AL.go (AO.indexS rfl rfl rfl rfl (by omega) ?_)))))
     refine AL.go (AO.call rfl rfl (rletter_c _ (fun c24 => ?_) (fun c24 => ?_)))
     ·refine AL.go (AO.not rfl rfl (AL.go (AO.move rfl rfl (AL.no rfl rfl rfl rfl (AL.no rfl rfl rfl rfl (AL.no rfl rfl rfl rfl (AL.no rfl rfl rfl rfl ?_)))))))
      refine AL.no rfl rfl rfl rfl (AL.no rfl rfl rfl rfl (AL.go (AO.pickF rfl rfl rfl (AL.nil (AK.seqN (AC.condF rfl ?_))))))
      refine AC.skip (AK.blkN (AK.seqN (AC.region (AL.go (AO.move rfl rfl (AL.go (AO.add rfl rfl rfl (by omega) (by omega) ?_)))))))
      refine AL.go (AO.assign rfl rfl (AL.nil ?_))
      refine AK.next (k + 1) ⟨by omega, ?_⟩ (by omega) srA (Sub.refl _ _)
      intro j hj hjk
      rcases Nat.lt_succ_iff_lt_or_eq.1 hjk with h | rfl
      · exact hok j hj h
      · refine ⟨?_, ?_⟩
        · simp only [nameC, Bool.or_eq_true, Bool.and_eq_true, decide_eq_true_eq]
          first | exact .inl ‹_› | (right; omega)
        · first | exact fun _ => ‹_› | (intro e; exact absurd e (by omega))
     ·refine AL.go (AO.not rfl rfl (AL.go (AO.move rfl rfl (AL.yes rfl rfl (AO.move rfl rfl (AL.yes rfl rfl (AO.not rfl rfl (AL.yes rfl rfl (AO.move rfl rfl (AL.no rfl rfl rfl rfl ?_))))))))))
      refine AL.no rfl rfl rfl rfl (AL.yes rfl rfl (AO.pickT rfl rfl rfl (AL.go (AO.pickT rfl rfl rfl (AL.nil (AK.seqN (AC.condT rfl ?_)))))))
      refine AC.seq (AC.region (AL.go (AO.assign rfl rfl (AL.nil (AK.seqN (AC.ret ?_))))))
      refine AK.blkR (AK.seqR (AK.seqR (AK.blkR (AK.seqR ?_))))
      first | refine AK.ret Tryz.results24 rfl (Sub.refl _ _) (hT ?_) | refine AK.ret Tryz.results24 rfl (Sub.refl _ _) (hF ?_)
      first
      | exact name_all (by omega) (by omega) (fun j hj => hok j hj (by omega))
      | exact name_long (by omega)
      | exact name_none (by omega)
      | exact name_head (k := k) (by omega) (by omega) ‹_›
      | exact isName_no (j := k) (by omega) (by simp only [nameC, Bool.or_eq_false_iff, Bool.and_eq_false_iff, decide_eq_false_iff_not]; exact ⟨‹_›, by omega⟩)
   ·refine AL.go (AO.move rfl rfl (AL.no rfl rfl rfl rfl (AL.no rfl rfl rfl rfl (AL.no rfl rfl rfl rfl (AL.no rfl rfl rfl rfl (AL.go (AO.pickF rfl rfl rfl ?_)))))))
    refine AL.go (AO.assign rfl rfl (AL.nil (AK.seqN (AC.seq (AC.region (AL.go (AO.move rfl rfl ?_)))))))
    refine AL.go (AO.move rfl rfl (AL.go (AO.indexS rfl rfl rfl rfl (by omega) ?_)))
    refine AL.go (AO.call rfl rfl (rletter_c _ (fun c24 => ?_) (fun c24 => ?_)))
    ·refine AL.go (AO.not rfl rfl (AL.go (AO.move rfl rfl (AL.no rfl rfl rfl rfl (AL.no rfl rfl rfl rfl (AL.no rfl rfl rfl rfl (AL.no rfl rfl rfl rfl ?_)))))))
     refine AL.no rfl rfl rfl rfl (AL.no rfl rfl rfl rfl (AL.go (AO.pickF rfl rfl rfl (AL.nil (AK.seqN (AC.condF rfl ?_))))))
     refine AC.skip (AK.blkN (AK.seqN (AC.region (AL.go (AO.move rfl rfl (AL.go (AO.add rfl rfl rfl (by omega) (by omega) ?_)))))))
     refine AL.go (AO.assign rfl rfl (AL.nil ?_))
     refine AK.next (k + 1) ⟨by omega, ?_⟩ (by omega) srA (Sub.refl _ _)
     intro j hj hjk
     rcases Nat.lt_succ_iff_lt_or_eq.1 hjk with h | rfl
     · exact hok j hj h
     · refine ⟨?_, ?_⟩
       · simp only [nameC, Bool.or_eq_true, Bool.and_eq_true, decide_eq_true_eq]
         first | exact .inl ‹_› | (right; omega)
       · first | exact fun _ => ‹_› | (intro e; exact absurd e (by omega))
    ·refine AL.go (AO.not rfl rfl (AL.go (AO.move rfl rfl (AL.yes rfl rfl (AO.move rfl rfl (AL.yes rfl rfl (AO.not rfl rfl (AL.yes rfl rfl (AO.move rfl rfl (AL.no rfl rfl rfl rfl ?_))))))))))
     refine AL.no rfl rfl rfl rfl (AL.yes rfl rfl (AO.pickT rfl rfl rfl (AL.go (AO.pickT rfl rfl rfl (AL.nil (AK.seqN (AC.condT rfl ?_)))))))
     refine AC.seq (AC.region (AL.go (AO.assign rfl rfl (AL.nil (AK.seqN (AC.ret ?_))))))
     refine AK.blkR (AK.seqR (AK.seqR (AK.blkR (AK.seqR ?_))))
     first | refine AK.ret Tryz.results24 rfl (Sub.refl _ _) (hT ?_) | refine AK.ret Tryz.results24 rfl (Sub.refl _ _) (hF ?_)
     first
     | exact name_all (by omega) (by omega) (fun j hj => hok j hj (by omega))
     | exact name_long (by omega)
     | exact name_none (by omega)
     | exact name_head (k := k) (by omega) (by omega) ‹_›
     | exact isName_no (j := k) (by omega) (by simp only [nameC, Bool.or_eq_false_iff, Bool.and_eq_false_iff, decide_eq_false_iff_not]; exact ⟨‹_›, by omega⟩)
  ·refine AL.nil (AK.seqN (AC.condF rfl (AC.exit (AK.seqX (AK.seqX ?_)))))
   refine AK.blkX (AK.seqN (AC.seq (AC.region (AL.go (AO.move rfl rfl (AL.go (AO.lenS rfl rfl ?_)))))))
   refine AL.go (AO.gtr rfl rfl rfl (fun c36 => ?_) (fun c36 => ?_))
   ·refine AL.go (AO.move rfl rfl (AL.yes rfl rfl (AO.move rfl rfl (AL.yes rfl rfl (AO.lenS rfl rfl ?_)))))
    refine AL.yes rfl rfl (AO.leq rfl rfl rfl (fun c40 => ?_) (fun c40 => ?_))
    ·refine AL.go (AO.pickT rfl rfl rfl (AL.go (AO.assign rfl rfl (AL.nil (AK.seqN (AC.ret ?_))))))
     first | refine AK.ret Tryz.results24 rfl (Sub.refl _ _) (hT ?_) | refine AK.ret Tryz.results24 rfl (Sub.refl _ _) (hF ?_)
     first
     | exact name_all (by omega) (by omega) (fun j hj => hok j hj (by omega))
     | exact name_long (by omega)
     | exact name_none (by omega)
     | exact name_head (k := k) (by omega) (by omega) ‹_›
     | exact isName_no (j := k) (by omega) (by simp only [nameC, Bool.or_eq_false_iff, Bool.and_eq_false_iff, decide_eq_false_iff_not]; exact ⟨‹_›, by omega⟩)
    ·refine AL.go (AO.pickT rfl rfl rfl (AL.go (AO.assign rfl rfl (AL.nil (AK.seqN (AC.ret ?_))))))
     first | refine AK.ret Tryz.results24 rfl (Sub.refl _ _) (hT ?_) | refine AK.ret Tryz.results24 rfl (Sub.refl _ _) (hF ?_)
     first
     | exact name_all (by omega) (by omega) (fun j hj => hok j hj (by omega))
     | exact name_long (by omega)
     | exact name_none (by omega)
     | exact name_head (k := k) (by omega) (by omega) ‹_›
     | exact isName_no (j := k) (by omega) (by simp only [nameC, Bool.or_eq_false_iff, Bool.and_eq_false_iff, decide_eq_false_iff_not]; exact ⟨‹_›, by omega⟩)
   ·refine AL.go (AO.move rfl rfl (AL.no rfl rfl rfl rfl (AL.no rfl rfl rfl rfl (AL.no rfl rfl rfl rfl (AL.go (AO.pickF rfl rfl rfl (AL.go (AO.assign rfl rfl ?_))))))))
    refine AL.nil (AK.seqN (AC.ret ?_))
    first | refine AK.ret Tryz.results24 rfl (Sub.refl _ _) (hT ?_) | refine AK.ret Tryz.results24 rfl (Sub.refl _ _) (hF ?_)
    first
    | exact name_all (by omega) (by omega) (fun j hj => hok j hj (by omega))
    | exact name_long (by omega)
    | exact name_none (by omega)
    | exact name_head (k := k) (by omega) (by omega) ‹_›
    | exact isName_no (j := k) (by omega) (by simp only [nameC, Bool.or_eq_false_iff, Bool.and_eq_false_iff, decide_eq_false_iff_not]; exact ⟨‹_›, by omega⟩)
theorem rfield_c (s : List UInt8) (h : R (S (fieldN s)) L F) : ACalls Tryz.prog W0 214 #[S s] L F R := by
  refine ACalls.body Tryz.func214 rfl Tryz.ntmps214 rfl ?_
  refine AC.seq (AC.region (AL.go (AO.assign rfl rfl (AL.nil (AK.seqN (AC.seq ?_))))))
  refine AC.seq (AC.region (AL.go (AO.move rfl rfl (AL.go (AO.lenS rfl rfl ?_)))))
  refine AL.go (AO.gtr rfl rfl rfl (fun c5 => ?_) (fun c5 => ?_))
  ·refine AL.go (AO.move rfl rfl (AL.yes rfl rfl (AO.move rfl rfl ?_)))
   have h0 : 0 < s.length := by omega
   refine AL.yes rfl rfl (AO.indexS rfl rfl rfl rfl h0 ?_)
   refine AL.yes rfl rfl (AO.eql rfl rfl rfl (fun c9 => ?_) (fun c9 => ?_))
   ·refine AL.go (AO.pickT rfl rfl rfl (AL.nil (AK.seqN (AC.condT rfl (AC.seq (AC.region ?_))))))
    refine AL.go (AO.move rfl rfl ?_)
    refine AL.go (AO.sliceSL (i' := 1) rfl rfl rfl rfl (by omega) ?_)
    refine AL.go (AO.assign rfl rfl (AL.nil (AK.seqN (AC.ret (AK.seqR ?_)))))
    first | refine AK.ret (v := S (s.drop 1)) Tryz.results214 rfl (Sub.refl _ _) (by rw [field_plus h0 c9]; exact h) | refine AK.ret (v := S s) Tryz.results214 rfl (Sub.refl _ _) (by rw [← field_bare (fun _ => c9)] at h; exact h) | refine AK.ret (v := S s) Tryz.results214 rfl (Sub.refl _ _) (by rw [← field_bare (fun h0 => absurd h0 (by omega))] at h; exact h)
   ·refine AL.go (AO.pickT rfl rfl rfl (AL.nil (AK.seqN (AC.condF rfl (AC.skip (AK.seqN ?_))))))
    refine AC.seq (AC.region (AL.go (AO.move rfl rfl (AL.go (AO.assign rfl rfl (AL.nil (AK.seqN ?_)))))))
    refine AC.ret ?_
    first | refine AK.ret (v := S (s.drop 1)) Tryz.results214 rfl (Sub.refl _ _) (by rw [field_plus h0 c9]; exact h) | refine AK.ret (v := S s) Tryz.results214 rfl (Sub.refl _ _) (by rw [← field_bare (fun _ => c9)] at h; exact h) | refine AK.ret (v := S s) Tryz.results214 rfl (Sub.refl _ _) (by rw [← field_bare (fun h0 => absurd h0 (by omega))] at h; exact h)
  ·refine AL.go (AO.move rfl rfl (AL.no rfl rfl rfl rfl (AL.no rfl rfl rfl rfl (AL.no rfl rfl rfl rfl (AL.go (AO.pickF rfl rfl rfl (AL.nil ?_)))))))
   refine AK.seqN (AC.condF rfl (AC.skip (AK.seqN (AC.seq (AC.region ?_)))))
   refine AL.go (AO.move rfl rfl (AL.go (AO.assign rfl rfl (AL.nil (AK.seqN (AC.ret ?_))))))
   first | refine AK.ret (v := S (s.drop 1)) Tryz.results214 rfl (Sub.refl _ _) (by rw [field_plus h0 c9]; exact h) | refine AK.ret (v := S s) Tryz.results214 rfl (Sub.refl _ _) (by rw [← field_bare (fun _ => c9)] at h; exact h) | refine AK.ret (v := S s) Tryz.results214 rfl (Sub.refl _ _) (by rw [← field_bare (fun h0 => absurd h0 (by omega))] at h; exact h)
theorem rmark_c (s : List UInt8) (hT : markP s → R (.bool true) L F) (hF : ¬ markP s → R (.bool false) L F) : ACalls Tryz.prog W0 215 #[S s] L F R := by
  refine ACalls.body Tryz.func215 rfl Tryz.ntmps215 rfl ?_
  refine AC.seq (AC.region (AL.go (AO.assign rfl rfl (AL.nil (AK.seqN (AC.seq ?_))))))
  refine AC.region (AL.go (AO.move rfl rfl ?_))
  refine AL.go (AO.eqlS rfl rfl rfl (fun c4 => ?_) (fun c4 => ?_))
  ·refine AL.go (AO.move rfl rfl (AL.no rfl rfl rfl rfl (AL.no rfl rfl rfl rfl (AL.go (AO.pickT rfl rfl rfl (AL.go (AO.assign rfl rfl (AL.nil ?_))))))))
   refine AK.seqN (AC.ret ?_)
   first | exact AK.ret Tryz.results215 rfl (Sub.refl _ _) (hT (Or.inl c4)) | exact AK.ret Tryz.results215 rfl (Sub.refl _ _) (hT (Or.inr c7)) | exact AK.ret Tryz.results215 rfl (Sub.refl _ _) (hF (fun e => e.elim c4 c7))
  ·refine AL.go (AO.move rfl rfl (AL.yes rfl rfl (AO.move rfl rfl ?_)))
   refine AL.yes rfl rfl (AO.eqlS rfl rfl rfl (fun c7 => ?_) (fun c7 => ?_))
   ·refine AL.go (AO.pickF rfl rfl rfl (AL.go (AO.assign rfl rfl (AL.nil (AK.seqN (AC.ret ?_))))))
    first | exact AK.ret Tryz.results215 rfl (Sub.refl _ _) (hT (Or.inl c4)) | exact AK.ret Tryz.results215 rfl (Sub.refl _ _) (hT (Or.inr c7)) | exact AK.ret Tryz.results215 rfl (Sub.refl _ _) (hF (fun e => e.elim c4 c7))
   ·refine AL.go (AO.pickF rfl rfl rfl (AL.go (AO.assign rfl rfl (AL.nil (AK.seqN (AC.ret ?_))))))
    first | exact AK.ret Tryz.results215 rfl (Sub.refl _ _) (hT (Or.inl c4)) | exact AK.ret Tryz.results215 rfl (Sub.refl _ _) (hT (Or.inr c7)) | exact AK.ret Tryz.results215 rfl (Sub.refl _ _) (hF (fun e => e.elim c4 c7))
theorem rfields_c (t : Ty) (ht : TyOk t) {a1 a2 : Option Addr} {k1 c1 k2 c2 : Nat} (m1 : fW t a1 k1 c1 ∈ F) (m2 : fK t a2 k2 c2 ∈ F) (hT : fieldsP t.words ∧ t.words.length = t.kids.length → R (.bool true) L F)
    (hF : ¬(fieldsP t.words ∧ t.words.length = t.kids.length) → R (.bool false) L F) : ACalls Tryz.prog W0 178 #[vTy t a1 k1 c1 a2 k2 c2] L F R := by
  refine ACalls.body Tryz.func178 rfl Tryz.ntmps178 rfl ?_
  refine AC.seq (AC.region (AL.go (AO.box rfl rfl (fun b1 => ?_))))
  refine AL.go (AO.assign rfl rfl (AL.nil (AK.seqN (AC.seq (AC.seq (AC.region ?_))))))
  refine AL.go (AO.field rfl rfl ?_)
  refine AL.go (AO.loadB rfl rfl ?_)
  refine AL.go (AO.len rfl rfl (fun hl9 => ?_) (hm := by repeat (first | exact mem0 | assumption | refine memS ?_)))
  refine AL.go (AO.move rfl rfl (AL.nil (AK.seqN (AC.block ?_))))
  refine AC.loopC (fun (q : Nat) => q ≤ t.words.length ∧ ∀ j (hj : j < t.words.length), j < q → fieldAt t.words j hj) (fun q => [(1, .pointer (some ⟨b1, 0, none⟩)), (8, .slice a1 k1 c1), (9, .int .i64 t.words.length), (10, .int .i64 (q : Int))]) (fun q => t.words.length - q) 0 ⟨by omega, by omega⟩ srA ?_
  rintro q ⟨hq, hok⟩
  refine AC.seq (AC.region ?_)
  refine AL.go (AO.lss rfl rfl rfl (fun c11 => ?_) (fun c11 => ?_))
  ·refine AL.nil (AK.seqN (AC.seq (AC.condT rfl (AC.skip (AK.seqN ?_)))))
   refine AC.seq (AC.block (AC.seq (AC.region (AL.go (AO.move rfl rfl ?_)))))
   have hql : q < t.words.length := by omega
   refine AL.go (AO.indexAddr rfl rfl rfl rfl memA hql (fun _ _ => ?_))
   refine AL.go (AO.loadF rfl rfl ?_)
   intros
   refine AL.go (AO.assign rfl rfl (AL.go (AO.assign rfl rfl (AL.nil (AK.seqN (AC.seq (AC.seq ?_)))))))
   refine AC.region (AL.go (AO.move rfl rfl ?_))
   refine AL.go (AO.call rfl rfl (rfield_c t.words[q] ?_))
   have hwl := ht.word _ (List.getElem_mem hql)
   have hfl := fieldN_len t.words[q]
   refine AL.go (AO.call rfl rfl (rname_c (fieldN t.words[q]) (by omega) (fun c17 => ?_) (fun c17 => ?_)))
   ·refine AL.go (AO.not rfl rfl (AL.nil (AK.seqN (AC.condF rfl (AC.skip (AK.seqN ?_))))))
    refine AC.seq (AC.region (AL.go (AO.field rfl rfl ?_)))
    refine AL.go (AO.loadB rfl rfl ?_)
    refine AL.go (AO.move rfl rfl ?_)
    refine AL.go (AO.sliceH (j' := q) rfl rfl rfl (by omega) (enc := eS) (lst := t.words) memA (by omega) (fun a22 k22 c22 => ?_))
    have htl : (t.words.take q).length = q := by simp; omega
    refine AL.go (AO.len rfl rfl (fun hl23 => ?_) (hm := by repeat (first | exact mem0 | assumption | refine memS ?_)))
    refine AL.go (AO.move rfl rfl (AL.nil (AK.seqN (AC.block ?_))))
    refine AC.loopC (fun (u : Nat) => u ≤ q ∧ ∀ j (hj : j < t.words.length), j < u → fieldN t.words[j] = fieldN t.words[q] → fieldN t.words[q] = [95]) (fun u => [(1, .pointer (some ⟨b1, 0, none⟩)), (8, .slice a1 k1 c1), (9, .int .i64 t.words.length), (10, .int .i64 (q : Int)), (4, S t.words[q]), (22, .slice a22 k22 c22), (23, .int .i64 (t.words.take q).length), (24, .int .i64 (u : Int))]) (fun u => q - u) 0 ⟨by omega, by omega⟩ srA ?_
    rintro u ⟨hu, hou⟩
    refine AC.seq (AC.region ?_)
    refine AL.go (AO.lss rfl rfl rfl (fun c25 => ?_) (fun c25 => ?_))
    ·refine AL.nil (AK.seqN (AC.seq (AC.condT rfl (AC.skip (AK.seqN ?_)))))
     refine AC.seq (AC.block (AC.seq (AC.region ?_)))
     have hul : u < (t.words.take q).length := by omega
     have hget : (t.words.take q)[u] = t.words[u] := List.getElem_take
     refine AL.go (AO.indexAddr rfl rfl rfl rfl memA hul (fun _ _ => ?_))
     refine AL.go (AO.loadF rfl rfl ?_)
     intros
     refine AL.go (AO.assign rfl rfl (AL.nil (AK.seqN (AC.seq (AC.region (AL.go (AO.move rfl rfl ?_)))))))
     refine AL.go (AO.call rfl rfl (rfield_c (t.words.take q)[u] ?_))
     refine AL.go (AO.move rfl rfl ?_)
     refine AL.go (AO.call rfl rfl (rfield_c t.words[q] ?_))
     refine AL.go (AO.eqlS rfl rfl rfl (fun c32 => ?_) (fun c32 => ?_))
     ·refine AL.go (AO.move rfl rfl (AL.yes rfl rfl (AO.move rfl rfl ?_)))
      refine AL.yes rfl rfl (AO.call rfl rfl (rfield_c t.words[q] ?_))
      refine AL.yes rfl rfl (AO.neqS rfl rfl rfl (fun c36 => ?_) (fun c36 => ?_))
      ·refine AL.go (AO.pickT rfl rfl rfl (AL.nil (AK.seqN (AC.condT rfl (AC.seq (AC.region ?_))))))
       refine AL.go (AO.assign rfl rfl (AL.nil (AK.seqN (AC.ret (AK.blkR (AK.seqR ?_))))))
       refine AK.seqR (AK.blkR (AK.blkR (AK.seqR (AK.seqR (AK.blkR ?_)))))
       refine AK.seqR ?_
       first | refine AK.ret (L' := L) (F' := F) Tryz.results178 rfl subA (hT ?_) | refine AK.ret (L' := L) (F' := F) Tryz.results178 rfl subA (hF ?_)
       first
       | exact ⟨fun i hi => hok i hi (by omega), by omega⟩
       | exact fun e => absurd (e.1 q hql).1 (by rw [c17]; decide)
       | (rw [hget] at c32; exact fun e => c36 ((e.1 q hql).2 u (by omega) c32))
       | exact fun e => c46 (by rw [e.2])
      ·refine AL.go (AO.pickT rfl rfl rfl (AL.nil (AK.seqN (AC.condF rfl (AC.skip (AK.blkN ?_))))))
       refine AK.seqN (AC.region (AL.go (AO.add rfl rfl rfl (by omega) (by omega) (AL.go (AO.move rfl rfl (AL.nil ?_))))))
       refine AK.next (u + 1) ⟨by omega, ?_⟩ (by omega) srA subF
       rw [hget] at c32
       intro j hj hju
       rcases Nat.lt_succ_iff_lt_or_eq.1 hju with k9 | rfl
       · exact hou j hj k9
       · first | exact fun e => absurd e c32 | exact fun _ => c36
     ·refine AL.go (AO.move rfl rfl (AL.no rfl rfl rfl rfl (AL.no rfl rfl rfl rfl (AL.no rfl rfl rfl rfl (AL.go (AO.pickF rfl rfl rfl (AL.nil ?_)))))))
      refine AK.seqN (AC.condF rfl (AC.skip (AK.blkN (AK.seqN (AC.region ?_)))))
      refine AL.go (AO.add rfl rfl rfl (by omega) (by omega) (AL.go (AO.move rfl rfl (AL.nil ?_))))
      refine AK.next (u + 1) ⟨by omega, ?_⟩ (by omega) srA subF
      rw [hget] at c32
      intro j hj hju
      rcases Nat.lt_succ_iff_lt_or_eq.1 hju with k9 | rfl
      · exact hou j hj k9
      · first | exact fun e => absurd e c32 | exact fun _ => c36
    ·refine AL.nil (AK.seqN (AC.seq (AC.condF rfl (AC.exit (AK.seqX ?_)))))
     refine AK.seqX (AK.blkX (AK.blkN (AK.seqN (AC.region (AL.go (AO.add rfl rfl rfl (by omega) (by omega) ?_))))))
     refine AL.go (AO.move rfl rfl (AL.nil ?_))
     refine AK.next (q + 1) ⟨by omega, ?_⟩ (by omega) srA subF
     intro j hj hjq
     rcases Nat.lt_succ_iff_lt_or_eq.1 hjq with k9 | rfl
     · exact hok j hj k9
     · exact ⟨c17, fun i hi => hou i (by omega) (by omega)⟩
   ·refine AL.go (AO.not rfl rfl (AL.nil (AK.seqN (AC.condT rfl (AC.seq (AC.region ?_))))))
    refine AL.go (AO.assign rfl rfl (AL.nil (AK.seqN (AC.ret (AK.seqR (AK.blkR ?_))))))
    refine AK.seqR (AK.seqR (AK.blkR (AK.seqR ?_)))
    first | refine AK.ret (L' := L) (F' := F) Tryz.results178 rfl subA (hT ?_) | refine AK.ret (L' := L) (F' := F) Tryz.results178 rfl subA (hF ?_)
    first
    | exact ⟨fun i hi => hok i hi (by omega), by omega⟩
    | exact fun e => absurd (e.1 q hql).1 (by rw [c17]; decide)
    | (rw [hget] at c32; exact fun e => c36 ((e.1 q hql).2 u (by omega) c32))
    | exact fun e => c46 (by rw [e.2])
  ·refine AL.nil (AK.seqN (AC.seq (AC.condF rfl (AC.exit (AK.seqX ?_)))))
   refine AK.seqX (AK.blkX (AK.seqN (AC.seq (AC.region (AL.go (AO.field rfl rfl ?_))))))
   refine AL.go (AO.loadB rfl rfl ?_)
   refine AL.go (AO.len rfl rfl (fun hl42 => ?_) (hm := by repeat (first | exact mem0 | assumption | refine memS ?_)))
   refine AL.go (AO.field rfl rfl ?_)
   refine AL.go (AO.loadB rfl rfl ?_)
   refine AL.go (AO.len rfl rfl (fun hl45 => ?_) (hm := by repeat (first | exact mem0 | assumption | refine memS ?_)))
   refine AL.go (AO.eql rfl rfl rfl (fun c46 => ?_) (fun c46 => ?_))
   ·refine AL.go (AO.assign rfl rfl (AL.nil (AK.seqN (AC.ret ?_))))
    first | refine AK.ret (L' := L) (F' := F) Tryz.results178 rfl subA (hT ?_) | refine AK.ret (L' := L) (F' := F) Tryz.results178 rfl subA (hF ?_)
    first
    | exact ⟨fun i hi => hok i hi (by omega), by omega⟩
    | exact fun e => absurd (e.1 q hql).1 (by rw [c17]; decide)
    | (rw [hget] at c32; exact fun e => c36 ((e.1 q hql).2 u (by omega) c32))
    | exact fun e => c46 (by rw [e.2])
   ·refine AL.go (AO.assign rfl rfl (AL.nil (AK.seqN (AC.ret ?_))))
    first | refine AK.ret (L' := L) (F' := F) Tryz.results178 rfl subA (hT ?_) | refine AK.ret (L' := L) (F' := F) Tryz.results178 rfl subA (hF ?_)
    first
    | exact ⟨fun i hi => hok i hi (by omega), by omega⟩
    | exact fun e => absurd (e.1 q hql).1 (by rw [c17]; decide)
    | (rw [hget] at c32; exact fun e => c36 ((e.1 q hql).2 u (by omega) c32))
    | exact fun e => c46 (by rw [e.2])
end
end Go.Sy
namespace Go.Sy
open Go Go.Proofs Go.RowKit
theorem cutD_at {c : UInt8} : ∀ {s : List UInt8} {i : Nat} (hi : i < s.length) (_ : s[i] = c) (_ : ∀ j (hj : j < s.length), j < i → s[j] ≠ c), cutD c s = (s.take i, s.drop (i + 1), true)
  | [], i, hi, _, _ => by simp at hi
  | b :: s, 0, hi, h, _ => by
    simp only [List.getElem_cons_zero] at h
    simp [cutD, h]
  | b :: s, i + 1, hi, h, hb => by
    have hb0 := hb 0 (by simp) (by omega)
    simp only [List.getElem_cons_zero] at hb0
    have ih := cutD_at (s := s) (i := i) (by simpa using hi) (by simpa using h) (fun j hj hji => by have := hb (j + 1) (by simpa using hj) (by omega); simpa using this)
    simp [cutD, hb0, ih]
theorem cutD_none {c : UInt8} : ∀ {s : List UInt8} (_ : ∀ j (hj : j < s.length), s[j] ≠ c), (cutD c s).2.2 = false
  | [], _ => rfl
  | b :: s, hb => by
    have hb0 := hb 0 (by simp)
    simp only [List.getElem_cons_zero] at hb0
    have ih := cutD_none (s := s) (fun j hj => by have := hb (j + 1) (by simpa using hj); simpa using this)
    simp [cutD, hb0, ih]
theorem named_at {s : List UInt8} {i : Nat} (hi : i < s.length) (h : (s[i].toNat : Int) = 46) (hb : ∀ j (hj : j < s.length), j < i → (s[j].toNat : Int) ≠ 46) : namedP s ↔ isName (s.take i) = true ∧ isName (s.drop (i + 1)) = true := by
  have h46 : (46 : UInt8).toNat = 46 := rfl
  unfold namedP
  rw [cutD_at hi (c := 46) (UInt8.toNat_inj.1 (by omega)) (fun j hj hji e => hb j hj hji (by rw [e]; rfl))]
  simp
theorem named_none {s : List UInt8} (hb : ∀ j (hj : j < s.length), (s[j].toNat : Int) ≠ 46) : ¬ namedP s := by
  unfold namedP
  rw [cutD_none (c := 46) (fun j hj e => hb j hj (by rw [e]; rfl))]
  simp
attribute [local irreducible] AC AT AO AK AH ACalls Sub Res.cells Res.nix Res.own Res.map Exit.then Exit.inBlock bodyPost Code.wp Next Post Kont
section
variable {W0 : World} {L : List Res} {F : List Fact} {R : Value → List Res → List Fact → Prop}
set_option maxRecDepth 100000
set_option maxHeartbeats 4000000
theorem rnamed_c (s : List UInt8) (hs : s.length < 4294967281) (hT : namedP s → R (.bool true) L F) (hF : ¬ namedP s → R (.bool false) L F) : ACalls Tryz.prog W0 180 #[S s] L F R := by
  refine ACalls.body Tryz.func180 rfl Tryz.ntmps180 rfl ?_
  refine AC.seq (AC.region (AL.go (AO.assign rfl rfl (AL.nil (AK.seqN (AC.seq ?_))))))
  refine AC.seq (AC.region (AL.go (AO.assign rfl rfl (AL.nil (AK.seqN (AC.block ?_))))))
  refine AC.loop (fun k => k ≤ s.length ∧ ∀ j (hj : j < s.length), j < k → (s[j].toNat : Int) ≠ 46) (fun k => [(0, S s), (3, .int .i64 (k : Int))]) (fun _ => L) (fun _ => F) (fun k => s.length - k) 0 ⟨by omega, by omega⟩ srA (Sub.refl _ _) ?_
  rintro k ⟨hk, hok⟩
  refine AC.seq (AC.seq (AC.region (AL.go (AO.move rfl rfl (AL.go (AO.move rfl rfl (AL.go (AO.lenS rfl rfl ?_))))))))
  refine AL.go (AO.lss rfl rfl rfl (fun c7 => ?_) (fun c7 => ?_))
  ·refine AL.nil (AK.seqN (AC.condT rfl (AC.skip (AK.seqN (AC.seq ?_)))))
   refine AC.block (AC.seq (AC.region (AL.go (AO.move rfl rfl (AL.go (AO.move rfl rfl ?_))))))
   have hkl : k < s.length := by omega
   have hl1 : (s.take k).length ≤ s.length := by simp only [List.length_take]; omega
   have hl2 : (s.drop (k + 1)).length ≤ s.length := by simp only [List.length_drop]; omega
   refine AL.go (AO.indexS rfl rfl rfl rfl hkl ?_)
   refine AL.go (AO.eql rfl rfl rfl (fun c13 => ?_) (fun c13 => ?_))
   ·refine AL.nil (AK.seqN (AC.condT rfl (AC.seq (AC.region (AL.go (AO.move rfl rfl ?_))))))
    refine AL.go (AO.move rfl rfl ?_)
    refine AL.go (AO.sliceSH (j' := k) rfl rfl rfl rfl (by omega) ?_)
    refine AL.go (AO.call rfl rfl (rname_c (s.take k) (by omega) (fun c17 => ?_) (fun c17 => ?_)))
    ·refine AL.go (AO.move rfl rfl (AL.yes rfl rfl (AO.move rfl rfl (AL.yes rfl rfl (AO.move rfl rfl (AL.yes rfl rfl (AO.add rfl rfl rfl (by omega) (by omega) ?_)))))))
     refine AL.yes rfl rfl (AO.sliceSL (i' := k + 1) rfl rfl rfl (by omega) (by omega) ?_)
     refine AL.yes rfl rfl (AO.call rfl rfl (rname_c (s.drop (k + 1)) (by omega) (fun c23 => ?_) (fun c23 => ?_)))
     ·refine AL.go (AO.pickT rfl rfl rfl (AL.go (AO.assign rfl rfl (AL.nil (AK.seqN (AC.ret (AK.blkR ?_)))))))
      refine AK.seqR (AK.seqR (AK.blkR (AK.seqR ?_)))
      first | refine AK.ret Tryz.results180 rfl (Sub.refl _ _) (hT ?_) | refine AK.ret Tryz.results180 rfl (Sub.refl _ _) (hF ?_)
      first
      | exact (named_at hkl c13 hok).2 ⟨c17, c23⟩
      | (rw [named_at hkl c13 hok]; exact fun e => absurd e.2 (by rw [c23]; decide))
      | (rw [named_at hkl c13 hok]; exact fun e => absurd e.1 (by rw [c17]; decide))
      | exact named_none (fun j hj => hok j hj (by omega))
     ·refine AL.go (AO.pickT rfl rfl rfl (AL.go (AO.assign rfl rfl (AL.nil (AK.seqN (AC.ret (AK.blkR ?_)))))))
      refine AK.seqR (AK.seqR (AK.blkR (AK.seqR ?_)))
      first | refine AK.ret Tryz.results180 rfl (Sub.refl _ _) (hT ?_) | refine AK.ret Tryz.results180 rfl (Sub.refl _ _) (hF ?_)
      first
      | exact (named_at hkl c13 hok).2 ⟨c17, c23⟩
      | (rw [named_at hkl c13 hok]; exact fun e => absurd e.2 (by rw [c23]; decide))
      | (rw [named_at hkl c13 hok]; exact fun e => absurd e.1 (by rw [c17]; decide))
      | exact named_none (fun j hj => hok j hj (by omega))
    ·refine AL.go (AO.move rfl rfl (AL.no rfl rfl rfl rfl (AL.no rfl rfl rfl rfl (AL.no rfl rfl rfl rfl (AL.no rfl rfl rfl rfl (AL.no rfl rfl rfl rfl ?_))))))
     refine AL.go (AO.pickF rfl rfl rfl (AL.go (AO.assign rfl rfl (AL.nil (AK.seqN (AC.ret (AK.blkR ?_)))))))
     refine AK.seqR (AK.seqR (AK.blkR (AK.seqR ?_)))
     first | refine AK.ret Tryz.results180 rfl (Sub.refl _ _) (hT ?_) | refine AK.ret Tryz.results180 rfl (Sub.refl _ _) (hF ?_)
     first
     | exact (named_at hkl c13 hok).2 ⟨c17, c23⟩
     | (rw [named_at hkl c13 hok]; exact fun e => absurd e.2 (by rw [c23]; decide))
     | (rw [named_at hkl c13 hok]; exact fun e => absurd e.1 (by rw [c17]; decide))
     | exact named_none (fun j hj => hok j hj (by omega))
   ·refine AL.nil (AK.seqN (AC.condF rfl (AC.skip (AK.blkN (AK.seqN ?_)))))
    refine AC.region (AL.go (AO.move rfl rfl (AL.go (AO.add rfl rfl rfl (by omega) (by omega) (AL.go (AO.assign rfl rfl (AL.nil ?_)))))))
    refine AK.next (k + 1) ⟨by omega, ?_⟩ (by omega) srA (Sub.refl _ _)
    intro j hj hjk
    rcases Nat.lt_succ_iff_lt_or_eq.1 hjk with h | rfl
    · exact hok j hj h
    · exact c13
  ·refine AL.nil (AK.seqN (AC.condF rfl (AC.exit (AK.seqX (AK.seqX ?_)))))
   refine AK.blkX (AK.seqN (AC.seq (AC.region (AL.go (AO.assign rfl rfl (AL.nil ?_))))))
   refine AK.seqN (AC.ret ?_)
   first | refine AK.ret Tryz.results180 rfl (Sub.refl _ _) (hT ?_) | refine AK.ret Tryz.results180 rfl (Sub.refl _ _) (hF ?_)
   first
   | exact (named_at hkl c13 hok).2 ⟨c17, c23⟩
   | (rw [named_at hkl c13 hok]; exact fun e => absurd e.2 (by rw [c23]; decide))
   | (rw [named_at hkl c13 hok]; exact fun e => absurd e.1 (by rw [c17]; decide))
   | exact named_none (fun j hj => hok j hj (by omega))
theorem relems_c (l : List Ty) (t : Ty) (ht : TyOk t) (hk : kidsP l t) {a1 a2 a3 : Option Addr} {k1 c1 k2 c2 k3 c3 : Nat} (m1 : fW t a1 k1 c1 ∈ F) (m2 : fK t a2 k2 c2 ∈ F) (m3 : fL l a3 k3 c3 ∈ F)
    (hT : elemsP l t → R (.bool true) L F) (hF : ¬ elemsP l t → R (.bool false) L F) : ACalls Tryz.prog W0 179 #[.slice a3 k3 c3, vTy t a1 k1 c1 a2 k2 c2] L F R := by
  refine ACalls.body Tryz.func179 rfl Tryz.ntmps179 rfl ?_
  refine AC.seq (AC.region (AL.go (AO.box rfl rfl (fun b3 => ?_))))
  refine AL.go (AO.assign rfl rfl (AL.nil (AK.seqN (AC.seq (AC.seq (AC.region ?_))))))
  refine AL.go (AO.field rfl rfl ?_)
  refine AL.go (AO.loadB rfl rfl ?_)
  refine AL.go (AO.len rfl rfl (fun hl10 => ?_) (hm := by repeat (first | exact mem0 | assumption | refine memS ?_)))
  refine AL.go (AO.field rfl rfl ?_)
  refine AL.go (AO.loadB rfl rfl ?_)
  refine AL.go (AO.len rfl rfl (fun hl13 => ?_) (hm := by repeat (first | exact mem0 | assumption | refine memS ?_)))
  refine AL.go (AO.neq rfl rfl rfl (fun c14 => ?_) (fun c14 => ?_))
  ·refine AL.go (AO.move rfl rfl (AL.no rfl rfl rfl rfl (AL.no rfl rfl rfl rfl (AL.no rfl rfl rfl rfl (AL.go (AO.pickT rfl rfl rfl (AL.go (AO.move rfl rfl ?_))))))))
   refine AL.no rfl rfl rfl rfl (AL.no rfl rfl rfl rfl (AL.no rfl rfl rfl rfl (AL.go (AO.pickT rfl rfl rfl (AL.nil (AK.seqN ?_))))))
   refine AC.condT rfl (AC.seq (AC.region (AL.go (AO.assign rfl rfl (AL.nil (AK.seqN ?_))))))
   refine AC.ret (AK.seqR ?_)
   first | refine AK.ret (L' := L) (F' := F) Tryz.results179 rfl subA (hT ?_) | refine AK.ret (L' := L) (F' := F) Tryz.results179 rfl subA (hF ?_)
   first
   | exact ⟨by omega, by omega, by omega, fun i hi => hok i hi (by omega)⟩
   | exact fun e => absurd e.1 (by omega)
   | exact fun e => absurd e.2.1 (by omega)
   | exact fun e => absurd e.2.2.1 (by omega)
   | (intro e
      have he := e.2.2.2 q hql
      unfold elemAtP at he
      rw [hK, hKid, hKidP, hPrev] at he
      rcases he with ⟨h1, h2, h3, h4, h5, h6⟩ | ⟨h1, h2, h3, h4⟩
      first | exact c39 h1 | exact h3 c49 | exact h4 c57 | (have := h6 (by omega) c76; omega) | omega
      first | exact h1 c39 | exact absurd h2 (by rw [c89]; decide) | exact (h4 (by omega)).1 c108 | exact c97 h3 | exact absurd (h4 (by omega)).2 (by rw [c117]; decide) | omega)
  ·refine AL.go (AO.move rfl rfl (AL.yes rfl rfl (AO.field rfl rfl ?_)))
   refine AL.yes rfl rfl (AO.loadB rfl rfl ?_)
   refine AL.yes rfl rfl (AO.lss rfl rfl rfl (fun c18 => ?_) (fun c18 => ?_))
   ·refine AL.go (AO.pickF rfl rfl rfl (AL.go (AO.move rfl rfl (AL.no rfl rfl rfl rfl (AL.no rfl rfl rfl rfl (AL.no rfl rfl rfl rfl (AL.go (AO.pickT rfl rfl rfl ?_))))))))
    refine AL.nil (AK.seqN (AC.condT rfl (AC.seq (AC.region (AL.go (AO.assign rfl rfl ?_))))))
    refine AL.nil (AK.seqN (AC.ret (AK.seqR ?_)))
    first | refine AK.ret (L' := L) (F' := F) Tryz.results179 rfl subA (hT ?_) | refine AK.ret (L' := L) (F' := F) Tryz.results179 rfl subA (hF ?_)
    first
    | exact ⟨by omega, by omega, by omega, fun i hi => hok i hi (by omega)⟩
    | exact fun e => absurd e.1 (by omega)
    | exact fun e => absurd e.2.1 (by omega)
    | exact fun e => absurd e.2.2.1 (by omega)
    | (intro e
       have he := e.2.2.2 q hql
       unfold elemAtP at he
       rw [hK, hKid, hKidP, hPrev] at he
       rcases he with ⟨h1, h2, h3, h4, h5, h6⟩ | ⟨h1, h2, h3, h4⟩
       first | exact c39 h1 | exact h3 c49 | exact h4 c57 | (have := h6 (by omega) c76; omega) | omega
       first | exact h1 c39 | exact absurd h2 (by rw [c89]; decide) | exact (h4 (by omega)).1 c108 | exact c97 h3 | exact absurd (h4 (by omega)).2 (by rw [c117]; decide) | omega)
   ·refine AL.go (AO.pickF rfl rfl rfl (AL.go (AO.move rfl rfl (AL.yes rfl rfl (AO.field rfl rfl ?_)))))
    refine AL.yes rfl rfl (AO.loadB rfl rfl ?_)
    refine AL.yes rfl rfl (AO.gtr rfl rfl rfl (fun c23 => ?_) (fun c23 => ?_))
    ·refine AL.go (AO.pickF rfl rfl rfl (AL.nil (AK.seqN (AC.condT rfl (AC.seq (AC.region ?_))))))
     refine AL.go (AO.assign rfl rfl (AL.nil (AK.seqN (AC.ret (AK.seqR ?_)))))
     first | refine AK.ret (L' := L) (F' := F) Tryz.results179 rfl subA (hT ?_) | refine AK.ret (L' := L) (F' := F) Tryz.results179 rfl subA (hF ?_)
     first
     | exact ⟨by omega, by omega, by omega, fun i hi => hok i hi (by omega)⟩
     | exact fun e => absurd e.1 (by omega)
     | exact fun e => absurd e.2.1 (by omega)
     | exact fun e => absurd e.2.2.1 (by omega)
     | (intro e
        have he := e.2.2.2 q hql
        unfold elemAtP at he
        rw [hK, hKid, hKidP, hPrev] at he
        rcases he with ⟨h1, h2, h3, h4, h5, h6⟩ | ⟨h1, h2, h3, h4⟩
        first | exact c39 h1 | exact h3 c49 | exact h4 c57 | (have := h6 (by omega) c76; omega) | omega
        first | exact h1 c39 | exact absurd h2 (by rw [c89]; decide) | exact (h4 (by omega)).1 c108 | exact c97 h3 | exact absurd (h4 (by omega)).2 (by rw [c117]; decide) | omega)
    ·refine AL.go (AO.pickF rfl rfl rfl (AL.nil (AK.seqN (AC.condF rfl (AC.skip (AK.seqN ?_))))))
     refine AC.seq (AC.seq (AC.region (AL.go (AO.field rfl rfl ?_))))
     refine AL.go (AO.loadB rfl rfl ?_)
     refine AL.go (AO.len rfl rfl (fun hl27 => ?_) (hm := by repeat (first | exact mem0 | assumption | refine memS ?_)))
     refine AL.go (AO.move rfl rfl (AL.nil (AK.seqN (AC.block ?_))))
     refine AC.loopC (fun (q : Nat) => q ≤ t.words.length ∧ ∀ j (hj : j < t.words.length), j < q → elemAtP l t j hj) (fun q => [(0, .slice a3 k3 c3), (3, .pointer (some ⟨b3, 0, none⟩)), (26, .slice a1 k1 c1), (27, .int .i64 t.words.length), (28, .int .i64 (q : Int))]) (fun q => t.words.length - q) 0 ⟨by omega, by omega⟩ srA ?_
     rintro q ⟨hq, hok⟩
     refine AC.seq (AC.region ?_)
     refine AL.go (AO.lss rfl rfl rfl (fun c29 => ?_) (fun c29 => ?_))
     ·refine AL.nil (AK.seqN (AC.seq (AC.condT rfl (AC.skip (AK.seqN ?_)))))
      refine AC.seq (AC.block (AC.seq (AC.region (AL.go (AO.move rfl rfl ?_)))))
      have hql : q < t.words.length := by omega
      have hwl := ht.word _ (List.getElem_mem hql)
      have hqk : q < t.kids.length := by omega
      obtain ⟨hkn, hkl⟩ := kid_nat hk hqk
      have hKid := kid_get hqk
      have hK : kindAt l (kidAt t q) = l[t.kids[q].toNat].kind := by rw [hKid]; exact kind_get hkn hkl
      have hKidP := kid_get (t := t) (i := q - 1) (by omega)
      have hPrev := word_get (ws := t.words) (i := q - 1) (by omega)
      refine AL.go (AO.indexAddr rfl rfl rfl rfl memA hql (fun _ _ => ?_))
      refine AL.go (AO.loadF rfl rfl ?_)
      intros
      refine AL.go (AO.assign rfl rfl (AL.go (AO.assign rfl rfl (AL.nil (AK.seqN (AC.seq (AC.region ?_)))))))
      refine AL.go (AO.field rfl rfl ?_)
      refine AL.go (AO.loadB rfl rfl ?_)
      refine AL.go (AO.move rfl rfl ?_)
      refine AL.go (AO.indexAddr rfl rfl rfl rfl memA hqk (fun _ _ => ?_))
      refine AL.go (AO.loadF rfl rfl ?_)
      intros
      refine AL.go (AO.assign rfl rfl (AL.nil (AK.seqN (AC.seq (AC.seq (AC.region ?_))))))
      refine AL.go (AO.move rfl rfl ?_)
      refine AL.go (AO.call rfl rfl (rmark_c t.words[q] (fun c39 => ?_) (fun c39 => ?_)))
      ·refine AL.nil (AK.seqN (AC.condT rfl (AC.seq (AC.seq (AC.region ?_)))))
       refine AL.go (AO.field rfl rfl ?_)
       refine AL.go (AO.loadB rfl rfl ?_)
       refine AL.go (AO.lss rfl rfl rfl (fun c42 => ?_) (fun c42 => ?_))
       ·refine AL.go (AO.move rfl rfl (AL.no rfl rfl rfl rfl (AL.no rfl rfl rfl rfl (AL.no rfl rfl rfl rfl (AL.no rfl rfl rfl rfl (AL.no rfl rfl rfl rfl ?_))))))
        refine AL.no rfl rfl rfl rfl (AL.go (AO.pickT rfl rfl rfl (AL.go (AO.move rfl rfl (AL.no rfl rfl rfl rfl (AL.no rfl rfl rfl rfl (AL.no rfl rfl rfl rfl ?_)))))))
        refine AL.no rfl rfl rfl rfl (AL.no rfl rfl rfl rfl (AL.no rfl rfl rfl rfl (AL.go (AO.pickT rfl rfl rfl (AL.go (AO.move rfl rfl (AL.no rfl rfl rfl rfl ?_)))))))
        refine AL.no rfl rfl rfl rfl (AL.no rfl rfl rfl rfl (AL.no rfl rfl rfl rfl (AL.no rfl rfl rfl rfl (AL.no rfl rfl rfl rfl (AL.go (AO.pickT rfl rfl rfl ?_))))))
        refine AL.nil (AK.seqN (AC.condT rfl (AC.seq (AC.region (AL.go (AO.assign rfl rfl ?_))))))
        refine AL.nil (AK.seqN (AC.ret (AK.seqR (AK.seqR (AK.blkR ?_)))))
        refine AK.seqR (AK.seqR (AK.blkR (AK.seqR ?_)))
        first | refine AK.ret (L' := L) (F' := F) Tryz.results179 rfl subA (hT ?_) | refine AK.ret (L' := L) (F' := F) Tryz.results179 rfl subA (hF ?_)
        first
        | exact ⟨by omega, by omega, by omega, fun i hi => hok i hi (by omega)⟩
        | exact fun e => absurd e.1 (by omega)
        | exact fun e => absurd e.2.1 (by omega)
        | exact fun e => absurd e.2.2.1 (by omega)
        | (intro e
           have he := e.2.2.2 q hql
           unfold elemAtP at he
           rw [hK, hKid, hKidP, hPrev] at he
           rcases he with ⟨h1, h2, h3, h4, h5, h6⟩ | ⟨h1, h2, h3, h4⟩
           first | exact c39 h1 | exact h3 c49 | exact h4 c57 | (have := h6 (by omega) c76; omega) | omega
           first | exact h1 c39 | exact absurd h2 (by rw [c89]; decide) | exact (h4 (by omega)).1 c108 | exact c97 h3 | exact absurd (h4 (by omega)).2 (by rw [c117]; decide) | omega)
       ·refine AL.go (AO.move rfl rfl (AL.yes rfl rfl (AO.move rfl rfl (AL.yes rfl rfl (AO.move rfl rfl ?_)))))
        refine AL.yes rfl rfl (AO.indexAddr (k := t.kids[q].toNat) rfl rfl rfl hkn memA hkl (fun _ _ => ?_))
        refine AL.yes rfl rfl (AO.fieldAt rfl rfl (fun _ => ?_))
        refine AL.yes rfl rfl (AO.loadF rfl rfl ?_)
        intros
        refine AL.yes rfl rfl (AO.eql rfl rfl rfl (fun c49 => ?_) (fun c49 => ?_))
        ·refine AL.go (AO.pickF rfl rfl rfl (AL.go (AO.move rfl rfl (AL.no rfl rfl rfl rfl (AL.no rfl rfl rfl rfl (AL.no rfl rfl rfl rfl (AL.no rfl rfl rfl rfl ?_)))))))
         refine AL.no rfl rfl rfl rfl (AL.no rfl rfl rfl rfl (AL.go (AO.pickT rfl rfl rfl (AL.go (AO.move rfl rfl (AL.no rfl rfl rfl rfl (AL.no rfl rfl rfl rfl ?_)))))))
         refine AL.no rfl rfl rfl rfl (AL.no rfl rfl rfl rfl (AL.no rfl rfl rfl rfl (AL.no rfl rfl rfl rfl (AL.go (AO.pickT rfl rfl rfl (AL.nil ?_))))))
         refine AK.seqN (AC.condT rfl (AC.seq (AC.region (AL.go (AO.assign rfl rfl (AL.nil ?_))))))
         refine AK.seqN (AC.ret (AK.seqR (AK.seqR (AK.blkR (AK.seqR ?_)))))
         refine AK.seqR (AK.blkR (AK.seqR ?_))
         first | refine AK.ret (L' := L) (F' := F) Tryz.results179 rfl subA (hT ?_) | refine AK.ret (L' := L) (F' := F) Tryz.results179 rfl subA (hF ?_)
         first
         | exact ⟨by omega, by omega, by omega, fun i hi => hok i hi (by omega)⟩
         | exact fun e => absurd e.1 (by omega)
         | exact fun e => absurd e.2.1 (by omega)
         | exact fun e => absurd e.2.2.1 (by omega)
         | (intro e
            have he := e.2.2.2 q hql
            unfold elemAtP at he
            rw [hK, hKid, hKidP, hPrev] at he
            rcases he with ⟨h1, h2, h3, h4, h5, h6⟩ | ⟨h1, h2, h3, h4⟩
            first | exact c39 h1 | exact h3 c49 | exact h4 c57 | (have := h6 (by omega) c76; omega) | omega
            first | exact h1 c39 | exact absurd h2 (by rw [c89]; decide) | exact (h4 (by omega)).1 c108 | exact c97 h3 | exact absurd (h4 (by omega)).2 (by rw [c117]; decide) | omega)
        ·refine AL.go (AO.pickF rfl rfl rfl (AL.go (AO.move rfl rfl (AL.yes rfl rfl (AO.move rfl rfl (AL.yes rfl rfl (AO.move rfl rfl ?_)))))))
         refine AL.yes rfl rfl (AO.indexAddr (k := t.kids[q].toNat) rfl rfl rfl hkn memA hkl (fun _ _ => ?_))
         refine AL.yes rfl rfl (AO.fieldAt rfl rfl (fun _ => ?_))
         refine AL.yes rfl rfl (AO.loadF rfl rfl ?_)
         intros
         refine AL.yes rfl rfl (AO.eql rfl rfl rfl (fun c57 => ?_) (fun c57 => ?_))
         ·refine AL.go (AO.pickF rfl rfl rfl (AL.go (AO.move rfl rfl (AL.no rfl rfl rfl rfl (AL.no rfl rfl rfl rfl (AL.no rfl rfl rfl rfl (AL.no rfl rfl rfl rfl ?_)))))))
          refine AL.no rfl rfl rfl rfl (AL.no rfl rfl rfl rfl (AL.go (AO.pickT rfl rfl rfl (AL.nil (AK.seqN (AC.condT rfl ?_))))))
          refine AC.seq (AC.region (AL.go (AO.assign rfl rfl (AL.nil (AK.seqN (AC.ret ?_))))))
          refine AK.seqR (AK.seqR (AK.blkR (AK.seqR (AK.seqR (AK.blkR ?_)))))
          refine AK.seqR ?_
          first | refine AK.ret (L' := L) (F' := F) Tryz.results179 rfl subA (hT ?_) | refine AK.ret (L' := L) (F' := F) Tryz.results179 rfl subA (hF ?_)
          first
          | exact ⟨by omega, by omega, by omega, fun i hi => hok i hi (by omega)⟩
          | exact fun e => absurd e.1 (by omega)
          | exact fun e => absurd e.2.1 (by omega)
          | exact fun e => absurd e.2.2.1 (by omega)
          | (intro e
             have he := e.2.2.2 q hql
             unfold elemAtP at he
             rw [hK, hKid, hKidP, hPrev] at he
             rcases he with ⟨h1, h2, h3, h4, h5, h6⟩ | ⟨h1, h2, h3, h4⟩
             first | exact c39 h1 | exact h3 c49 | exact h4 c57 | (have := h6 (by omega) c76; omega) | omega
             first | exact h1 c39 | exact absurd h2 (by rw [c89]; decide) | exact (h4 (by omega)).1 c108 | exact c97 h3 | exact absurd (h4 (by omega)).2 (by rw [c117]; decide) | omega)
         ·refine AL.go (AO.pickF rfl rfl rfl (AL.go (AO.move rfl rfl (AL.yes rfl rfl (AO.move rfl rfl ?_)))))
          refine AL.yes rfl rfl (AO.geq rfl rfl rfl (fun c61 => ?_) (fun c61 => ?_))
          ·refine AL.yes rfl rfl (AO.move rfl rfl (AL.yes rfl rfl (AO.move rfl rfl ?_)))
           refine AL.yes rfl rfl (AO.leq rfl rfl rfl (fun c64 => ?_) (fun c64 => ?_))
           ·refine AL.yes rfl rfl (AO.pickT rfl rfl rfl (AL.go (AO.pickF rfl rfl rfl (AL.nil (AK.seqN (AC.condT rfl (AC.seq ?_)))))))
            refine AC.region (AL.go (AO.assign rfl rfl (AL.nil (AK.seqN (AC.ret (AK.seqR ?_))))))
            refine AK.seqR (AK.blkR (AK.seqR (AK.seqR (AK.blkR (AK.seqR ?_)))))
            first | refine AK.ret (L' := L) (F' := F) Tryz.results179 rfl subA (hT ?_) | refine AK.ret (L' := L) (F' := F) Tryz.results179 rfl subA (hF ?_)
            first
            | exact ⟨by omega, by omega, by omega, fun i hi => hok i hi (by omega)⟩
            | exact fun e => absurd e.1 (by omega)
            | exact fun e => absurd e.2.1 (by omega)
            | exact fun e => absurd e.2.2.1 (by omega)
            | (intro e
               have he := e.2.2.2 q hql
               unfold elemAtP at he
               rw [hK, hKid, hKidP, hPrev] at he
               rcases he with ⟨h1, h2, h3, h4, h5, h6⟩ | ⟨h1, h2, h3, h4⟩
               first | exact c39 h1 | exact h3 c49 | exact h4 c57 | (have := h6 (by omega) c76; omega) | omega
               first | exact h1 c39 | exact absurd h2 (by rw [c89]; decide) | exact (h4 (by omega)).1 c108 | exact c97 h3 | exact absurd (h4 (by omega)).2 (by rw [c117]; decide) | omega)
           ·refine AL.yes rfl rfl (AO.pickT rfl rfl rfl (AL.go (AO.pickF rfl rfl rfl (AL.nil (AK.seqN (AC.condF rfl (AC.skip ?_)))))))
            refine AK.seqN (AC.seq (AC.seq (AC.region (AL.go (AO.move rfl rfl ?_)))))
            refine AL.go (AO.gtr rfl rfl rfl (fun c68 => ?_) (fun c68 => ?_))
            ·refine AL.go (AO.move rfl rfl (AL.yes rfl rfl (AO.field rfl rfl ?_)))
             refine AL.yes rfl rfl (AO.loadB rfl rfl ?_)
             refine AL.yes rfl rfl (AO.move rfl rfl (AL.yes rfl rfl (AO.sub rfl rfl rfl (by omega) (by omega) ?_)))
             refine AL.yes rfl rfl (AO.indexAddr (k := q - 1) rfl rfl rfl (by omega) memA (by omega) (fun _ _ => ?_))
             refine AL.yes rfl rfl (AO.loadF rfl rfl ?_)
             intros
             refine AL.yes rfl rfl (AO.call rfl rfl (rmark_c t.words[q - 1] (fun c76 => ?_) (fun c76 => ?_)))
             ·refine AL.go (AO.pickT rfl rfl rfl (AL.go (AO.move rfl rfl (AL.yes rfl rfl (AO.field rfl rfl ?_)))))
              refine AL.yes rfl rfl (AO.loadB rfl rfl ?_)
              refine AL.yes rfl rfl (AO.move rfl rfl (AL.yes rfl rfl (AO.sub rfl rfl rfl (by omega) (by omega) ?_)))
              refine AL.yes rfl rfl (AO.indexAddr (k := q - 1) rfl rfl rfl (by omega) memA (by omega) (fun _ _ => ?_))
              refine AL.yes rfl rfl (AO.loadF rfl rfl ?_)
              intros
              refine AL.yes rfl rfl (AO.move rfl rfl ?_)
              refine AL.yes rfl rfl (AO.geq rfl rfl rfl (fun c86 => ?_) (fun c86 => ?_))
              ·refine AL.go (AO.pickT rfl rfl rfl (AL.nil (AK.seqN (AC.condT rfl (AC.seq (AC.region ?_))))))
               refine AL.go (AO.assign rfl rfl (AL.nil (AK.seqN (AC.ret (AK.seqR (AK.seqR ?_))))))
               refine AK.blkR (AK.seqR (AK.seqR (AK.blkR (AK.seqR ?_))))
               first | refine AK.ret (L' := L) (F' := F) Tryz.results179 rfl subA (hT ?_) | refine AK.ret (L' := L) (F' := F) Tryz.results179 rfl subA (hF ?_)
               first
               | exact ⟨by omega, by omega, by omega, fun i hi => hok i hi (by omega)⟩
               | exact fun e => absurd e.1 (by omega)
               | exact fun e => absurd e.2.1 (by omega)
               | exact fun e => absurd e.2.2.1 (by omega)
               | (intro e
                  have he := e.2.2.2 q hql
                  unfold elemAtP at he
                  rw [hK, hKid, hKidP, hPrev] at he
                  rcases he with ⟨h1, h2, h3, h4, h5, h6⟩ | ⟨h1, h2, h3, h4⟩
                  first | exact c39 h1 | exact h3 c49 | exact h4 c57 | (have := h6 (by omega) c76; omega) | omega
                  first | exact h1 c39 | exact absurd h2 (by rw [c89]; decide) | exact (h4 (by omega)).1 c108 | exact c97 h3 | exact absurd (h4 (by omega)).2 (by rw [c117]; decide) | omega)
              ·refine AL.go (AO.pickT rfl rfl rfl (AL.nil (AK.seqN (AC.condF rfl (AC.skip (AK.seqN ?_))))))
               refine AC.exit (AK.seqX (AK.blkX (AK.seqN (AC.region (AL.go (AO.add rfl rfl rfl (by omega) (by omega) ?_))))))
               refine AL.go (AO.move rfl rfl (AL.nil ?_))
               refine AK.next (q + 1) ⟨by omega, ?_⟩ (by omega) srA (by first | exact Sub.refl _ _ | exact Sub.dropF | exact Sub.drop.trans Sub.dropF | repeat (first | exact Sub.refl _ _ | refine Sub.trans Sub.dropF ?_))
               intro j hj hjq
               rcases Nat.lt_succ_iff_lt_or_eq.1 hjq with k9 | rfl
               · exact hok j hj k9
               · unfold elemAtP
                 rw [hK, hKid, hKidP, hPrev]
                 first
                 | exact Or.inl ⟨c39, by omega, c49, c57, by omega, fun _ _ => by omega⟩
                 | exact Or.inl ⟨c39, by omega, c49, c57, by omega, fun _ h1 => absurd h1 c76⟩
                 | exact Or.inl ⟨c39, by omega, c49, c57, by omega, fun h0 _ => absurd h0 (by omega)⟩
                 | exact Or.inr ⟨c39, c89, c97, fun _ => ⟨c108, c117⟩⟩
                 | exact Or.inr ⟨c39, c89, c97, fun h0 => absurd h0 (by omega)⟩
             ·refine AL.go (AO.pickT rfl rfl rfl (AL.go (AO.move rfl rfl (AL.no rfl rfl rfl rfl (AL.no rfl rfl rfl rfl (AL.no rfl rfl rfl rfl (AL.no rfl rfl rfl rfl ?_)))))))
              refine AL.no rfl rfl rfl rfl (AL.no rfl rfl rfl rfl (AL.no rfl rfl rfl rfl (AL.no rfl rfl rfl rfl (AL.go (AO.pickF rfl rfl rfl (AL.nil ?_))))))
              refine AK.seqN (AC.condF rfl (AC.skip (AK.seqN (AC.exit (AK.seqX ?_)))))
              refine AK.blkX (AK.seqN (AC.region (AL.go (AO.add rfl rfl rfl (by omega) (by omega) (AL.go (AO.move rfl rfl (AL.nil ?_)))))))
              refine AK.next (q + 1) ⟨by omega, ?_⟩ (by omega) srA (by first | exact Sub.refl _ _ | exact Sub.dropF | exact Sub.drop.trans Sub.dropF | repeat (first | exact Sub.refl _ _ | refine Sub.trans Sub.dropF ?_))
              intro j hj hjq
              rcases Nat.lt_succ_iff_lt_or_eq.1 hjq with k9 | rfl
              · exact hok j hj k9
              · unfold elemAtP
                rw [hK, hKid, hKidP, hPrev]
                first
                | exact Or.inl ⟨c39, by omega, c49, c57, by omega, fun _ _ => by omega⟩
                | exact Or.inl ⟨c39, by omega, c49, c57, by omega, fun _ h1 => absurd h1 c76⟩
                | exact Or.inl ⟨c39, by omega, c49, c57, by omega, fun h0 _ => absurd h0 (by omega)⟩
                | exact Or.inr ⟨c39, c89, c97, fun _ => ⟨c108, c117⟩⟩
                | exact Or.inr ⟨c39, c89, c97, fun h0 => absurd h0 (by omega)⟩
            ·refine AL.go (AO.move rfl rfl (AL.no rfl rfl rfl rfl (AL.no rfl rfl rfl rfl (AL.no rfl rfl rfl rfl (AL.no rfl rfl rfl rfl (AL.no rfl rfl rfl rfl ?_))))))
             refine AL.no rfl rfl rfl rfl (AL.no rfl rfl rfl rfl (AL.go (AO.pickF rfl rfl rfl (AL.go (AO.move rfl rfl (AL.no rfl rfl rfl rfl (AL.no rfl rfl rfl rfl ?_)))))))
             refine AL.no rfl rfl rfl rfl (AL.no rfl rfl rfl rfl (AL.no rfl rfl rfl rfl (AL.no rfl rfl rfl rfl (AL.no rfl rfl rfl rfl (AL.no rfl rfl rfl rfl ?_)))))
             refine AL.go (AO.pickF rfl rfl rfl (AL.nil (AK.seqN (AC.condF rfl (AC.skip (AK.seqN ?_))))))
             refine AC.exit (AK.seqX (AK.blkX (AK.seqN (AC.region (AL.go (AO.add rfl rfl rfl (by omega) (by omega) ?_))))))
             refine AL.go (AO.move rfl rfl (AL.nil ?_))
             refine AK.next (q + 1) ⟨by omega, ?_⟩ (by omega) srA (by first | exact Sub.refl _ _ | exact Sub.dropF | exact Sub.drop.trans Sub.dropF | repeat (first | exact Sub.refl _ _ | refine Sub.trans Sub.dropF ?_))
             intro j hj hjq
             rcases Nat.lt_succ_iff_lt_or_eq.1 hjq with k9 | rfl
             · exact hok j hj k9
             · unfold elemAtP
               rw [hK, hKid, hKidP, hPrev]
               first
               | exact Or.inl ⟨c39, by omega, c49, c57, by omega, fun _ _ => by omega⟩
               | exact Or.inl ⟨c39, by omega, c49, c57, by omega, fun _ h1 => absurd h1 c76⟩
               | exact Or.inl ⟨c39, by omega, c49, c57, by omega, fun h0 _ => absurd h0 (by omega)⟩
               | exact Or.inr ⟨c39, c89, c97, fun _ => ⟨c108, c117⟩⟩
               | exact Or.inr ⟨c39, c89, c97, fun h0 => absurd h0 (by omega)⟩
          ·refine AL.yes rfl rfl (AO.move rfl rfl (AL.no rfl rfl rfl rfl (AL.no rfl rfl rfl rfl (AL.yes rfl rfl (AO.pickF rfl rfl rfl (AL.go (AO.pickF rfl rfl rfl (AL.nil ?_))))))))
           refine AK.seqN (AC.condF rfl (AC.skip (AK.seqN (AC.seq (AC.seq ?_)))))
           refine AC.region (AL.go (AO.move rfl rfl ?_))
           refine AL.go (AO.gtr rfl rfl rfl (fun c68 => ?_) (fun c68 => ?_))
           ·refine AL.go (AO.move rfl rfl (AL.yes rfl rfl (AO.field rfl rfl ?_)))
            refine AL.yes rfl rfl (AO.loadB rfl rfl ?_)
            refine AL.yes rfl rfl (AO.move rfl rfl (AL.yes rfl rfl (AO.sub rfl rfl rfl (by omega) (by omega) ?_)))
            refine AL.yes rfl rfl (AO.indexAddr (k := q - 1) rfl rfl rfl (by omega) memA (by omega) (fun _ _ => ?_))
            refine AL.yes rfl rfl (AO.loadF rfl rfl ?_)
            intros
            refine AL.yes rfl rfl (AO.call rfl rfl (rmark_c t.words[q - 1] (fun c76 => ?_) (fun c76 => ?_)))
            ·refine AL.go (AO.pickT rfl rfl rfl (AL.go (AO.move rfl rfl (AL.yes rfl rfl (AO.field rfl rfl ?_)))))
             refine AL.yes rfl rfl (AO.loadB rfl rfl ?_)
             refine AL.yes rfl rfl (AO.move rfl rfl (AL.yes rfl rfl (AO.sub rfl rfl rfl (by omega) (by omega) ?_)))
             refine AL.yes rfl rfl (AO.indexAddr (k := q - 1) rfl rfl rfl (by omega) memA (by omega) (fun _ _ => ?_))
             refine AL.yes rfl rfl (AO.loadF rfl rfl ?_)
             intros
             refine AL.yes rfl rfl (AO.move rfl rfl ?_)
             refine AL.yes rfl rfl (AO.geq rfl rfl rfl (fun c86 => ?_) (fun c86 => ?_))
             ·refine AL.go (AO.pickT rfl rfl rfl (AL.nil (AK.seqN (AC.condT rfl (AC.seq (AC.region ?_))))))
              refine AL.go (AO.assign rfl rfl (AL.nil (AK.seqN (AC.ret (AK.seqR (AK.seqR ?_))))))
              refine AK.blkR (AK.seqR (AK.seqR (AK.blkR (AK.seqR ?_))))
              first | refine AK.ret (L' := L) (F' := F) Tryz.results179 rfl subA (hT ?_) | refine AK.ret (L' := L) (F' := F) Tryz.results179 rfl subA (hF ?_)
              first
              | exact ⟨by omega, by omega, by omega, fun i hi => hok i hi (by omega)⟩
              | exact fun e => absurd e.1 (by omega)
              | exact fun e => absurd e.2.1 (by omega)
              | exact fun e => absurd e.2.2.1 (by omega)
              | (intro e
                 have he := e.2.2.2 q hql
                 unfold elemAtP at he
                 rw [hK, hKid, hKidP, hPrev] at he
                 rcases he with ⟨h1, h2, h3, h4, h5, h6⟩ | ⟨h1, h2, h3, h4⟩
                 first | exact c39 h1 | exact h3 c49 | exact h4 c57 | (have := h6 (by omega) c76; omega) | omega
                 first | exact h1 c39 | exact absurd h2 (by rw [c89]; decide) | exact (h4 (by omega)).1 c108 | exact c97 h3 | exact absurd (h4 (by omega)).2 (by rw [c117]; decide) | omega)
             ·refine AL.go (AO.pickT rfl rfl rfl (AL.nil (AK.seqN (AC.condF rfl (AC.skip (AK.seqN ?_))))))
              refine AC.exit (AK.seqX (AK.blkX (AK.seqN (AC.region (AL.go (AO.add rfl rfl rfl (by omega) (by omega) ?_))))))
              refine AL.go (AO.move rfl rfl (AL.nil ?_))
              refine AK.next (q + 1) ⟨by omega, ?_⟩ (by omega) srA (by first | exact Sub.refl _ _ | exact Sub.dropF | exact Sub.drop.trans Sub.dropF | repeat (first | exact Sub.refl _ _ | refine Sub.trans Sub.dropF ?_))
              intro j hj hjq
              rcases Nat.lt_succ_iff_lt_or_eq.1 hjq with k9 | rfl
              · exact hok j hj k9
              · unfold elemAtP
                rw [hK, hKid, hKidP, hPrev]
                first
                | exact Or.inl ⟨c39, by omega, c49, c57, by omega, fun _ _ => by omega⟩
                | exact Or.inl ⟨c39, by omega, c49, c57, by omega, fun _ h1 => absurd h1 c76⟩
                | exact Or.inl ⟨c39, by omega, c49, c57, by omega, fun h0 _ => absurd h0 (by omega)⟩
                | exact Or.inr ⟨c39, c89, c97, fun _ => ⟨c108, c117⟩⟩
                | exact Or.inr ⟨c39, c89, c97, fun h0 => absurd h0 (by omega)⟩
            ·refine AL.go (AO.pickT rfl rfl rfl (AL.go (AO.move rfl rfl (AL.no rfl rfl rfl rfl (AL.no rfl rfl rfl rfl (AL.no rfl rfl rfl rfl (AL.no rfl rfl rfl rfl ?_)))))))
             refine AL.no rfl rfl rfl rfl (AL.no rfl rfl rfl rfl (AL.no rfl rfl rfl rfl (AL.no rfl rfl rfl rfl (AL.go (AO.pickF rfl rfl rfl (AL.nil ?_))))))
             refine AK.seqN (AC.condF rfl (AC.skip (AK.seqN (AC.exit (AK.seqX ?_)))))
             refine AK.blkX (AK.seqN (AC.region (AL.go (AO.add rfl rfl rfl (by omega) (by omega) (AL.go (AO.move rfl rfl (AL.nil ?_)))))))
             refine AK.next (q + 1) ⟨by omega, ?_⟩ (by omega) srA (by first | exact Sub.refl _ _ | exact Sub.dropF | exact Sub.drop.trans Sub.dropF | repeat (first | exact Sub.refl _ _ | refine Sub.trans Sub.dropF ?_))
             intro j hj hjq
             rcases Nat.lt_succ_iff_lt_or_eq.1 hjq with k9 | rfl
             · exact hok j hj k9
             · unfold elemAtP
               rw [hK, hKid, hKidP, hPrev]
               first
               | exact Or.inl ⟨c39, by omega, c49, c57, by omega, fun _ _ => by omega⟩
               | exact Or.inl ⟨c39, by omega, c49, c57, by omega, fun _ h1 => absurd h1 c76⟩
               | exact Or.inl ⟨c39, by omega, c49, c57, by omega, fun h0 _ => absurd h0 (by omega)⟩
               | exact Or.inr ⟨c39, c89, c97, fun _ => ⟨c108, c117⟩⟩
               | exact Or.inr ⟨c39, c89, c97, fun h0 => absurd h0 (by omega)⟩
           ·refine AL.go (AO.move rfl rfl (AL.no rfl rfl rfl rfl (AL.no rfl rfl rfl rfl (AL.no rfl rfl rfl rfl (AL.no rfl rfl rfl rfl (AL.no rfl rfl rfl rfl ?_))))))
            refine AL.no rfl rfl rfl rfl (AL.no rfl rfl rfl rfl (AL.go (AO.pickF rfl rfl rfl (AL.go (AO.move rfl rfl (AL.no rfl rfl rfl rfl (AL.no rfl rfl rfl rfl ?_)))))))
            refine AL.no rfl rfl rfl rfl (AL.no rfl rfl rfl rfl (AL.no rfl rfl rfl rfl (AL.no rfl rfl rfl rfl (AL.no rfl rfl rfl rfl (AL.no rfl rfl rfl rfl ?_)))))
            refine AL.go (AO.pickF rfl rfl rfl (AL.nil (AK.seqN (AC.condF rfl (AC.skip (AK.seqN ?_))))))
            refine AC.exit (AK.seqX (AK.blkX (AK.seqN (AC.region (AL.go (AO.add rfl rfl rfl (by omega) (by omega) ?_))))))
            refine AL.go (AO.move rfl rfl (AL.nil ?_))
            refine AK.next (q + 1) ⟨by omega, ?_⟩ (by omega) srA (by first | exact Sub.refl _ _ | exact Sub.dropF | exact Sub.drop.trans Sub.dropF | repeat (first | exact Sub.refl _ _ | refine Sub.trans Sub.dropF ?_))
            intro j hj hjq
            rcases Nat.lt_succ_iff_lt_or_eq.1 hjq with k9 | rfl
            · exact hok j hj k9
            · unfold elemAtP
              rw [hK, hKid, hKidP, hPrev]
              first
              | exact Or.inl ⟨c39, by omega, c49, c57, by omega, fun _ _ => by omega⟩
              | exact Or.inl ⟨c39, by omega, c49, c57, by omega, fun _ h1 => absurd h1 c76⟩
              | exact Or.inl ⟨c39, by omega, c49, c57, by omega, fun h0 _ => absurd h0 (by omega)⟩
              | exact Or.inr ⟨c39, c89, c97, fun _ => ⟨c108, c117⟩⟩
              | exact Or.inr ⟨c39, c89, c97, fun h0 => absurd h0 (by omega)⟩
      ·refine AL.nil (AK.seqN (AC.condF rfl (AC.skip (AK.seqN (AC.seq ?_)))))
       refine AC.seq (AC.region (AL.go (AO.move rfl rfl ?_)))
       refine AL.go (AO.call rfl rfl (rname_c t.words[q] (by omega) (fun c89 => ?_) (fun c89 => ?_)))
       ·refine AL.go (AO.not rfl rfl (AL.go (AO.move rfl rfl (AL.yes rfl rfl (AO.move rfl rfl (AL.yes rfl rfl (AO.move rfl rfl ?_)))))))
        refine AL.yes rfl rfl (AO.indexAddr (k := t.kids[q].toNat) rfl rfl rfl hkn memA hkl (fun _ _ => ?_))
        refine AL.yes rfl rfl (AO.fieldAt rfl rfl (fun _ => ?_))
        refine AL.yes rfl rfl (AO.loadF rfl rfl ?_)
        intros
        refine AL.yes rfl rfl (AO.neq rfl rfl rfl (fun c97 => ?_) (fun c97 => ?_))
        ·refine AL.go (AO.pickF rfl rfl rfl (AL.nil (AK.seqN (AC.condT rfl (AC.seq (AC.region ?_))))))
         refine AL.go (AO.assign rfl rfl (AL.nil (AK.seqN (AC.ret (AK.seqR (AK.blkR ?_))))))
         refine AK.seqR (AK.seqR (AK.blkR (AK.seqR ?_)))
         first | refine AK.ret (L' := L) (F' := F) Tryz.results179 rfl subA (hT ?_) | refine AK.ret (L' := L) (F' := F) Tryz.results179 rfl subA (hF ?_)
         first
         | exact ⟨by omega, by omega, by omega, fun i hi => hok i hi (by omega)⟩
         | exact fun e => absurd e.1 (by omega)
         | exact fun e => absurd e.2.1 (by omega)
         | exact fun e => absurd e.2.2.1 (by omega)
         | (intro e
            have he := e.2.2.2 q hql
            unfold elemAtP at he
            rw [hK, hKid, hKidP, hPrev] at he
            rcases he with ⟨h1, h2, h3, h4, h5, h6⟩ | ⟨h1, h2, h3, h4⟩
            first | exact c39 h1 | exact h3 c49 | exact h4 c57 | (have := h6 (by omega) c76; omega) | omega
            first | exact h1 c39 | exact absurd h2 (by rw [c89]; decide) | exact (h4 (by omega)).1 c108 | exact c97 h3 | exact absurd (h4 (by omega)).2 (by rw [c117]; decide) | omega)
        ·refine AL.go (AO.pickF rfl rfl rfl (AL.nil (AK.seqN (AC.condF rfl (AC.skip (AK.seqN ?_))))))
         refine AC.seq (AC.region (AL.go (AO.move rfl rfl ?_)))
         refine AL.go (AO.gtr rfl rfl rfl (fun c100 => ?_) (fun c100 => ?_))
         ·refine AL.go (AO.move rfl rfl (AL.yes rfl rfl (AO.field rfl rfl ?_)))
          refine AL.yes rfl rfl (AO.loadB rfl rfl ?_)
          refine AL.yes rfl rfl (AO.move rfl rfl (AL.yes rfl rfl (AO.sub rfl rfl rfl (by omega) (by omega) ?_)))
          refine AL.yes rfl rfl (AO.indexAddr (k := q - 1) rfl rfl rfl (by omega) memA (by omega) (fun _ _ => ?_))
          refine AL.yes rfl rfl (AO.loadF rfl rfl ?_)
          intros
          refine AL.yes rfl rfl (AO.call rfl rfl (rmark_c t.words[q - 1] (fun c108 => ?_) (fun c108 => ?_)))
          ·refine AL.yes rfl rfl (AO.move rfl rfl (AL.no rfl rfl rfl rfl (AL.no rfl rfl rfl rfl (AL.no rfl rfl rfl rfl (AL.no rfl rfl rfl rfl (AL.no rfl rfl rfl rfl ?_))))))
           refine AL.no rfl rfl rfl rfl (AL.no rfl rfl rfl rfl (AL.no rfl rfl rfl rfl (AL.yes rfl rfl (AO.pickT rfl rfl rfl (AL.go (AO.pickT rfl rfl rfl (AL.nil ?_)))))))
           refine AK.seqN (AC.condT rfl (AC.seq (AC.region (AL.go (AO.assign rfl rfl (AL.nil ?_))))))
           refine AK.seqN (AC.ret (AK.blkR (AK.seqR (AK.seqR (AK.blkR ?_)))))
           refine AK.seqR ?_
           first | refine AK.ret (L' := L) (F' := F) Tryz.results179 rfl subA (hT ?_) | refine AK.ret (L' := L) (F' := F) Tryz.results179 rfl subA (hF ?_)
           first
           | exact ⟨by omega, by omega, by omega, fun i hi => hok i hi (by omega)⟩
           | exact fun e => absurd e.1 (by omega)
           | exact fun e => absurd e.2.1 (by omega)
           | exact fun e => absurd e.2.2.1 (by omega)
           | (intro e
              have he := e.2.2.2 q hql
              unfold elemAtP at he
              rw [hK, hKid, hKidP, hPrev] at he
              rcases he with ⟨h1, h2, h3, h4, h5, h6⟩ | ⟨h1, h2, h3, h4⟩
              first | exact c39 h1 | exact h3 c49 | exact h4 c57 | (have := h6 (by omega) c76; omega) | omega
              first | exact h1 c39 | exact absurd h2 (by rw [c89]; decide) | exact (h4 (by omega)).1 c108 | exact c97 h3 | exact absurd (h4 (by omega)).2 (by rw [c117]; decide) | omega)
          ·refine AL.yes rfl rfl (AO.move rfl rfl (AL.yes rfl rfl (AO.field rfl rfl ?_)))
           refine AL.yes rfl rfl (AO.loadB rfl rfl ?_)
           refine AL.yes rfl rfl (AO.move rfl rfl (AL.yes rfl rfl (AO.sub rfl rfl rfl (by omega) (by omega) ?_)))
           refine AL.yes rfl rfl (AO.indexAddr (k := q - 1) rfl rfl rfl (by omega) memA (by omega) (fun _ _ => ?_))
           refine AL.yes rfl rfl (AO.loadF rfl rfl ?_)
           intros
           refine AL.yes rfl rfl (AO.move rfl rfl ?_)
           refine AL.yes rfl rfl (AO.geqS rfl rfl rfl (fun c117 => ?_) (fun c117 => ?_))
           ·refine AL.yes rfl rfl (AO.pickF rfl rfl rfl (AL.go (AO.pickT rfl rfl rfl (AL.nil (AK.seqN (AC.condT rfl (AC.seq ?_)))))))
            refine AC.region (AL.go (AO.assign rfl rfl (AL.nil (AK.seqN (AC.ret (AK.blkR ?_))))))
            refine AK.seqR (AK.seqR (AK.blkR (AK.seqR ?_)))
            first | refine AK.ret (L' := L) (F' := F) Tryz.results179 rfl subA (hT ?_) | refine AK.ret (L' := L) (F' := F) Tryz.results179 rfl subA (hF ?_)
            first
            | exact ⟨by omega, by omega, by omega, fun i hi => hok i hi (by omega)⟩
            | exact fun e => absurd e.1 (by omega)
            | exact fun e => absurd e.2.1 (by omega)
            | exact fun e => absurd e.2.2.1 (by omega)
            | (intro e
               have he := e.2.2.2 q hql
               unfold elemAtP at he
               rw [hK, hKid, hKidP, hPrev] at he
               rcases he with ⟨h1, h2, h3, h4, h5, h6⟩ | ⟨h1, h2, h3, h4⟩
               first | exact c39 h1 | exact h3 c49 | exact h4 c57 | (have := h6 (by omega) c76; omega) | omega
               first | exact h1 c39 | exact absurd h2 (by rw [c89]; decide) | exact (h4 (by omega)).1 c108 | exact c97 h3 | exact absurd (h4 (by omega)).2 (by rw [c117]; decide) | omega)
           ·refine AL.yes rfl rfl (AO.pickF rfl rfl rfl (AL.go (AO.pickT rfl rfl rfl (AL.nil (AK.seqN (AC.condF rfl (AC.skip ?_)))))))
            refine AK.blkN (AK.seqN (AC.region (AL.go (AO.add rfl rfl rfl (by omega) (by omega) (AL.go (AO.move rfl rfl (AL.nil ?_)))))))
            refine AK.next (q + 1) ⟨by omega, ?_⟩ (by omega) srA (by first | exact Sub.refl _ _ | exact Sub.dropF | exact Sub.drop.trans Sub.dropF | repeat (first | exact Sub.refl _ _ | refine Sub.trans Sub.dropF ?_))
            intro j hj hjq
            rcases Nat.lt_succ_iff_lt_or_eq.1 hjq with k9 | rfl
            · exact hok j hj k9
            · unfold elemAtP
              rw [hK, hKid, hKidP, hPrev]
              first
              | exact Or.inl ⟨c39, by omega, c49, c57, by omega, fun _ _ => by omega⟩
              | exact Or.inl ⟨c39, by omega, c49, c57, by omega, fun _ h1 => absurd h1 c76⟩
              | exact Or.inl ⟨c39, by omega, c49, c57, by omega, fun h0 _ => absurd h0 (by omega)⟩
              | exact Or.inr ⟨c39, c89, c97, fun _ => ⟨c108, c117⟩⟩
              | exact Or.inr ⟨c39, c89, c97, fun h0 => absurd h0 (by omega)⟩
         ·refine AL.go (AO.move rfl rfl (AL.no rfl rfl rfl rfl (AL.no rfl rfl rfl rfl (AL.no rfl rfl rfl rfl (AL.no rfl rfl rfl rfl (AL.no rfl rfl rfl rfl ?_))))))
          refine AL.no rfl rfl rfl rfl (AL.no rfl rfl rfl rfl (AL.no rfl rfl rfl rfl (AL.no rfl rfl rfl rfl (AL.no rfl rfl rfl rfl (AL.no rfl rfl rfl rfl ?_)))))
          refine AL.no rfl rfl rfl rfl (AL.no rfl rfl rfl rfl (AL.no rfl rfl rfl rfl (AL.no rfl rfl rfl rfl (AL.no rfl rfl rfl rfl (AL.no rfl rfl rfl rfl ?_)))))
          refine AL.go (AO.pickF rfl rfl rfl (AL.nil (AK.seqN (AC.condF rfl (AC.skip (AK.blkN ?_))))))
          refine AK.seqN (AC.region (AL.go (AO.add rfl rfl rfl (by omega) (by omega) (AL.go (AO.move rfl rfl (AL.nil ?_))))))
          refine AK.next (q + 1) ⟨by omega, ?_⟩ (by omega) srA (by first | exact Sub.refl _ _ | exact Sub.dropF | exact Sub.drop.trans Sub.dropF | repeat (first | exact Sub.refl _ _ | refine Sub.trans Sub.dropF ?_))
          intro j hj hjq
          rcases Nat.lt_succ_iff_lt_or_eq.1 hjq with k9 | rfl
          · exact hok j hj k9
          · unfold elemAtP
            rw [hK, hKid, hKidP, hPrev]
            first
            | exact Or.inl ⟨c39, by omega, c49, c57, by omega, fun _ _ => by omega⟩
            | exact Or.inl ⟨c39, by omega, c49, c57, by omega, fun _ h1 => absurd h1 c76⟩
            | exact Or.inl ⟨c39, by omega, c49, c57, by omega, fun h0 _ => absurd h0 (by omega)⟩
            | exact Or.inr ⟨c39, c89, c97, fun _ => ⟨c108, c117⟩⟩
            | exact Or.inr ⟨c39, c89, c97, fun h0 => absurd h0 (by omega)⟩
       ·refine AL.go (AO.not rfl rfl (AL.go (AO.move rfl rfl (AL.no rfl rfl rfl rfl (AL.no rfl rfl rfl rfl (AL.no rfl rfl rfl rfl (AL.no rfl rfl rfl rfl ?_)))))))
        refine AL.no rfl rfl rfl rfl (AL.no rfl rfl rfl rfl (AL.go (AO.pickT rfl rfl rfl (AL.nil (AK.seqN (AC.condT rfl ?_))))))
        refine AC.seq (AC.region (AL.go (AO.assign rfl rfl (AL.nil (AK.seqN (AC.ret ?_))))))
        refine AK.seqR (AK.blkR (AK.seqR (AK.seqR (AK.blkR (AK.seqR ?_)))))
        first | refine AK.ret (L' := L) (F' := F) Tryz.results179 rfl subA (hT ?_) | refine AK.ret (L' := L) (F' := F) Tryz.results179 rfl subA (hF ?_)
        first
        | exact ⟨by omega, by omega, by omega, fun i hi => hok i hi (by omega)⟩
        | exact fun e => absurd e.1 (by omega)
        | exact fun e => absurd e.2.1 (by omega)
        | exact fun e => absurd e.2.2.1 (by omega)
        | (intro e
           have he := e.2.2.2 q hql
           unfold elemAtP at he
           rw [hK, hKid, hKidP, hPrev] at he
           rcases he with ⟨h1, h2, h3, h4, h5, h6⟩ | ⟨h1, h2, h3, h4⟩
           first | exact c39 h1 | exact h3 c49 | exact h4 c57 | (have := h6 (by omega) c76; omega) | omega
           first | exact h1 c39 | exact absurd h2 (by rw [c89]; decide) | exact (h4 (by omega)).1 c108 | exact c97 h3 | exact absurd (h4 (by omega)).2 (by rw [c117]; decide) | omega)
     ·refine AL.nil (AK.seqN (AC.seq (AC.condF rfl (AC.exit (AK.seqX ?_)))))
      refine AK.seqX (AK.blkX (AK.seqN (AC.seq (AC.region (AL.go (AO.assign rfl rfl ?_))))))
      refine AL.nil (AK.seqN (AC.ret ?_))
      first | refine AK.ret (L' := L) (F' := F) Tryz.results179 rfl subA (hT ?_) | refine AK.ret (L' := L) (F' := F) Tryz.results179 rfl subA (hF ?_)
      first
      | exact ⟨by omega, by omega, by omega, fun i hi => hok i hi (by omega)⟩
      | exact fun e => absurd e.1 (by omega)
      | exact fun e => absurd e.2.1 (by omega)
      | exact fun e => absurd e.2.2.1 (by omega)
      | (intro e
         have he := e.2.2.2 q hql
         unfold elemAtP at he
         rw [hK, hKid, hKidP, hPrev] at he
         rcases he with ⟨h1, h2, h3, h4, h5, h6⟩ | ⟨h1, h2, h3, h4⟩
         first | exact c39 h1 | exact h3 c49 | exact h4 c57 | (have := h6 (by omega) c76; omega) | omega
         first | exact h1 c39 | exact absurd h2 (by rw [c89]; decide) | exact (h4 (by omega)).1 c108 | exact c97 h3 | exact absurd (h4 (by omega)).2 (by rw [c117]; decide) | omega)
end
end Go.Sy
