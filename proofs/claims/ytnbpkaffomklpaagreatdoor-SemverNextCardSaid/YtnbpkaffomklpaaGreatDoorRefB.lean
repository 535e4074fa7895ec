/- The document's functions on versions: which may be, and which of two is ahead. -/
import Derived.Test.YtnbpkaffomklpaaGreatDoorRefA
import Derived.Test.YtnbpkaffomklpaaGreatDoorSem5
import Derived.Test.YtnbpkaffomklpaaGreatDoorFwN
namespace Go.Sy
open Go Go.Proofs Go.RowKit

theorem odd1 {b : Bool} {x : List UInt8} (h : wordS x = false) : oddM b x = true := by unfold oddM; rw [h]; rfl
theorem odd2 {b : Bool} {x : List UInt8} (h : (x.length : Int) > 40) : oddM b x = true := by unfold oddM; rw [decide_eq_true (by omega : 40 < x.length)]; cases wordS x <;> rfl
theorem odd3 {x : List UInt8} (h1 : numericS x = true) (h2 : numberS x = false) : oddM true x = true := by unfold oddM; rw [h1, h2]; simp
theorem odd4 {x : List UInt8} (h1 : numericS x = true) (h2 : greatS x = true) : oddM true x = true := by
  unfold greatS at h2; rw [h1] at h2
  have : fitsS x = false := by simpa using h2
  unfold oddM; rw [h1, this]; simp
theorem odd5 {x : List UInt8} (h1 : wordS x = true) (h2 : (x.length : Int) ≤ 40) (h3 : numericS x = false) : oddM true x = false := by
  unfold oddM; rw [h1, h3, decide_eq_false (by omega : ¬ 40 < x.length)]; rfl
theorem odd6 {x : List UInt8} (h1 : wordS x = true) (h2 : (x.length : Int) ≤ 40) (h3 : numericS x = true) (h4 : numberS x = true) (h5 : greatS x = false) : oddM true x = false := by
  unfold greatS at h5; rw [h3] at h5
  have : fitsS x = true := by simpa using h5
  unfold oddM; rw [h1, h3, h4, this, decide_eq_false (by omega : ¬ 40 < x.length)]; rfl
theorem odd7 {x : List UInt8} (h1 : wordS x = true) (h2 : (x.length : Int) ≤ 40) : oddM false x = false := by
  unfold oddM; rw [h1, decide_eq_false (by omega : ¬ 40 < x.length)]; rfl
theorem any_none {α : Type} {p : α → Bool} {l : List α} (h : ∀ j (hj : j < l.length), p l[j] = false) : l.any p = false := by
  rw [List.any_eq_false]; intro x hx
  obtain ⟨j, hj, rfl⟩ := List.getElem_of_mem hx
  simp [h j hj]
theorem any_some {α : Type} {p : α → Bool} {l : List α} {j : Nat} (hj : j < l.length) (h : p l[j] = true) : l.any p = true := by
  rw [List.any_eq_true]; exact ⟨l[j], List.getElem_mem hj, h⟩
section
variable {v : Ver}
theorem rr1 (h : v.major < 0) : rightV v = false := by unfold rightV; rw [decide_eq_false (by omega)]; rfl
theorem rr2 (h : v.minor < 0) : rightV v = false := by unfold rightV; rw [decide_eq_false (by omega : ¬ 0 ≤ v.minor)]; simp
theorem rr3 (h : v.patch < 0) : rightV v = false := by unfold rightV; rw [decide_eq_false (by omega : ¬ 0 ≤ v.patch)]; simp
theorem may_len {l : List (List UInt8)} {b : Bool} (h : (l.length : Int) > 8) : mayS l b = false := by unfold mayS; rw [decide_eq_false (by omega)]; rfl
theorem may_odd {l : List (List UInt8)} {b : Bool} {q : Nat} (hq : q < l.length) (h : oddM b l[q] = true) : mayS l b = false := by unfold mayS; rw [any_some hq h]; simp
theorem may_yes {l : List (List UInt8)} {b : Bool} (h : (l.length : Int) ≤ 8) (h2 : ∀ j (hj : j < l.length), oddM b l[j] = false) : mayS l b = true := by unfold mayS; rw [any_none h2, decide_eq_true (by omega)]; rfl
theorem rr4 (h : mayS v.pre true = false) : rightV v = false := by unfold rightV; rw [h]; simp
theorem rr5 (h : mayS v.build false = false) : rightV v = false := by unfold rightV; rw [h]; simp
theorem rr6 (h1 : v.major ≥ 0) (h2 : v.minor ≥ 0) (h3 : v.patch ≥ 0) (h4 : mayS v.pre true = true) (h5 : mayS v.build false = true) : rightV v = true := by
  unfold rightV; rw [h4, h5, decide_eq_true h1, decide_eq_true h2, decide_eq_true h3]; rfl
end
theorem step_ok {α : Type} {p : α → Prop} {l : List α} {q : Nat} (h : ∀ j (hj : j < l.length), j < q → p l[j]) (hq : q < l.length) (hp : p l[q]) : ∀ j (hj : j < l.length), j < q + 1 → p l[j] := by
  intro j hj hjq
  rcases Nat.lt_succ_iff_lt_or_eq.1 hjq with k | rfl
  · exact h j hj k
  · exact hp

attribute [local irreducible] AC AT AO AK AH ACalls Sub Res.cells Res.obj Res.nix Res.own Exit.then Exit.inBlock bodyPost Code.wp Next Post Kont
section
variable {W0 : World} {L : List Res} {F : List Fact} {R : Value → List Res → List Fact → Prop}
set_option maxRecDepth 100000
set_option maxHeartbeats 4000000
theorem rright_c (v : Ver) (hv : VerOk v) {a1 a2 : Option Addr} {k1 c1 k2 c2 : Nat} (m1 : fS v.pre a1 k1 c1 ∈ F) (m2 : fS v.build a2 k2 c2 ∈ F) (hT : rightV v = true → R (.bool true) L F) (hF : rightV v = false → R (.bool false) L F) :
    ACalls Tryz.prog W0 7 #[vVer v a1 k1 c1 a2 k2 c2] L F R := by
  have hp := hv.pre
  have hb := hv.build
  refine ACalls.body Tryz.func7 rfl Tryz.ntmps7 rfl ?_
  refine AC.seq (AC.region (AL.go (AO.box rfl rfl (fun b1 => ?_))))
  refine AL.go (AO.assign rfl rfl (AL.nil (AK.seqN (AC.seq (AC.seq (AC.region ?_))))))
  refine AL.go (AO.field rfl rfl ?_)
  refine AL.go (AO.loadB rfl rfl ?_)
  refine AL.go (AO.lss rfl rfl rfl (fun c9 => ?_) (fun c9 => ?_))
  · refine AL.go (AO.move rfl rfl (AL.no rfl rfl rfl rfl (AL.no rfl rfl rfl rfl (AL.no rfl rfl rfl rfl (AL.go (AO.pickT rfl rfl rfl (AL.go (AO.move rfl rfl ?_))))))))
    refine AL.no rfl rfl rfl rfl (AL.no rfl rfl rfl rfl (AL.no rfl rfl rfl rfl (AL.go (AO.pickT rfl rfl rfl (AL.go (AO.move rfl rfl (AL.no rfl rfl rfl rfl ?_)))))))
    refine AL.no rfl rfl rfl rfl (AL.no rfl rfl rfl rfl (AL.no rfl rfl rfl rfl (AL.go (AO.pickT rfl rfl rfl (AL.go (AO.move rfl rfl (AL.no rfl rfl rfl rfl ?_)))))))
    refine AL.no rfl rfl rfl rfl (AL.no rfl rfl rfl rfl (AL.no rfl rfl rfl rfl (AL.go (AO.pickT rfl rfl rfl (AL.nil (AK.seqN ?_))))))
    refine AC.condT rfl (AC.seq (AC.region (AL.go (AO.assign rfl rfl (AL.nil (AK.seqN ?_))))))
    refine AC.ret (AK.seqR ?_)
    first | refine AK.ret (L' := L) (F' := F) Tryz.results7 rfl (by repeat (first | exact Sub.refl _ _ | refine Sub.trans Sub.drop ?_ | refine Sub.trans Sub.dropF ?_)) (hT ?_) | refine AK.ret (L' := L) (F' := F) Tryz.results7 rfl (by repeat (first | exact Sub.refl _ _ | refine Sub.trans Sub.drop ?_ | refine Sub.trans Sub.dropF ?_)) (hF ?_)
    first
    | exact rr6 c9 c13 c18 hmay (may_yes c30 (fun j hj => hoi j hj (by omega)))
    | exact rr5 (may_odd hil (odd1 c69))
    | exact rr5 (may_odd hil (odd2 c74))
    | exact rr4 (may_odd hql (odd1 c40))
    | exact rr4 (may_odd hql (odd2 c45))
    | exact rr4 (may_odd hql (odd3 c49 c52))
    | exact rr4 (may_odd hql (odd4 c49 c56))
    | exact rr1 c9
    | exact rr2 c13
    | exact rr3 c18
    | exact rr4 (may_len c24)
    | exact rr5 (may_len c30)
  · refine AL.go (AO.move rfl rfl (AL.yes rfl rfl (AO.field rfl rfl ?_)))
    refine AL.yes rfl rfl (AO.loadB rfl rfl ?_)
    refine AL.yes rfl rfl (AO.lss rfl rfl rfl (fun c13 => ?_) (fun c13 => ?_))
    · refine AL.go (AO.pickF rfl rfl rfl (AL.go (AO.move rfl rfl (AL.no rfl rfl rfl rfl (AL.no rfl rfl rfl rfl (AL.no rfl rfl rfl rfl (AL.go (AO.pickT rfl rfl rfl ?_))))))))
      refine AL.go (AO.move rfl rfl (AL.no rfl rfl rfl rfl (AL.no rfl rfl rfl rfl (AL.no rfl rfl rfl rfl (AL.no rfl rfl rfl rfl (AL.go (AO.pickT rfl rfl rfl ?_)))))))
      refine AL.go (AO.move rfl rfl (AL.no rfl rfl rfl rfl (AL.no rfl rfl rfl rfl (AL.no rfl rfl rfl rfl (AL.no rfl rfl rfl rfl (AL.go (AO.pickT rfl rfl rfl ?_)))))))
      refine AL.nil (AK.seqN (AC.condT rfl (AC.seq (AC.region (AL.go (AO.assign rfl rfl ?_))))))
      refine AL.nil (AK.seqN (AC.ret (AK.seqR ?_)))
      first | refine AK.ret (L' := L) (F' := F) Tryz.results7 rfl (by repeat (first | exact Sub.refl _ _ | refine Sub.trans Sub.drop ?_ | refine Sub.trans Sub.dropF ?_)) (hT ?_) | refine AK.ret (L' := L) (F' := F) Tryz.results7 rfl (by repeat (first | exact Sub.refl _ _ | refine Sub.trans Sub.drop ?_ | refine Sub.trans Sub.dropF ?_)) (hF ?_)
      first
      | exact rr6 c9 c13 c18 hmay (may_yes c30 (fun j hj => hoi j hj (by omega)))
      | exact rr5 (may_odd hil (odd1 c69))
      | exact rr5 (may_odd hil (odd2 c74))
      | exact rr4 (may_odd hql (odd1 c40))
      | exact rr4 (may_odd hql (odd2 c45))
      | exact rr4 (may_odd hql (odd3 c49 c52))
      | exact rr4 (may_odd hql (odd4 c49 c56))
      | exact rr1 c9
      | exact rr2 c13
      | exact rr3 c18
      | exact rr4 (may_len c24)
      | exact rr5 (may_len c30)
    · refine AL.go (AO.pickF rfl rfl rfl (AL.go (AO.move rfl rfl (AL.yes rfl rfl (AO.field rfl rfl ?_)))))
      refine AL.yes rfl rfl (AO.loadB rfl rfl ?_)
      refine AL.yes rfl rfl (AO.lss rfl rfl rfl (fun c18 => ?_) (fun c18 => ?_))
      · refine AL.go (AO.pickF rfl rfl rfl (AL.go (AO.move rfl rfl (AL.no rfl rfl rfl rfl (AL.no rfl rfl rfl rfl (AL.no rfl rfl rfl rfl (AL.no rfl rfl rfl rfl ?_)))))))
        refine AL.go (AO.pickT rfl rfl rfl (AL.go (AO.move rfl rfl (AL.no rfl rfl rfl rfl (AL.no rfl rfl rfl rfl (AL.no rfl rfl rfl rfl (AL.no rfl rfl rfl rfl ?_)))))))
        refine AL.go (AO.pickT rfl rfl rfl (AL.nil (AK.seqN (AC.condT rfl (AC.seq (AC.region ?_))))))
        refine AL.go (AO.assign rfl rfl (AL.nil (AK.seqN (AC.ret (AK.seqR ?_)))))
        first | refine AK.ret (L' := L) (F' := F) Tryz.results7 rfl (by repeat (first | exact Sub.refl _ _ | refine Sub.trans Sub.drop ?_ | refine Sub.trans Sub.dropF ?_)) (hT ?_) | refine AK.ret (L' := L) (F' := F) Tryz.results7 rfl (by repeat (first | exact Sub.refl _ _ | refine Sub.trans Sub.drop ?_ | refine Sub.trans Sub.dropF ?_)) (hF ?_)
        first
        | exact rr6 c9 c13 c18 hmay (may_yes c30 (fun j hj => hoi j hj (by omega)))
        | exact rr5 (may_odd hil (odd1 c69))
        | exact rr5 (may_odd hil (odd2 c74))
        | exact rr4 (may_odd hql (odd1 c40))
        | exact rr4 (may_odd hql (odd2 c45))
        | exact rr4 (may_odd hql (odd3 c49 c52))
        | exact rr4 (may_odd hql (odd4 c49 c56))
        | exact rr1 c9
        | exact rr2 c13
        | exact rr3 c18
        | exact rr4 (may_len c24)
        | exact rr5 (may_len c30)
      · refine AL.go (AO.pickF rfl rfl rfl (AL.go (AO.move rfl rfl (AL.yes rfl rfl (AO.field rfl rfl ?_)))))
        refine AL.yes rfl rfl (AO.loadB rfl rfl ?_)
        refine AL.yes rfl rfl (AO.len rfl rfl (fun hl23 => ?_) (hm := by repeat (first | exact mem0 | assumption | refine memS ?_)))
        refine AL.yes rfl rfl (AO.gtr rfl rfl rfl (fun c24 => ?_) (fun c24 => ?_))
        · refine AL.go (AO.pickF rfl rfl rfl (AL.go (AO.move rfl rfl (AL.no rfl rfl rfl rfl (AL.no rfl rfl rfl rfl (AL.no rfl rfl rfl rfl (AL.no rfl rfl rfl rfl ?_)))))))
          refine AL.go (AO.pickT rfl rfl rfl (AL.nil (AK.seqN (AC.condT rfl (AC.seq (AC.region ?_))))))
          refine AL.go (AO.assign rfl rfl (AL.nil (AK.seqN (AC.ret (AK.seqR ?_)))))
          first | refine AK.ret (L' := L) (F' := F) Tryz.results7 rfl (by repeat (first | exact Sub.refl _ _ | refine Sub.trans Sub.drop ?_ | refine Sub.trans Sub.dropF ?_)) (hT ?_) | refine AK.ret (L' := L) (F' := F) Tryz.results7 rfl (by repeat (first | exact Sub.refl _ _ | refine Sub.trans Sub.drop ?_ | refine Sub.trans Sub.dropF ?_)) (hF ?_)
          first
          | exact rr6 c9 c13 c18 hmay (may_yes c30 (fun j hj => hoi j hj (by omega)))
          | exact rr5 (may_odd hil (odd1 c69))
          | exact rr5 (may_odd hil (odd2 c74))
          | exact rr4 (may_odd hql (odd1 c40))
          | exact rr4 (may_odd hql (odd2 c45))
          | exact rr4 (may_odd hql (odd3 c49 c52))
          | exact rr4 (may_odd hql (odd4 c49 c56))
          | exact rr1 c9
          | exact rr2 c13
          | exact rr3 c18
          | exact rr4 (may_len c24)
          | exact rr5 (may_len c30)
        · refine AL.go (AO.pickF rfl rfl rfl (AL.go (AO.move rfl rfl (AL.yes rfl rfl (AO.field rfl rfl ?_)))))
          refine AL.yes rfl rfl (AO.loadB rfl rfl ?_)
          refine AL.yes rfl rfl (AO.len rfl rfl (fun hl29 => ?_) (hm := by repeat (first | exact mem0 | assumption | refine memS ?_)))
          refine AL.yes rfl rfl (AO.gtr rfl rfl rfl (fun c30 => ?_) (fun c30 => ?_))
          · refine AL.go (AO.pickF rfl rfl rfl (AL.nil (AK.seqN (AC.condT rfl (AC.seq (AC.region ?_))))))
            refine AL.go (AO.assign rfl rfl (AL.nil (AK.seqN (AC.ret (AK.seqR ?_)))))
            first | refine AK.ret (L' := L) (F' := F) Tryz.results7 rfl (by repeat (first | exact Sub.refl _ _ | refine Sub.trans Sub.drop ?_ | refine Sub.trans Sub.dropF ?_)) (hT ?_) | refine AK.ret (L' := L) (F' := F) Tryz.results7 rfl (by repeat (first | exact Sub.refl _ _ | refine Sub.trans Sub.drop ?_ | refine Sub.trans Sub.dropF ?_)) (hF ?_)
            first
            | exact rr6 c9 c13 c18 hmay (may_yes c30 (fun j hj => hoi j hj (by omega)))
            | exact rr5 (may_odd hil (odd1 c69))
            | exact rr5 (may_odd hil (odd2 c74))
            | exact rr4 (may_odd hql (odd1 c40))
            | exact rr4 (may_odd hql (odd2 c45))
            | exact rr4 (may_odd hql (odd3 c49 c52))
            | exact rr4 (may_odd hql (odd4 c49 c56))
            | exact rr1 c9
            | exact rr2 c13
            | exact rr3 c18
            | exact rr4 (may_len c24)
            | exact rr5 (may_len c30)
          · refine AL.go (AO.pickF rfl rfl rfl (AL.nil (AK.seqN (AC.condF rfl (AC.skip (AK.seqN ?_))))))
            refine AC.seq (AC.seq (AC.region (AL.go (AO.field rfl rfl ?_))))
            refine AL.go (AO.loadB rfl rfl ?_)
            refine AL.go (AO.len rfl rfl (fun hl34 => ?_) (hm := by repeat (first | exact mem0 | assumption | refine memS ?_)))
            refine AL.go (AO.move rfl rfl (AL.nil (AK.seqN (AC.block ?_))))
            refine AC.loopC (fun (q : Nat) => q ≤ v.pre.length ∧ ∀ j (hj : j < v.pre.length), j < q → oddM true v.pre[j] = false) (fun q => [(1, .pointer (some ⟨b1, 0, none⟩)), (33, .slice a1 k1 c1), (34, .int .i64 v.pre.length), (35, .int .i64 (q : Int))]) (fun q => v.pre.length - q) 0 ⟨by omega, by omega⟩ (by repeat (first | exact SubR.nil | refine SubR.cons rfl ?_)) ?_
            rintro q ⟨hq, hok⟩
            refine AC.seq (AC.region ?_)
            refine AL.go (AO.lss rfl rfl rfl (fun c36 => ?_) (fun c36 => ?_))
            · refine AL.nil (AK.seqN (AC.seq (AC.condT rfl (AC.skip (AK.seqN ?_)))))
              refine AC.seq (AC.block (AC.seq (AC.region ?_)))
              have hql : q < v.pre.length := by omega
              refine AL.go (AO.indexAddr rfl rfl rfl rfl (by repeat (first | exact mem0 | assumption | refine memS ?_)) hql (fun _ _ => ?_))
              refine AL.go (AO.loadF rfl rfl ?_)
              intros
              refine AL.go (AO.assign rfl rfl (AL.nil (AK.seqN (AC.seq (AC.region (AL.go (AO.move rfl rfl ?_)))))))
              refine AL.go (AO.call rfl rfl (rword_c v.pre[q] (hp _ (List.getElem_mem _)) (fun c40 => ?_) (fun c40 => ?_)))
              · refine AL.go (AO.not rfl rfl (AL.go (AO.move rfl rfl (AL.yes rfl rfl (AO.move rfl rfl (AL.yes rfl rfl (AO.lenS rfl rfl ?_)))))))
                refine AL.yes rfl rfl (AO.gtr rfl rfl rfl (fun c45 => ?_) (fun c45 => ?_))
                · refine AL.go (AO.pickF rfl rfl rfl (AL.go (AO.move rfl rfl (AL.no rfl rfl rfl rfl (AL.no rfl rfl rfl rfl (AL.no rfl rfl rfl rfl (AL.no rfl rfl rfl rfl ?_)))))))
                  refine AL.no rfl rfl rfl rfl (AL.no rfl rfl rfl rfl (AL.no rfl rfl rfl rfl (AL.no rfl rfl rfl rfl (AL.no rfl rfl rfl rfl (AL.no rfl rfl rfl rfl ?_)))))
                  refine AL.no rfl rfl rfl rfl (AL.go (AO.pickT rfl rfl rfl (AL.nil (AK.seqN (AC.condT rfl (AC.seq ?_))))))
                  refine AC.region (AL.go (AO.assign rfl rfl (AL.nil (AK.seqN (AC.ret (AK.blkR ?_))))))
                  refine AK.seqR (AK.seqR (AK.blkR (AK.seqR ?_)))
                  first | refine AK.ret (L' := L) (F' := F) Tryz.results7 rfl (by repeat (first | exact Sub.refl _ _ | refine Sub.trans Sub.drop ?_ | refine Sub.trans Sub.dropF ?_)) (hT ?_) | refine AK.ret (L' := L) (F' := F) Tryz.results7 rfl (by repeat (first | exact Sub.refl _ _ | refine Sub.trans Sub.drop ?_ | refine Sub.trans Sub.dropF ?_)) (hF ?_)
                  first
                  | exact rr6 c9 c13 c18 hmay (may_yes c30 (fun j hj => hoi j hj (by omega)))
                  | exact rr5 (may_odd hil (odd1 c69))
                  | exact rr5 (may_odd hil (odd2 c74))
                  | exact rr4 (may_odd hql (odd1 c40))
                  | exact rr4 (may_odd hql (odd2 c45))
                  | exact rr4 (may_odd hql (odd3 c49 c52))
                  | exact rr4 (may_odd hql (odd4 c49 c56))
                  | exact rr1 c9
                  | exact rr2 c13
                  | exact rr3 c18
                  | exact rr4 (may_len c24)
                  | exact rr5 (may_len c30)
                · refine AL.go (AO.pickF rfl rfl rfl (AL.go (AO.move rfl rfl (AL.yes rfl rfl (AO.move rfl rfl ?_)))))
                  refine AL.yes rfl rfl (AO.call rfl rfl (rnumeric_c v.pre[q] (hp _ (List.getElem_mem _)) (fun c49 => ?_) (fun c49 => ?_)))
                  · refine AL.yes rfl rfl (AO.move rfl rfl (AL.yes rfl rfl (AO.move rfl rfl ?_)))
                    refine AL.yes rfl rfl (AO.call rfl rfl (rnumber_c v.pre[q] (hp _ (List.getElem_mem _)) (fun c52 => ?_) (fun c52 => ?_)))
                    · refine AL.yes rfl rfl (AO.not rfl rfl (AL.yes rfl rfl (AO.move rfl rfl (AL.yes rfl rfl (AO.move rfl rfl ?_)))))
                      refine AL.yes rfl rfl (AO.call rfl rfl (rgreat_c v.pre[q] (hp _ (List.getElem_mem _)) (fun c56 => ?_) (fun c56 => ?_)))
                      · refine AL.yes rfl rfl (AO.pickF rfl rfl rfl (AL.yes rfl rfl (AO.pickT rfl rfl rfl (AL.go (AO.pickF rfl rfl rfl (AL.nil (AK.seqN (AC.condT rfl ?_))))))))
                        refine AC.seq (AC.region (AL.go (AO.assign rfl rfl (AL.nil (AK.seqN (AC.ret ?_))))))
                        refine AK.blkR (AK.seqR (AK.seqR (AK.blkR (AK.seqR ?_))))
                        first | refine AK.ret (L' := L) (F' := F) Tryz.results7 rfl (by repeat (first | exact Sub.refl _ _ | refine Sub.trans Sub.drop ?_ | refine Sub.trans Sub.dropF ?_)) (hT ?_) | refine AK.ret (L' := L) (F' := F) Tryz.results7 rfl (by repeat (first | exact Sub.refl _ _ | refine Sub.trans Sub.drop ?_ | refine Sub.trans Sub.dropF ?_)) (hF ?_)
                        first
                        | exact rr6 c9 c13 c18 hmay (may_yes c30 (fun j hj => hoi j hj (by omega)))
                        | exact rr5 (may_odd hil (odd1 c69))
                        | exact rr5 (may_odd hil (odd2 c74))
                        | exact rr4 (may_odd hql (odd1 c40))
                        | exact rr4 (may_odd hql (odd2 c45))
                        | exact rr4 (may_odd hql (odd3 c49 c52))
                        | exact rr4 (may_odd hql (odd4 c49 c56))
                        | exact rr1 c9
                        | exact rr2 c13
                        | exact rr3 c18
                        | exact rr4 (may_len c24)
                        | exact rr5 (may_len c30)
                      · refine AL.yes rfl rfl (AO.pickF rfl rfl rfl (AL.yes rfl rfl (AO.pickT rfl rfl rfl (AL.go (AO.pickF rfl rfl rfl (AL.nil (AK.seqN (AC.condF rfl ?_))))))))
                        refine AC.skip (AK.blkN (AK.seqN (AC.region (AL.go (AO.add rfl rfl rfl (by omega) (by omega) (AL.go (AO.move rfl rfl ?_)))))))
                        refine AL.nil ?_
                        refine AK.next (q + 1) ⟨by omega, step_ok (p := fun x => oddM true x = false) hok hql (by first | exact odd5 c40 c45 c49 | exact odd6 c40 c45 c49 c52 c56)⟩ (by omega) (by repeat (first | exact SubR.nil | refine SubR.cons rfl ?_)) (by repeat (first | exact Sub.refl _ _ | refine Sub.trans Sub.dropF ?_))
                    · refine AL.yes rfl rfl (AO.not rfl rfl (AL.yes rfl rfl (AO.move rfl rfl (AL.no rfl rfl rfl rfl (AL.no rfl rfl rfl rfl (AL.yes rfl rfl (AO.pickT rfl rfl rfl (AL.yes rfl rfl (AO.pickT rfl rfl rfl ?_)))))))))
                      refine AL.go (AO.pickF rfl rfl rfl (AL.nil (AK.seqN (AC.condT rfl (AC.seq (AC.region ?_))))))
                      refine AL.go (AO.assign rfl rfl (AL.nil (AK.seqN (AC.ret (AK.blkR (AK.seqR ?_))))))
                      refine AK.seqR (AK.blkR (AK.seqR ?_))
                      first | refine AK.ret (L' := L) (F' := F) Tryz.results7 rfl (by repeat (first | exact Sub.refl _ _ | refine Sub.trans Sub.drop ?_ | refine Sub.trans Sub.dropF ?_)) (hT ?_) | refine AK.ret (L' := L) (F' := F) Tryz.results7 rfl (by repeat (first | exact Sub.refl _ _ | refine Sub.trans Sub.drop ?_ | refine Sub.trans Sub.dropF ?_)) (hF ?_)
                      first
                      | exact rr6 c9 c13 c18 hmay (may_yes c30 (fun j hj => hoi j hj (by omega)))
                      | exact rr5 (may_odd hil (odd1 c69))
                      | exact rr5 (may_odd hil (odd2 c74))
                      | exact rr4 (may_odd hql (odd1 c40))
                      | exact rr4 (may_odd hql (odd2 c45))
                      | exact rr4 (may_odd hql (odd3 c49 c52))
                      | exact rr4 (may_odd hql (odd4 c49 c56))
                      | exact rr1 c9
                      | exact rr2 c13
                      | exact rr3 c18
                      | exact rr4 (may_len c24)
                      | exact rr5 (may_len c30)
                  · refine AL.yes rfl rfl (AO.move rfl rfl (AL.no rfl rfl rfl rfl (AL.no rfl rfl rfl rfl (AL.no rfl rfl rfl rfl (AL.no rfl rfl rfl rfl (AL.no rfl rfl rfl rfl ?_))))))
                    refine AL.no rfl rfl rfl rfl (AL.no rfl rfl rfl rfl (AL.yes rfl rfl (AO.pickF rfl rfl rfl (AL.go (AO.pickF rfl rfl rfl (AL.nil (AK.seqN ?_)))))))
                    refine AC.condF rfl (AC.skip (AK.blkN (AK.seqN (AC.region (AL.go (AO.add rfl rfl rfl (by omega) (by omega) ?_))))))
                    refine AL.go (AO.move rfl rfl (AL.nil ?_))
                    refine AK.next (q + 1) ⟨by omega, step_ok (p := fun x => oddM true x = false) hok hql (by first | exact odd5 c40 c45 c49 | exact odd6 c40 c45 c49 c52 c56)⟩ (by omega) (by repeat (first | exact SubR.nil | refine SubR.cons rfl ?_)) (by repeat (first | exact Sub.refl _ _ | refine Sub.trans Sub.dropF ?_))
              · refine AL.go (AO.not rfl rfl (AL.go (AO.move rfl rfl (AL.no rfl rfl rfl rfl (AL.no rfl rfl rfl rfl (AL.no rfl rfl rfl rfl (AL.go (AO.pickT rfl rfl rfl ?_))))))))
                refine AL.go (AO.move rfl rfl (AL.no rfl rfl rfl rfl (AL.no rfl rfl rfl rfl (AL.no rfl rfl rfl rfl (AL.no rfl rfl rfl rfl (AL.no rfl rfl rfl rfl ?_))))))
                refine AL.no rfl rfl rfl rfl (AL.no rfl rfl rfl rfl (AL.no rfl rfl rfl rfl (AL.no rfl rfl rfl rfl (AL.no rfl rfl rfl rfl (AL.no rfl rfl rfl rfl ?_)))))
                refine AL.go (AO.pickT rfl rfl rfl (AL.nil (AK.seqN (AC.condT rfl (AC.seq (AC.region ?_))))))
                refine AL.go (AO.assign rfl rfl (AL.nil (AK.seqN (AC.ret (AK.blkR (AK.seqR ?_))))))
                refine AK.seqR (AK.blkR (AK.seqR ?_))
                first | refine AK.ret (L' := L) (F' := F) Tryz.results7 rfl (by repeat (first | exact Sub.refl _ _ | refine Sub.trans Sub.drop ?_ | refine Sub.trans Sub.dropF ?_)) (hT ?_) | refine AK.ret (L' := L) (F' := F) Tryz.results7 rfl (by repeat (first | exact Sub.refl _ _ | refine Sub.trans Sub.drop ?_ | refine Sub.trans Sub.dropF ?_)) (hF ?_)
                first
                | exact rr6 c9 c13 c18 hmay (may_yes c30 (fun j hj => hoi j hj (by omega)))
                | exact rr5 (may_odd hil (odd1 c69))
                | exact rr5 (may_odd hil (odd2 c74))
                | exact rr4 (may_odd hql (odd1 c40))
                | exact rr4 (may_odd hql (odd2 c45))
                | exact rr4 (may_odd hql (odd3 c49 c52))
                | exact rr4 (may_odd hql (odd4 c49 c56))
                | exact rr1 c9
                | exact rr2 c13
                | exact rr3 c18
                | exact rr4 (may_len c24)
                | exact rr5 (may_len c30)
            · refine AL.nil (AK.seqN (AC.seq (AC.condF rfl (AC.exit (AK.seqX ?_)))))
              refine AK.seqX (AK.blkX (AK.seqN (AC.seq (AC.seq (AC.region ?_)))))
              refine AL.go (AO.field rfl rfl ?_)
              refine AL.go (AO.loadB rfl rfl ?_)
              refine AL.go (AO.len rfl rfl (fun hl63 => ?_) (hm := by repeat (first | exact mem0 | assumption | refine memS ?_)))
              refine AL.go (AO.move rfl rfl (AL.nil (AK.seqN (AC.block ?_))))
              have hmay : mayS v.pre true = true := may_yes c24 (fun j hj => hok j hj (by omega))
              refine AC.loopC (fun (i : Nat) => i ≤ v.build.length ∧ ∀ j (hj : j < v.build.length), j < i → oddM false v.build[j] = false) (fun i => [(1, .pointer (some ⟨b1, 0, none⟩)), (62, .slice a2 k2 c2), (63, .int .i64 v.build.length), (64, .int .i64 (i : Int))]) (fun i => v.build.length - i) 0 ⟨by omega, by omega⟩ (by repeat (first | exact SubR.nil | refine SubR.cons rfl ?_)) ?_
              rintro i ⟨hi, hoi⟩
              refine AC.seq (AC.region ?_)
              refine AL.go (AO.lss rfl rfl rfl (fun c65 => ?_) (fun c65 => ?_))
              · refine AL.nil (AK.seqN (AC.seq (AC.condT rfl (AC.skip (AK.seqN ?_)))))
                refine AC.seq (AC.block (AC.seq (AC.region ?_)))
                have hil : i < v.build.length := by omega
                refine AL.go (AO.indexAddr rfl rfl rfl rfl (by repeat (first | exact mem0 | assumption | refine memS ?_)) hil (fun _ _ => ?_))
                refine AL.go (AO.loadF rfl rfl ?_)
                intros
                refine AL.go (AO.assign rfl rfl (AL.nil (AK.seqN (AC.seq (AC.region (AL.go (AO.move rfl rfl ?_)))))))
                refine AL.go (AO.call rfl rfl (rword_c v.build[i] (hb _ (List.getElem_mem _)) (fun c69 => ?_) (fun c69 => ?_)))
                · refine AL.go (AO.not rfl rfl (AL.go (AO.move rfl rfl (AL.yes rfl rfl (AO.move rfl rfl (AL.yes rfl rfl (AO.lenS rfl rfl ?_)))))))
                  refine AL.yes rfl rfl (AO.gtr rfl rfl rfl (fun c74 => ?_) (fun c74 => ?_))
                  · refine AL.go (AO.pickF rfl rfl rfl (AL.nil (AK.seqN (AC.condT rfl (AC.seq (AC.region ?_))))))
                    refine AL.go (AO.assign rfl rfl (AL.nil (AK.seqN (AC.ret (AK.blkR (AK.seqR ?_))))))
                    refine AK.seqR (AK.blkR (AK.seqR ?_))
                    first | refine AK.ret (L' := L) (F' := F) Tryz.results7 rfl (by repeat (first | exact Sub.refl _ _ | refine Sub.trans Sub.drop ?_ | refine Sub.trans Sub.dropF ?_)) (hT ?_) | refine AK.ret (L' := L) (F' := F) Tryz.results7 rfl (by repeat (first | exact Sub.refl _ _ | refine Sub.trans Sub.drop ?_ | refine Sub.trans Sub.dropF ?_)) (hF ?_)
                    first
                    | exact rr6 c9 c13 c18 hmay (may_yes c30 (fun j hj => hoi j hj (by omega)))
                    | exact rr5 (may_odd hil (odd1 c69))
                    | exact rr5 (may_odd hil (odd2 c74))
                    | exact rr4 (may_odd hql (odd1 c40))
                    | exact rr4 (may_odd hql (odd2 c45))
                    | exact rr4 (may_odd hql (odd3 c49 c52))
                    | exact rr4 (may_odd hql (odd4 c49 c56))
                    | exact rr1 c9
                    | exact rr2 c13
                    | exact rr3 c18
                    | exact rr4 (may_len c24)
                    | exact rr5 (may_len c30)
                  · refine AL.go (AO.pickF rfl rfl rfl (AL.nil (AK.seqN (AC.condF rfl (AC.skip (AK.blkN ?_))))))
                    refine AK.seqN (AC.region (AL.go (AO.add rfl rfl rfl (by omega) (by omega) (AL.go (AO.move rfl rfl (AL.nil ?_))))))
                    refine AK.next (i + 1) ⟨by omega, step_ok (p := fun x => oddM false x = false) hoi hil (odd7 c69 c74)⟩ (by omega) (by repeat (first | exact SubR.nil | refine SubR.cons rfl ?_)) (by repeat (first | exact Sub.refl _ _ | refine Sub.trans Sub.dropF ?_))
                · refine AL.go (AO.not rfl rfl (AL.go (AO.move rfl rfl (AL.no rfl rfl rfl rfl (AL.no rfl rfl rfl rfl (AL.no rfl rfl rfl rfl (AL.go (AO.pickT rfl rfl rfl ?_))))))))
                  refine AL.nil (AK.seqN (AC.condT rfl (AC.seq (AC.region (AL.go (AO.assign rfl rfl ?_))))))
                  refine AL.nil (AK.seqN (AC.ret (AK.blkR (AK.seqR (AK.seqR ?_)))))
                  refine AK.blkR (AK.seqR ?_)
                  first | refine AK.ret (L' := L) (F' := F) Tryz.results7 rfl (by repeat (first | exact Sub.refl _ _ | refine Sub.trans Sub.drop ?_ | refine Sub.trans Sub.dropF ?_)) (hT ?_) | refine AK.ret (L' := L) (F' := F) Tryz.results7 rfl (by repeat (first | exact Sub.refl _ _ | refine Sub.trans Sub.drop ?_ | refine Sub.trans Sub.dropF ?_)) (hF ?_)
                  first
                  | exact rr6 c9 c13 c18 hmay (may_yes c30 (fun j hj => hoi j hj (by omega)))
                  | exact rr5 (may_odd hil (odd1 c69))
                  | exact rr5 (may_odd hil (odd2 c74))
                  | exact rr4 (may_odd hql (odd1 c40))
                  | exact rr4 (may_odd hql (odd2 c45))
                  | exact rr4 (may_odd hql (odd3 c49 c52))
                  | exact rr4 (may_odd hql (odd4 c49 c56))
                  | exact rr1 c9
                  | exact rr2 c13
                  | exact rr3 c18
                  | exact rr4 (may_len c24)
                  | exact rr5 (may_len c30)
              · refine AL.nil (AK.seqN (AC.seq (AC.condF rfl (AC.exit (AK.seqX ?_)))))
                refine AK.seqX (AK.blkX (AK.seqN (AC.seq (AC.region (AL.go (AO.assign rfl rfl ?_))))))
                refine AL.nil (AK.seqN (AC.ret ?_))
                first | refine AK.ret (L' := L) (F' := F) Tryz.results7 rfl (by repeat (first | exact Sub.refl _ _ | refine Sub.trans Sub.drop ?_ | refine Sub.trans Sub.dropF ?_)) (hT ?_) | refine AK.ret (L' := L) (F' := F) Tryz.results7 rfl (by repeat (first | exact Sub.refl _ _ | refine Sub.trans Sub.drop ?_ | refine Sub.trans Sub.dropF ?_)) (hF ?_)
                first
                | exact rr6 c9 c13 c18 hmay (may_yes c30 (fun j hj => hoi j hj (by omega)))
                | exact rr5 (may_odd hil (odd1 c69))
                | exact rr5 (may_odd hil (odd2 c74))
                | exact rr4 (may_odd hql (odd1 c40))
                | exact rr4 (may_odd hql (odd2 c45))
                | exact rr4 (may_odd hql (odd3 c49 c52))
                | exact rr4 (may_odd hql (odd4 c49 c56))
                | exact rr1 c9
                | exact rr2 c13
                | exact rr3 c18
                | exact rr4 (may_len c24)
                | exact rr5 (may_len c30)
theorem rorder_c (a b : Int) (h : R (.int .i64 (Lib.compareInt a b)) L F) : ACalls Tryz.prog W0 32 #[.int .i64 a, .int .i64 b] L F R := by
  refine ACalls.body Tryz.func32 rfl Tryz.ntmps32 rfl ?_
  refine AC.seq (AC.region (AL.go (AO.assign rfl rfl (AL.nil (AK.seqN (AC.seq ?_))))))
  refine AC.seq (AC.region (AL.go (AO.move rfl rfl (AL.go (AO.move rfl rfl ?_)))))
  refine AL.go (AO.lss rfl rfl rfl (fun c7 => ?_) (fun c7 => ?_))
  · refine AL.nil (AK.seqN (AC.condT rfl (AC.seq (AC.region (AL.go (AO.assign rfl rfl ?_))))))
    refine AL.nil (AK.seqN (AC.ret (AK.seqR ?_)))
    refine AK.ret Tryz.results32 rfl (Sub.refl _ _) ?_
    have hh := h
    unfold Lib.compareInt at hh
    first | (rw [if_pos c7] at hh; exact hh) | (rw [if_neg (by omega), if_pos (by omega)] at hh; exact hh) | (rw [if_neg (by omega), if_neg (by omega)] at hh; exact hh)
  · refine AL.nil (AK.seqN (AC.condF rfl (AC.skip (AK.seqN (AC.seq ?_)))))
    refine AC.seq (AC.region (AL.go (AO.move rfl rfl (AL.go (AO.move rfl rfl ?_)))))
    refine AL.go (AO.gtr rfl rfl rfl (fun c10 => ?_) (fun c10 => ?_))
    · refine AL.nil (AK.seqN (AC.condT rfl (AC.seq (AC.region (AL.go (AO.assign rfl rfl ?_))))))
      refine AL.nil (AK.seqN (AC.ret (AK.seqR ?_)))
      refine AK.ret Tryz.results32 rfl (Sub.refl _ _) ?_
      have hh := h
      unfold Lib.compareInt at hh
      first | (rw [if_pos c7] at hh; exact hh) | (rw [if_neg (by omega), if_pos (by omega)] at hh; exact hh) | (rw [if_neg (by omega), if_neg (by omega)] at hh; exact hh)
    · refine AL.nil (AK.seqN (AC.condF rfl (AC.skip (AK.seqN (AC.seq ?_)))))
      refine AC.region (AL.go (AO.assign rfl rfl (AL.nil (AK.seqN (AC.ret ?_)))))
      refine AK.ret Tryz.results32 rfl (Sub.refl _ _) ?_
      have hh := h
      unfold Lib.compareInt at hh
      first | (rw [if_pos c7] at hh; exact hh) | (rw [if_neg (by omega), if_pos (by omega)] at hh; exact hh) | (rw [if_neg (by omega), if_neg (by omega)] at hh; exact hh)
theorem rahead_c (a b : List UInt8) (ha : a.length < 4294967281) (hb : b.length < 4294967281) (h : R (.int .i64 (aheadS a b)) L F) : ACalls Tryz.prog W0 33 #[S a, S b] L F R := by
  unfold aheadS at h
  refine ACalls.body Tryz.func33 rfl Tryz.ntmps33 rfl ?_
  refine AC.seq (AC.region (AL.go (AO.assign rfl rfl (AL.nil (AK.seqN (AC.seq ?_))))))
  refine AC.seq (AC.region (AL.go (AO.move rfl rfl ?_)))
  refine AL.go (AO.call rfl rfl (rnumeric_c a ha (fun c6 => ?_) (fun c6 => ?_)))
  · refine AL.go (AO.move rfl rfl (AL.yes rfl rfl (AO.move rfl rfl ?_)))
    refine AL.yes rfl rfl (AO.call rfl rfl (rnumeric_c b hb (fun c9 => ?_) (fun c9 => ?_)))
    · refine AL.go (AO.pickT rfl rfl rfl (AL.nil (AK.seqN (AC.condT rfl (AC.seq (AC.region ?_))))))
      refine AL.go (AO.move rfl rfl (AL.go (AO.move rfl rfl ?_)))
      refine AL.go (AO.call rfl rfl (rcmp_c a b ?_))
      refine AL.go (AO.assign rfl rfl (AL.nil (AK.seqN (AC.ret (AK.seqR ?_)))))
      refine AK.ret Tryz.results33 rfl (Sub.refl _ _) ?_
      first
      | (rw [if_pos ⟨c6, c9⟩] at h; exact h)
      | (rw [if_neg (fun e => by rw [c9] at e; exact absurd e.2 (by decide)), if_pos c6] at h; exact h)
      | (rw [if_neg (fun e => by rw [c6] at e; exact absurd e.1 (by decide)), if_neg (by rw [c6]; decide), if_pos c17] at h; exact h)
      | (rw [if_neg (fun e => by rw [c6] at e; exact absurd e.1 (by decide)), if_neg (by rw [c6]; decide), if_neg (by rw [c17]; decide)] at h; first | exact cmpS_lt c20 ▸ h | exact cmpS_gt c23 ▸ h | exact cmpS_eq c20 c23 ▸ h)
    · refine AL.go (AO.pickT rfl rfl rfl (AL.nil (AK.seqN (AC.condF rfl (AC.skip (AK.seqN ?_))))))
      refine AC.seq (AC.seq (AC.region (AL.go (AO.move rfl rfl ?_))))
      refine AL.go (AO.call rfl rfl (rnumeric_c a ha (fun c15 => ?_) (fun c15 => absurd c15 (by rw [c6]; decide))))
      refine AL.nil (AK.seqN (AC.condT rfl (AC.seq (AC.region (AL.go (AO.assign rfl rfl ?_))))))
      refine AL.nil (AK.seqN (AC.ret (AK.seqR ?_)))
      refine AK.ret Tryz.results33 rfl (Sub.refl _ _) ?_
      first
      | (rw [if_pos ⟨c6, c9⟩] at h; exact h)
      | (rw [if_neg (fun e => by rw [c9] at e; exact absurd e.2 (by decide)), if_pos c6] at h; exact h)
      | (rw [if_neg (fun e => by rw [c6] at e; exact absurd e.1 (by decide)), if_neg (by rw [c6]; decide), if_pos c17] at h; exact h)
      | (rw [if_neg (fun e => by rw [c6] at e; exact absurd e.1 (by decide)), if_neg (by rw [c6]; decide), if_neg (by rw [c17]; decide)] at h; first | exact cmpS_lt c20 ▸ h | exact cmpS_gt c23 ▸ h | exact cmpS_eq c20 c23 ▸ h)
  · refine AL.go (AO.move rfl rfl (AL.no rfl rfl rfl rfl (AL.no rfl rfl rfl rfl (AL.go (AO.pickF rfl rfl rfl (AL.nil (AK.seqN ?_)))))))
    refine AC.condF rfl (AC.skip (AK.seqN (AC.seq (AC.seq (AC.region ?_)))))
    refine AL.go (AO.move rfl rfl ?_)
    refine AL.go (AO.call rfl rfl (rnumeric_c a ha (fun c15 => absurd c15 (by rw [c6]; decide)) (fun c15 => ?_)))
    refine AL.nil (AK.seqN (AC.condF rfl (AC.skip (AK.seqN (AC.seq ?_)))))
    refine AC.seq (AC.region (AL.go (AO.move rfl rfl ?_)))
    refine AL.go (AO.call rfl rfl (rnumeric_c b hb (fun c17 => ?_) (fun c17 => ?_)))
    · refine AL.nil (AK.seqN (AC.condT rfl (AC.seq (AC.region (AL.go (AO.assign rfl rfl ?_))))))
      refine AL.nil (AK.seqN (AC.ret (AK.seqR ?_)))
      refine AK.ret Tryz.results33 rfl (Sub.refl _ _) ?_
      first
      | (rw [if_pos ⟨c6, c9⟩] at h; exact h)
      | (rw [if_neg (fun e => by rw [c9] at e; exact absurd e.2 (by decide)), if_pos c6] at h; exact h)
      | (rw [if_neg (fun e => by rw [c6] at e; exact absurd e.1 (by decide)), if_neg (by rw [c6]; decide), if_pos c17] at h; exact h)
      | (rw [if_neg (fun e => by rw [c6] at e; exact absurd e.1 (by decide)), if_neg (by rw [c6]; decide), if_neg (by rw [c17]; decide)] at h; first | exact cmpS_lt c20 ▸ h | exact cmpS_gt c23 ▸ h | exact cmpS_eq c20 c23 ▸ h)
    · refine AL.nil (AK.seqN (AC.condF rfl (AC.skip (AK.seqN (AC.seq ?_)))))
      refine AC.seq (AC.region (AL.go (AO.move rfl rfl (AL.go (AO.move rfl rfl ?_)))))
      refine AL.go (AO.lssS rfl rfl rfl (fun c20 => ?_) (fun c20 => ?_))
      · refine AL.nil (AK.seqN (AC.condT rfl (AC.seq (AC.region (AL.go (AO.assign rfl rfl ?_))))))
        refine AL.nil (AK.seqN (AC.ret (AK.seqR ?_)))
        refine AK.ret Tryz.results33 rfl (Sub.refl _ _) ?_
        first
        | (rw [if_pos ⟨c6, c9⟩] at h; exact h)
        | (rw [if_neg (fun e => by rw [c9] at e; exact absurd e.2 (by decide)), if_pos c6] at h; exact h)
        | (rw [if_neg (fun e => by rw [c6] at e; exact absurd e.1 (by decide)), if_neg (by rw [c6]; decide), if_pos c17] at h; exact h)
        | (rw [if_neg (fun e => by rw [c6] at e; exact absurd e.1 (by decide)), if_neg (by rw [c6]; decide), if_neg (by rw [c17]; decide)] at h; first | exact cmpS_lt c20 ▸ h | exact cmpS_gt c23 ▸ h | exact cmpS_eq c20 c23 ▸ h)
      · refine AL.nil (AK.seqN (AC.condF rfl (AC.skip (AK.seqN (AC.seq ?_)))))
        refine AC.seq (AC.region (AL.go (AO.move rfl rfl (AL.go (AO.move rfl rfl ?_)))))
        refine AL.go (AO.gtrS rfl rfl rfl (fun c23 => ?_) (fun c23 => ?_))
        · refine AL.nil (AK.seqN (AC.condT rfl (AC.seq (AC.region (AL.go (AO.assign rfl rfl ?_))))))
          refine AL.nil (AK.seqN (AC.ret (AK.seqR ?_)))
          refine AK.ret Tryz.results33 rfl (Sub.refl _ _) ?_
          first
          | (rw [if_pos ⟨c6, c9⟩] at h; exact h)
          | (rw [if_neg (fun e => by rw [c9] at e; exact absurd e.2 (by decide)), if_pos c6] at h; exact h)
          | (rw [if_neg (fun e => by rw [c6] at e; exact absurd e.1 (by decide)), if_neg (by rw [c6]; decide), if_pos c17] at h; exact h)
          | (rw [if_neg (fun e => by rw [c6] at e; exact absurd e.1 (by decide)), if_neg (by rw [c6]; decide), if_neg (by rw [c17]; decide)] at h; first | exact cmpS_lt c20 ▸ h | exact cmpS_gt c23 ▸ h | exact cmpS_eq c20 c23 ▸ h)
        · refine AL.nil (AK.seqN (AC.condF rfl (AC.skip (AK.seqN (AC.seq ?_)))))
          refine AC.region (AL.go (AO.assign rfl rfl (AL.nil (AK.seqN (AC.ret ?_)))))
          refine AK.ret Tryz.results33 rfl (Sub.refl _ _) ?_
          first
          | (rw [if_pos ⟨c6, c9⟩] at h; exact h)
          | (rw [if_neg (fun e => by rw [c9] at e; exact absurd e.2 (by decide)), if_pos c6] at h; exact h)
          | (rw [if_neg (fun e => by rw [c6] at e; exact absurd e.1 (by decide)), if_neg (by rw [c6]; decide), if_pos c17] at h; exact h)
          | (rw [if_neg (fun e => by rw [c6] at e; exact absurd e.1 (by decide)), if_neg (by rw [c6]; decide), if_neg (by rw [c17]; decide)] at h; first | exact cmpS_lt c20 ▸ h | exact cmpS_gt c23 ▸ h | exact cmpS_eq c20 c23 ▸ h)
theorem cI_range (a b : Int) : -1 ≤ Lib.compareInt a b ∧ Lib.compareInt a b ≤ 1 := by
  unfold Lib.compareInt; repeat' split
  all_goals omega
theorem cI_neg (a b : Int) : 0 - Lib.compareInt a b = Lib.compareInt b a := by
  unfold Lib.compareInt; repeat' split
  all_goals omega
abbrev coreC (v u : Ver) : List Int := [Lib.compareInt v.major u.major, Lib.compareInt v.minor u.minor, Lib.compareInt v.patch u.patch]
theorem cmpV_core {v u : Ver} {q : Nat} (hq : q < (coreC v u).length) (h : (coreC v u).take q = List.replicate q 0) (hne : (coreC v u)[q] ≠ 0) : cmpV v u = (coreC v u)[q] := by
  have e : firstI (coreC v u) = (coreC v u)[q] := first_some hq h hne
  unfold cmpV
  have e2 : firstI [Lib.compareInt v.major u.major, Lib.compareInt v.minor u.minor, Lib.compareInt v.patch u.patch] = (coreC v u)[q] := e
  rw [e2, if_pos hne]
theorem cmpV_zero {v u : Ver} {q : Nat} (hq : 3 ≤ q) (h : (coreC v u).take q = List.replicate q 0) : cmpV v u = if v.pre = [] ∨ u.pre = [] then Lib.compareInt u.pre.length v.pre.length else cmpL v.pre u.pre := by
  have hl : (coreC v u).length = 3 := rfl
  rw [List.take_of_length_le (by omega)] at h
  have e : firstI (coreC v u) = 0 := first_none (by rw [h]; simp)
  unfold cmpV
  have e2 : firstI [Lib.compareInt v.major u.major, Lib.compareInt v.minor u.minor, Lib.compareInt v.patch u.patch] = 0 := e
  rw [e2, if_neg (by simp)]
theorem cmpL_fin {l m : List (List UInt8)} {i : Nat} (h0 : i ≤ l.length) (h1 : (l.length : Int) ≤ i) (h2 : i ≤ m.length) : cmpL (l.drop i) (m.drop i) = Lib.compareInt l.length m.length := by
  rcases Nat.lt_or_ge i m.length with h | h
  · rw [cmpL_lt (by omega) h]; unfold Lib.compareInt; rw [if_pos (by omega)]
  · rw [cmpL_end (by omega) h]; unfold Lib.compareInt; rw [if_neg (by omega), if_neg (by omega)]
theorem rcmpv_c (v u : Ver) (hv : VerOk v) (hu : VerOk u) {a1 a2 a3 a4 : Option Addr} {k1 c1 k2 c2 k3 c3 k4 c4 : Nat} (m1 : fS v.pre a1 k1 c1 ∈ F) (m3 : fS u.pre a3 k3 c3 ∈ F) (h : R (.int .i64 (cmpV v u)) L F) :
    ACalls Tryz.prog W0 16 #[vVer v a1 k1 c1 a2 k2 c2, vVer u a3 k3 c3 a4 k4 c4] L F R := by
  have hp := hv.pre
  have hb := hu.pre
  refine ACalls.body Tryz.func16 rfl Tryz.ntmps16 rfl ?_
  refine AC.seq (AC.region (AL.go (AO.box rfl rfl (fun b2 => ?_))))
  refine AL.go (AO.box rfl rfl (fun b3 => ?_))
  refine AL.go (AO.assign rfl rfl (AL.nil (AK.seqN (AC.seq (AC.seq ?_)))))
  refine AC.draw (fun _ => false) [(b2, _, _), (b3, _, _)] (by repeat (first | exact BxIn.nil | refine BxIn.cons (by repeat (first | exact has0 | apply hasS)) ?_)) rfl (fun hx hX => ?_)
  refine AH.takeW (i := 0) rfl (Y.field rfl) (by kernel_rfl) rfl rfl ?_
  refine AH.takeS (i := 1) rfl (Y.loadB rfl (by repeat (first | exact List.Mem.head _ | refine List.Mem.tail _ ?_)) (by rfl)) (by kernel_rfl) (by kernel_rfl) rfl rfl rfl ?_
  refine AH.takeW (i := 2) rfl (Y.field rfl) (by kernel_rfl) rfl rfl ?_
  refine AH.takeS (i := 3) rfl (Y.loadB rfl (by repeat (first | exact List.Mem.head _ | refine List.Mem.tail _ ?_)) (by rfl)) (by kernel_rfl) (by kernel_rfl) rfl rfl rfl ?_
  refine AH.takeW (i := 5) rfl (Y.field rfl) (by kernel_rfl) rfl rfl ?_
  refine AH.takeS (i := 6) rfl (Y.loadB rfl (by repeat (first | exact List.Mem.head _ | refine List.Mem.tail _ ?_)) (by rfl)) (by kernel_rfl) (by kernel_rfl) rfl rfl rfl ?_
  refine AH.takeW (i := 7) rfl (Y.field rfl) (by kernel_rfl) rfl rfl ?_
  refine AH.takeS (i := 8) rfl (Y.loadB rfl (by repeat (first | exact List.Mem.head _ | refine List.Mem.tail _ ?_)) (by rfl)) (by kernel_rfl) (by kernel_rfl) rfl rfl rfl ?_
  refine AH.takeW (i := 10) rfl (Y.field rfl) (by kernel_rfl) rfl rfl ?_
  refine AH.takeS (i := 11) rfl (Y.loadB rfl (by repeat (first | exact List.Mem.head _ | refine List.Mem.tail _ ?_)) (by rfl)) (by kernel_rfl) (by kernel_rfl) rfl rfl rfl ?_
  refine AH.takeW (i := 12) rfl (Y.field rfl) (by kernel_rfl) rfl rfl ?_
  refine AH.takeS (i := 13) rfl (Y.loadB rfl (by repeat (first | exact List.Mem.head _ | refine List.Mem.tail _ ?_)) (by rfl)) (by kernel_rfl) (by kernel_rfl) rfl rfl rfl ?_
  refine AH.takeW (i := 17) rfl (Y.move rfl) (by kernel_rfl) rfl rfl ?_
  refine AH.one (i := 4) (by kernel_rfl) rfl rfl (fun _ => ?_)
  refine AO.call rfl rfl (rorder_c _ _ ?_)
  refine AT.held (by repeat (first | exact BxIn.nil | refine BxIn.cons (by repeat (first | exact has0 | apply hasS)) ?_)) (by repeat (first | exact mem0 | refine memS ?_)) ?_
  refine AH.one (i := 9) (by kernel_rfl) rfl rfl (fun _ => ?_)
  refine AO.call rfl rfl (rorder_c _ _ ?_)
  refine AT.held (by repeat (first | exact BxIn.nil | refine BxIn.cons (by repeat (first | exact has0 | apply hasS)) ?_)) (by repeat (first | exact mem0 | refine memS ?_)) ?_
  refine AH.one (i := 14) (by kernel_rfl) rfl rfl (fun _ => ?_)
  refine AO.call rfl rfl (rorder_c _ _ ?_)
  refine AT.held (by repeat (first | exact BxIn.nil | refine BxIn.cons (by repeat (first | exact has0 | apply hasS)) ?_)) (by repeat (first | exact mem0 | refine memS ?_)) ?_
  refine AH.one (i := 15) (by kernel_rfl) rfl rfl (fun _ => ?_)
  refine AO.buildSlice rfl rfl rfl rfl rfl (fun b24 => ?_)
  refine AT.held (by repeat (first | exact BxIn.nil | refine BxIn.cons (by repeat (first | exact has0 | apply hasS)) ?_)) (by repeat (first | exact mem0 | refine memS ?_)) ?_
  refine AH.takeW (i := 16) rfl (Y.lenV rfl) (by kernel_rfl) rfl rfl ?_
  refine AH.done (by kernel_rfl) ?_
  refine AK.seqN (AC.block ?_)
  refine AC.loop (fun (q : Nat) => q ≤ 3 ∧ (coreC v u).take q = List.replicate q 0) (fun q => [(2, .pointer (some ⟨b2, 0, none⟩)), (3, .pointer (some ⟨b3, 0, none⟩)), (24, .slice (some ⟨b24, 0, none⟩) 3 3), (25, .int .i64 3), (26, .int .i64 (q : Int))]) (fun _ => _) (fun _ => _) (fun q => 3 - q) 0 ⟨by omega, by simp⟩ (by repeat (first | exact SubR.nil | refine SubR.cons rfl ?_)) (Sub.lit (i := 0) (k := 3) (enc := eI) (coreC v u) rfl (.val (.val (.val .nil))) (fun _ => rfl) rfl (by decide)) ?_
  rintro q ⟨hq, hok⟩
  refine AC.seq (AC.region ?_)
  refine AL.go (AO.lss rfl rfl rfl (fun c27 => ?_) (fun c27 => ?_))
  · refine AL.nil (AK.seqN (AC.seq (AC.condT rfl (AC.skip (AK.seqN ?_)))))
    refine AC.seq (AC.block (AC.seq (AC.region ?_)))
    have hql : q < (coreC v u).length := by show q < 3; omega
    refine AL.go (AO.indexAddr rfl rfl rfl rfl (by repeat (first | exact mem0 | assumption | refine memS ?_)) hql (fun _ _ => ?_))
    refine AL.go (AO.loadF rfl rfl ?_)
    intros
    refine AL.go (AO.assign rfl rfl (AL.nil (AK.seqN (AC.seq (AC.region (AL.go (AO.move rfl rfl ?_)))))))
    refine AL.go (AO.neq rfl rfl rfl (fun c31 => ?_) (fun c31 => ?_))
    · refine AL.nil (AK.seqN (AC.condT rfl (AC.seq (AC.region (AL.go (AO.move rfl rfl ?_))))))
      refine AL.go (AO.assign rfl rfl (AL.nil (AK.seqN (AC.ret (AK.blkR (AK.seqR ?_))))))
      refine AK.seqR (AK.blkR (AK.seqR ?_))
      refine AK.ret (L' := L) (F' := F) Tryz.results16 rfl (by repeat (first | exact Sub.refl _ _ | refine Sub.trans Sub.drop ?_ | refine Sub.trans Sub.dropF ?_)) ?_
      first
      | (rw [cmpV_core hql hok c31] at h; exact h)
      | (rw [hz, if_pos (Or.inl (npos_eq (by omega))), ← cI_neg] at h; exact h)
      | (rw [hz, if_pos (Or.inr (npos_eq (by omega))), ← cI_neg] at h; exact h)
      | (rw [hz, hoi, cmpL_out (by omega) (by omega)] at h; exact h)
      | (rw [hz, hoi, cmpL_ne hkl hkm c75] at h; exact h)
      | (rw [hz, hoi, cmpL_fin hi c56 hiu] at h; exact h)
    · refine AL.nil (AK.seqN (AC.condF rfl (AC.skip (AK.blkN (AK.seqN ?_)))))
      refine AC.region (AL.go (AO.add rfl rfl rfl (by omega) (by omega) (AL.go (AO.move rfl rfl (AL.nil ?_)))))
      refine AK.next (q + 1) ⟨by omega, zero_step hql hok c31⟩ (by omega) (by repeat (first | exact SubR.nil | refine SubR.cons rfl ?_)) (by repeat (first | exact Sub.refl _ _ | refine Sub.trans Sub.dropF ?_))
  · refine AL.nil (AK.seqN (AC.seq (AC.condF rfl (AC.exit (AK.seqX ?_)))))
    refine AK.seqX (AK.blkX (AK.seqN (AC.seq (AC.seq (AC.region ?_)))))
    refine AL.go (AO.field rfl rfl ?_)
    refine AL.go (AO.loadB rfl rfl ?_)
    have hz := cmpV_zero (by omega) hok
    refine AL.go (AO.len rfl rfl (fun hl36 => ?_) (hm := by repeat (first | exact mem0 | assumption | refine memS ?_)))
    refine AL.go (AO.eql rfl rfl rfl (fun c37 => ?_) (fun c37 => ?_))
    · refine AL.go (AO.move rfl rfl (AL.no rfl rfl rfl rfl (AL.no rfl rfl rfl rfl (AL.no rfl rfl rfl rfl (AL.no rfl rfl rfl rfl (AL.go (AO.pickT rfl rfl rfl ?_)))))))
      refine AL.nil (AK.seqN (AC.condT rfl (AC.seq (AC.region (AL.go (AO.field rfl rfl ?_))))))
      refine AL.go (AO.loadB rfl rfl ?_)
      refine AL.go (AO.len rfl rfl (fun hl46 => ?_) (hm := by repeat (first | exact mem0 | assumption | refine memS ?_)))
      refine AL.go (AO.field rfl rfl ?_)
      refine AL.go (AO.loadB rfl rfl ?_)
      refine AL.go (AO.len rfl rfl (fun hl49 => ?_) (hm := by repeat (first | exact mem0 | assumption | refine memS ?_)))
      refine AL.go (AO.call rfl rfl (rorder_c _ _ ?_))
      have hr50 := cI_range v.pre.length u.pre.length
      refine AL.go (AO.sub rfl rfl rfl (by omega) (by omega) (AL.go (AO.assign rfl rfl (AL.nil (AK.seqN (AC.ret (AK.seqR ?_)))))))
      refine AK.ret (L' := L) (F' := F) Tryz.results16 rfl (by repeat (first | exact Sub.refl _ _ | refine Sub.trans Sub.drop ?_ | refine Sub.trans Sub.dropF ?_)) ?_
      first
      | (rw [cmpV_core hql hok c31] at h; exact h)
      | (rw [hz, if_pos (Or.inl (npos_eq (by omega))), ← cI_neg] at h; exact h)
      | (rw [hz, if_pos (Or.inr (npos_eq (by omega))), ← cI_neg] at h; exact h)
      | (rw [hz, hoi, cmpL_out (by omega) (by omega)] at h; exact h)
      | (rw [hz, hoi, cmpL_ne hkl hkm c75] at h; exact h)
      | (rw [hz, hoi, cmpL_fin hi c56 hiu] at h; exact h)
    · refine AL.go (AO.move rfl rfl (AL.yes rfl rfl (AO.field rfl rfl ?_)))
      refine AL.yes rfl rfl (AO.loadB rfl rfl ?_)
      refine AL.yes rfl rfl (AO.len rfl rfl (fun hl41 => ?_) (hm := by repeat (first | exact mem0 | assumption | refine memS ?_)))
      refine AL.yes rfl rfl (AO.eql rfl rfl rfl (fun c42 => ?_) (fun c42 => ?_))
      · refine AL.go (AO.pickF rfl rfl rfl (AL.nil (AK.seqN (AC.condT rfl (AC.seq (AC.region ?_))))))
        refine AL.go (AO.field rfl rfl ?_)
        refine AL.go (AO.loadB rfl rfl ?_)
        refine AL.go (AO.len rfl rfl (fun hl46 => ?_) (hm := by repeat (first | exact mem0 | assumption | refine memS ?_)))
        refine AL.go (AO.field rfl rfl ?_)
        refine AL.go (AO.loadB rfl rfl ?_)
        refine AL.go (AO.len rfl rfl (fun hl49 => ?_) (hm := by repeat (first | exact mem0 | assumption | refine memS ?_)))
        refine AL.go (AO.call rfl rfl (rorder_c _ _ ?_))
        have hr50 := cI_range v.pre.length u.pre.length
        refine AL.go (AO.sub rfl rfl rfl (by omega) (by omega) (AL.go (AO.assign rfl rfl (AL.nil (AK.seqN (AC.ret (AK.seqR ?_)))))))
        refine AK.ret (L' := L) (F' := F) Tryz.results16 rfl (by repeat (first | exact Sub.refl _ _ | refine Sub.trans Sub.drop ?_ | refine Sub.trans Sub.dropF ?_)) ?_
        first
        | (rw [cmpV_core hql hok c31] at h; exact h)
        | (rw [hz, if_pos (Or.inl (npos_eq (by omega))), ← cI_neg] at h; exact h)
        | (rw [hz, if_pos (Or.inr (npos_eq (by omega))), ← cI_neg] at h; exact h)
        | (rw [hz, hoi, cmpL_out (by omega) (by omega)] at h; exact h)
        | (rw [hz, hoi, cmpL_ne hkl hkm c75] at h; exact h)
        | (rw [hz, hoi, cmpL_fin hi c56 hiu] at h; exact h)
      · refine AL.go (AO.pickF rfl rfl rfl (AL.nil (AK.seqN (AC.condF rfl (AC.skip (AK.seqN ?_))))))
        refine AC.seq (AC.seq (AC.region (AL.go (AO.field rfl rfl ?_))))
        refine AL.go (AO.loadB rfl rfl ?_)
        refine AL.go (AO.len rfl rfl (fun hl54 => ?_) (hm := by repeat (first | exact mem0 | assumption | refine memS ?_)))
        refine AL.go (AO.move rfl rfl (AL.nil (AK.seqN (AC.block ?_))))
        have hn1 : v.pre ≠ [] := fun e => c37 (by rw [e]; rfl)
        have hn2 : u.pre ≠ [] := fun e => c42 (by rw [e]; rfl)
        rw [if_neg (fun e => e.elim hn1 hn2)] at hz
        refine AC.loopC (fun (i : Nat) => i ≤ v.pre.length ∧ i ≤ u.pre.length ∧ cmpL v.pre u.pre = cmpL (v.pre.drop i) (u.pre.drop i)) (fun i => [(2, .pointer (some ⟨b2, 0, none⟩)), (3, .pointer (some ⟨b3, 0, none⟩)), (54, .int .i64 v.pre.length), (55, .int .i64 (i : Int))]) (fun i => v.pre.length - i) 0 ⟨by omega, by omega, rfl⟩ (by repeat (first | exact SubR.nil | refine SubR.cons rfl ?_)) ?_
        rintro i ⟨hi, hiu, hoi⟩
        refine AC.seq (AC.region ?_)
        refine AL.go (AO.lss rfl rfl rfl (fun c56 => ?_) (fun c56 => ?_))
        · refine AL.nil (AK.seqN (AC.seq (AC.condT rfl (AC.skip (AK.seqN ?_)))))
          refine AC.seq (AC.block (AC.seq (AC.region (AL.go (AO.move rfl rfl (AL.go (AO.assign rfl rfl ?_)))))))
          refine AL.nil (AK.seqN (AC.seq (AC.seq (AC.region (AL.go (AO.move rfl rfl ?_))))))
          refine AL.go (AO.field rfl rfl ?_)
          refine AL.go (AO.loadB rfl rfl ?_)
          refine AL.go (AO.len rfl rfl (fun hl61 => ?_) (hm := by repeat (first | exact mem0 | assumption | refine memS ?_)))
          refine AL.go (AO.eql rfl rfl rfl (fun c62 => ?_) (fun c62 => ?_))
          · refine AL.nil (AK.seqN (AC.condT rfl (AC.seq (AC.region (AL.go (AO.assign rfl rfl ?_))))))
            refine AL.nil (AK.seqN (AC.ret (AK.seqR (AK.blkR (AK.seqR ?_)))))
            refine AK.seqR (AK.blkR (AK.seqR ?_))
            refine AK.ret (L' := L) (F' := F) Tryz.results16 rfl (by repeat (first | exact Sub.refl _ _ | refine Sub.trans Sub.drop ?_ | refine Sub.trans Sub.dropF ?_)) ?_
            first
            | (rw [cmpV_core hql hok c31] at h; exact h)
            | (rw [hz, if_pos (Or.inl (npos_eq (by omega))), ← cI_neg] at h; exact h)
            | (rw [hz, if_pos (Or.inr (npos_eq (by omega))), ← cI_neg] at h; exact h)
            | (rw [hz, hoi, cmpL_out (by omega) (by omega)] at h; exact h)
            | (rw [hz, hoi, cmpL_ne hkl hkm c75] at h; exact h)
            | (rw [hz, hoi, cmpL_fin hi c56 hiu] at h; exact h)
          · refine AL.nil (AK.seqN (AC.condF rfl (AC.skip (AK.seqN (AC.seq ?_)))))
            refine AC.draw (fun _ => false) [(b2, _, _), (b3, _, _)] (by repeat (first | exact BxIn.nil | refine BxIn.cons (by repeat (first | exact has0 | apply hasS)) ?_)) rfl (fun hx hX => ?_)
            have hkl : i < v.pre.length := by omega
            have hkm : i < u.pre.length := by omega
            have hkk1 := (len_of_fact (hX (fS v.pre a1 k1 c1) (by repeat (first | exact m1 | refine memS ?_)))).1
            have hkk3 := (len_of_fact (hX (fS u.pre a3 k3 c3) (by repeat (first | exact m3 | refine memS ?_)))).1
            obtain ⟨p1, o1, rfl, at1⟩ := row_of_fact (hX (fS v.pre a1 k1 c1) (by repeat (first | exact m1 | refine memS ?_))) hkl
            obtain ⟨p2, o2, rfl, at2⟩ := row_of_fact (hX (fS u.pre a3 k3 c3) (by repeat (first | exact m3 | refine memS ?_))) hkm
            obtain ⟨v1, hv1, hc1⟩ := at1 0 _ rfl
            obtain ⟨v2, hv2, hc2⟩ := at2 0 _ rfl
            cases hc1
            cases hc2
            refine AH.takeW (i := 0) rfl (Y.field rfl) (by kernel_rfl) rfl rfl ?_
            refine AH.takeS (i := 1) rfl (Y.loadB rfl (by repeat (first | exact List.Mem.head _ | refine List.Mem.tail _ ?_)) (by rfl)) (by kernel_rfl) (by kernel_rfl) rfl rfl rfl ?_
            refine AH.takeW (i := 2) rfl (Y.move rfl) (by kernel_rfl) rfl rfl ?_
            refine AH.takeW (i := 3) rfl (Y.indexAddr rfl rfl rfl (by omega)) (by kernel_rfl) rfl rfl ?_
            refine AH.takeS (i := 4) rfl (Y.loadF rfl (by assumption)) (by kernel_rfl) (by kernel_rfl) rfl rfl rfl ?_
            refine AH.takeW (i := 5) rfl (Y.field rfl) (by kernel_rfl) rfl rfl ?_
            refine AH.takeS (i := 6) rfl (Y.loadB rfl (by repeat (first | exact List.Mem.head _ | refine List.Mem.tail _ ?_)) (by rfl)) (by kernel_rfl) (by kernel_rfl) rfl rfl rfl ?_
            refine AH.takeW (i := 7) rfl (Y.move rfl) (by kernel_rfl) rfl rfl ?_
            refine AH.takeW (i := 8) rfl (Y.indexAddr rfl rfl rfl (by omega)) (by kernel_rfl) rfl rfl ?_
            refine AH.takeS (i := 9) rfl (Y.loadF rfl (by assumption)) (by kernel_rfl) (by kernel_rfl) rfl rfl rfl ?_
            refine AH.one (i := 10) (by kernel_rfl) rfl rfl (fun _ => ?_)
            refine AO.call rfl rfl (rahead_c v.pre[i] u.pre[i] (hp _ (List.getElem_mem _)) (hb _ (List.getElem_mem _)) ?_)
            refine AT.held (by repeat (first | exact BxIn.nil | refine BxIn.cons (by repeat (first | exact has0 | apply hasS)) ?_)) (by repeat (first | exact mem0 | refine memS ?_)) ?_
            refine AH.takeW (i := 11) rfl (Y.assign rfl) (by kernel_rfl) rfl rfl ?_
            refine AH.done (by kernel_rfl) ?_
            refine AK.seqN (AC.seq (AC.region (AL.go (AO.move rfl rfl ?_))))
            refine AL.go (AO.neq rfl rfl rfl (fun c75 => ?_) (fun c75 => ?_))
            · refine AL.nil (AK.seqN (AC.condT rfl (AC.seq (AC.region (AL.go (AO.move rfl rfl ?_))))))
              refine AL.go (AO.assign rfl rfl (AL.nil (AK.seqN (AC.ret (AK.blkR (AK.seqR ?_))))))
              refine AK.seqR (AK.blkR (AK.seqR ?_))
              refine AK.ret (L' := L) (F' := F) Tryz.results16 rfl (by repeat (first | exact Sub.refl _ _ | refine Sub.trans Sub.drop ?_ | refine Sub.trans Sub.dropF ?_)) ?_
              first
              | (rw [cmpV_core hql hok c31] at h; exact h)
              | (rw [hz, if_pos (Or.inl (npos_eq (by omega))), ← cI_neg] at h; exact h)
              | (rw [hz, if_pos (Or.inr (npos_eq (by omega))), ← cI_neg] at h; exact h)
              | (rw [hz, hoi, cmpL_out (by omega) (by omega)] at h; exact h)
              | (rw [hz, hoi, cmpL_ne hkl hkm c75] at h; exact h)
              | (rw [hz, hoi, cmpL_fin hi c56 hiu] at h; exact h)
            · refine AL.nil (AK.seqN (AC.condF rfl (AC.skip (AK.blkN (AK.seqN ?_)))))
              refine AC.region (AL.go (AO.add rfl rfl rfl (by omega) (by omega) (AL.go (AO.move rfl rfl (AL.nil ?_)))))
              refine AK.next (i + 1) ⟨by omega, by omega, hoi.trans (cmpL_step hkl hkm c75)⟩ (by omega) (by repeat (first | exact SubR.nil | refine SubR.cons rfl ?_)) (by repeat (first | exact Sub.refl _ _ | refine Sub.trans Sub.dropF ?_))
        · refine AL.nil (AK.seqN (AC.seq (AC.condF rfl (AC.exit (AK.seqX ?_)))))
          refine AK.seqX (AK.blkX (AK.seqN (AC.seq (AC.region (AL.go (AO.field rfl rfl ?_))))))
          refine AL.go (AO.loadB rfl rfl ?_)
          refine AL.go (AO.len rfl rfl (fun hl80 => ?_) (hm := by repeat (first | exact mem0 | assumption | refine memS ?_)))
          refine AL.go (AO.field rfl rfl ?_)
          refine AL.go (AO.loadB rfl rfl ?_)
          refine AL.go (AO.len rfl rfl (fun hl83 => ?_) (hm := by repeat (first | exact mem0 | assumption | refine memS ?_)))
          refine AL.go (AO.call rfl rfl (rorder_c _ _ ?_))
          refine AL.go (AO.assign rfl rfl (AL.nil (AK.seqN (AC.ret ?_))))
          refine AK.ret (L' := L) (F' := F) Tryz.results16 rfl (by repeat (first | exact Sub.refl _ _ | refine Sub.trans Sub.drop ?_ | refine Sub.trans Sub.dropF ?_)) ?_
          first
          | (rw [cmpV_core hql hok c31] at h; exact h)
          | (rw [hz, if_pos (Or.inl (npos_eq (by omega))), ← cI_neg] at h; exact h)
          | (rw [hz, if_pos (Or.inr (npos_eq (by omega))), ← cI_neg] at h; exact h)
          | (rw [hz, hoi, cmpL_out (by omega) (by omega)] at h; exact h)
          | (rw [hz, hoi, cmpL_ne hkl hkm c75] at h; exact h)
          | (rw [hz, hoi, cmpL_fin hi c56 hiu] at h; exact h)
end
end Go.Sy
