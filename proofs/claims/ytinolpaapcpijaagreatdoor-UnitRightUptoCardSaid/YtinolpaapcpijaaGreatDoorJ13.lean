/- Joined of my own texts: TyC. -/
import Derived.Test.YtinolpaapcpijaaGreatDoorJ12
namespace Go.Sy
open Go Go.Proofs Go.RowKit
theorem made_refs {l : List Ty} {t : Ty} (hk : kidsP l t) (hl : (t.kids.length : Int) ≤ 16) (hn : t.kind ≠ 8 → t.name = []) (hw : t.kind ≠ 6 → t.kind ≠ 7 → t.words = []) (hK : madeK l t) : madeP l t := ⟨hk, by omega, hn, hw, hK⟩
theorem made_noname {l : List Ty} {t : Ty} (h : t.kind ≠ 8) (hn : t.name ≠ []) : ¬ madeP l t := fun e => hn (e.2.2.1 h)
theorem made_nowords {l : List Ty} {t : Ty} (h6 : t.kind ≠ 6) (h7 : t.kind ≠ 7) (hn : (0 : Int) < t.words.length) : ¬ madeP l t := fun e => by rw [e.2.2.2.1 h6 h7] at hn; exact absurd hn (by decide)
theorem made_kid {l : List Ty} {t : Ty} {q : Nat} (hq : q < t.kids.length) (h : t.kids[q] < 0 ∨ t.kids[q] ≥ l.length) : ¬ madeP l t := fun e => by
  have := e.1 _ (List.getElem_mem hq)
  omega
theorem at_mem {l : List Ty} {t : Ty} {q : Nat} (hq : q < l.length) (h : l[q] = t) : t ∈ l := h ▸ List.getElem_mem hq
theorem at_no {l : List Ty} {t : Ty} (h : ∀ j (hj : j < l.length), l[j] ≠ t) : t ∉ l := fun hm => by
  obtain ⟨j, hj, e⟩ := List.getElem_of_mem hm
  exact h j hj e
def atP (l : List Ty) (t : Ty) (i : Int) : Prop := (i = -1 ∧ t ∉ l) ∨ ∃ q : Nat, ∃ (hq : q < l.length), i = (q : Int) ∧ l[q] = t ∧ ∀ j (hj : j < l.length), j < q → l[j] ≠ t
theorem at_out {l : List Ty} {t : Ty} {i : Int} (h : atP l t i) (hi : i < 0) : t ∉ l := by
  rcases h with ⟨_, h⟩ | ⟨q, _, rfl, _⟩
  · exact h
  · omega
theorem at_in {l : List Ty} {t : Ty} {i : Int} (h : atP l t i) (hi : 0 ≤ i) : t ∈ l := by
  rcases h with ⟨rfl, _⟩ | ⟨q, hq, _, e, _⟩
  · exact absurd hi (by decide)
  · exact at_mem hq e
theorem row_like {l : List Ty} {q : Nat} (hq : q < l.length) (h8 : q < startL.length) (hc : l[q] = startL[q]) : rowAt l q hq := by
  have hsl := start_len
  unfold rowAt
  rw [if_pos (by omega), start_get h8]
  exact hc
theorem row_unlike {l : List Ty} (e : rightP l) {q : Nat} (hq : q < l.length) (h8 : q < startL.length) (hc : l[q] ≠ startL[q]) : False := by
  have h := e.2.2 q hq
  have hsl := start_len
  unfold rowAt at h
  rw [if_pos (by omega), start_get h8] at h
  exact hc h
attribute [local irreducible] AC AT AO AK AH ACalls Sub Res.cells Res.nix Res.own Res.map Exit.then Exit.inBlock bodyPost Code.wp Next Post Kont
section
variable {W0 : World} {L : List Res} {F : List Fact} {R : Value → List Res → List Fact → Prop}
set_option maxRecDepth 100000
set_option maxHeartbeats 4000000
theorem rmade_c (l : List Ty) (t : Ty) (ht : TyOk t) {a1 a2 a3 : Option Addr} {k1 c1 k2 c2 k3 c3 : Nat} (m1 : fW t a1 k1 c1 ∈ F) (m2 : fK t a2 k2 c2 ∈ F) (m3 : fL l a3 k3 c3 ∈ F)
    (hT : madeP l t → R (.bool true) L F) (hF : ¬ madeP l t → R (.bool false) L F) : ACalls Tryz.prog W0 117 #[.slice a3 k3 c3, vTy t a1 k1 c1 a2 k2 c2] L F R := by
  have hnm := ht.name
  refine ACalls.body Tryz.func117 rfl Tryz.ntmps117 rfl ?_
  refine AC.seq (AC.region (AL.go (AO.box rfl rfl (fun b3 => ?_))))
  refine AL.go (AO.assign rfl rfl (AL.nil (AK.seqN (AC.seq (AC.seq (AC.region ?_))))))
  refine AL.go (AO.field rfl rfl ?_)
  refine AL.go (AO.loadB rfl rfl ?_)
  refine AL.go (AO.len rfl rfl (fun hl10 => ?_) (hm := by repeat (first | exact mem0 | assumption | refine memS ?_)))
  refine AL.go (AO.move rfl rfl (AL.nil (AK.seqN (AC.block ?_))))
  refine AC.loopC (fun (q : Nat) => q ≤ t.kids.length ∧ ∀ j (hj : j < t.kids.length), j < q → 0 ≤ t.kids[j] ∧ t.kids[j] < l.length) (fun q => [(0, .slice a3 k3 c3), (3, .pointer (some ⟨b3, 0, none⟩)), (9, .slice a2 k2 c2), (10, .int .i64 t.kids.length), (11, .int .i64 (q : Int))]) (fun q => t.kids.length - q) 0 ⟨by omega, by omega⟩ srA ?_
  rintro q ⟨hq, hok⟩
  refine AC.seq (AC.region ?_)
  refine AL.go (AO.lss rfl rfl rfl (fun c12 => ?_) (fun c12 => ?_))
  ·refine AL.nil (AK.seqN (AC.seq (AC.condT rfl (AC.skip (AK.seqN ?_)))))
   refine AC.seq (AC.block (AC.seq (AC.region ?_)))
   have hql : q < t.kids.length := by omega
   refine AL.go (AO.indexAddr rfl rfl rfl rfl memA hql (fun _ _ => ?_))
   refine AL.go (AO.loadF rfl rfl ?_)
   intros
   refine AL.go (AO.assign rfl rfl (AL.nil (AK.seqN (AC.seq (AC.region (AL.go (AO.move rfl rfl ?_)))))))
   refine AL.go (AO.lss rfl rfl rfl (fun c16 => ?_) (fun c16 => ?_))
   ·refine AL.go (AO.move rfl rfl (AL.no rfl rfl rfl rfl (AL.no rfl rfl rfl rfl (AL.no rfl rfl rfl rfl (AL.no rfl rfl rfl rfl (AL.go (AO.pickT rfl rfl rfl ?_)))))))
    refine AL.nil (AK.seqN (AC.condT rfl (AC.seq (AC.region (AL.go (AO.assign rfl rfl ?_))))))
    refine AL.nil (AK.seqN (AC.ret (AK.blkR (AK.seqR (AK.seqR ?_)))))
    refine AK.blkR (AK.seqR ?_)
    first | refine AK.ret (L' := L) (F' := F) Tryz.results117 rfl subA (hT ?_) | refine AK.ret (L' := L) (F' := F) Tryz.results117 rfl subA (hF ?_)
    first
    | exact made_long (by omega)
    | exact made_kid hql (by omega)
    | exact made_noname c32 c36
    | exact made_nowords c42 c46 (by omega)
    | exact made_noK (madeK_no c58 c59 c68 c82 c91 c105 c114 c119 c129)
   ·refine AL.go (AO.move rfl rfl (AL.yes rfl rfl (AO.move rfl rfl (AL.yes rfl rfl (AO.move rfl rfl ?_)))))
    refine AL.yes rfl rfl (AO.len rfl rfl (fun hl20 => ?_) (hm := by repeat (first | exact mem0 | assumption | refine memS ?_)))
    refine AL.yes rfl rfl (AO.geq rfl rfl rfl (fun c21 => ?_) (fun c21 => ?_))
    ·refine AL.go (AO.pickF rfl rfl rfl (AL.nil (AK.seqN (AC.condT rfl (AC.seq (AC.region ?_))))))
     refine AL.go (AO.assign rfl rfl (AL.nil (AK.seqN (AC.ret (AK.blkR (AK.seqR ?_))))))
     refine AK.seqR (AK.blkR (AK.seqR ?_))
     first | refine AK.ret (L' := L) (F' := F) Tryz.results117 rfl subA (hT ?_) | refine AK.ret (L' := L) (F' := F) Tryz.results117 rfl subA (hF ?_)
     first
     | exact made_long (by omega)
     | exact made_kid hql (by omega)
     | exact made_noname c32 c36
     | exact made_nowords c42 c46 (by omega)
     | exact made_noK (madeK_no c58 c59 c68 c82 c91 c105 c114 c119 c129)
    ·refine AL.go (AO.pickF rfl rfl rfl (AL.nil (AK.seqN (AC.condF rfl (AC.skip (AK.blkN ?_))))))
     refine AK.seqN (AC.region (AL.go (AO.add rfl rfl rfl (by omega) (by omega) (AL.go (AO.move rfl rfl (AL.nil ?_))))))
     refine AK.next (q + 1) ⟨by omega, ?_⟩ (by omega) srA subF
     intro j hj hjq
     rcases Nat.lt_succ_iff_lt_or_eq.1 hjq with k9 | rfl
     · exact hok j hj k9
     · omega
  ·refine AL.nil (AK.seqN (AC.seq (AC.condF rfl (AC.exit (AK.seqX ?_)))))
   refine AK.seqX (AK.blkX (AK.seqN (AC.seq (AC.region ?_))))
   have hkids : kidsP l t := by
    intro k hk
    obtain ⟨j, hj, rfl⟩ := List.getElem_of_mem hk
    exact hok j hj (by omega)
   refine AL.go (AO.field rfl rfl ?_)
   refine AL.go (AO.loadB rfl rfl ?_)
   refine AL.go (AO.len rfl rfl (fun hl26 => ?_) (hm := by repeat (first | exact mem0 | assumption | refine memS ?_)))
   refine AL.go (AO.assign rfl rfl (AL.nil (AK.seqN (AC.seq (AC.seq (AC.region ?_))))))
   refine AL.go (AO.move rfl rfl ?_)
   refine AL.go (AO.gtr rfl rfl rfl (fun c28 => ?_) (fun c28 => ?_))
   ·refine AL.go (AO.move rfl rfl (AL.no rfl rfl rfl rfl (AL.no rfl rfl rfl rfl (AL.no rfl rfl rfl rfl (AL.no rfl rfl rfl rfl (AL.no rfl rfl rfl rfl ?_))))))
    refine AL.no rfl rfl rfl rfl (AL.no rfl rfl rfl rfl (AL.no rfl rfl rfl rfl (AL.go (AO.pickT rfl rfl rfl (AL.go (AO.move rfl rfl (AL.no rfl rfl rfl rfl ?_)))))))
    refine AL.no rfl rfl rfl rfl (AL.no rfl rfl rfl rfl (AL.no rfl rfl rfl rfl (AL.no rfl rfl rfl rfl (AL.no rfl rfl rfl rfl (AL.no rfl rfl rfl rfl ?_)))))
    refine AL.no rfl rfl rfl rfl (AL.no rfl rfl rfl rfl (AL.no rfl rfl rfl rfl (AL.no rfl rfl rfl rfl (AL.no rfl rfl rfl rfl (AL.no rfl rfl rfl rfl ?_)))))
    refine AL.no rfl rfl rfl rfl (AL.go (AO.pickT rfl rfl rfl (AL.nil (AK.seqN (AC.condT rfl (AC.seq ?_))))))
    refine AC.region (AL.go (AO.assign rfl rfl (AL.nil (AK.seqN (AC.ret (AK.seqR ?_))))))
    first | refine AK.ret (L' := L) (F' := F) Tryz.results117 rfl subA (hT ?_) | refine AK.ret (L' := L) (F' := F) Tryz.results117 rfl subA (hF ?_)
    first
    | exact made_long (by omega)
    | exact made_kid hql (by omega)
    | exact made_noname c32 c36
    | exact made_nowords c42 c46 (by omega)
    | exact made_noK (madeK_no c58 c59 c68 c82 c91 c105 c114 c119 c129)
   ·refine AL.go (AO.move rfl rfl (AL.yes rfl rfl (AO.field rfl rfl ?_)))
    refine AL.yes rfl rfl (AO.loadB rfl rfl ?_)
    refine AL.yes rfl rfl (AO.neq rfl rfl rfl (fun c32 => ?_) (fun c32 => ?_))
    ·refine AL.yes rfl rfl (AO.move rfl rfl (AL.yes rfl rfl (AO.field rfl rfl ?_)))
     refine AL.yes rfl rfl (AO.loadB rfl rfl ?_)
     refine AL.yes rfl rfl (AO.neqS rfl rfl rfl (fun c36 => ?_) (fun c36 => ?_))
     ·refine AL.yes rfl rfl (AO.pickT rfl rfl rfl (AL.go (AO.pickF rfl rfl rfl (AL.go (AO.move rfl rfl (AL.no rfl rfl rfl rfl (AL.no rfl rfl rfl rfl (AL.no rfl rfl rfl rfl ?_))))))))
      refine AL.no rfl rfl rfl rfl (AL.no rfl rfl rfl rfl (AL.no rfl rfl rfl rfl (AL.no rfl rfl rfl rfl (AL.no rfl rfl rfl rfl (AL.no rfl rfl rfl rfl ?_)))))
      refine AL.no rfl rfl rfl rfl (AL.no rfl rfl rfl rfl (AL.no rfl rfl rfl rfl (AL.no rfl rfl rfl rfl (AL.no rfl rfl rfl rfl (AL.go (AO.pickT rfl rfl rfl ?_))))))
      refine AL.nil (AK.seqN (AC.condT rfl (AC.seq (AC.region (AL.go (AO.assign rfl rfl ?_))))))
      refine AL.nil (AK.seqN (AC.ret (AK.seqR ?_)))
      first | refine AK.ret (L' := L) (F' := F) Tryz.results117 rfl subA (hT ?_) | refine AK.ret (L' := L) (F' := F) Tryz.results117 rfl subA (hF ?_)
      first
      | exact made_long (by omega)
      | exact made_kid hql (by omega)
      | exact made_noname c32 c36
      | exact made_nowords c42 c46 (by omega)
      | exact made_noK (madeK_no c58 c59 c68 c82 c91 c105 c114 c119 c129)
     ·refine AL.yes rfl rfl (AO.pickT rfl rfl rfl (AL.go (AO.pickF rfl rfl rfl (AL.go (AO.move rfl rfl (AL.yes rfl rfl (AO.field rfl rfl ?_)))))))
      refine AL.yes rfl rfl (AO.loadB rfl rfl ?_)
      refine AL.yes rfl rfl (AO.neq rfl rfl rfl (fun c42 => ?_) (fun c42 => ?_))
      ·refine AL.yes rfl rfl (AO.move rfl rfl (AL.yes rfl rfl (AO.field rfl rfl ?_)))
       refine AL.yes rfl rfl (AO.loadB rfl rfl ?_)
       refine AL.yes rfl rfl (AO.neq rfl rfl rfl (fun c46 => ?_) (fun c46 => ?_))
       ·refine AL.yes rfl rfl (AO.pickT rfl rfl rfl (AL.yes rfl rfl (AO.move rfl rfl (AL.yes rfl rfl (AO.field rfl rfl ?_)))))
        refine AL.yes rfl rfl (AO.loadB rfl rfl ?_)
        refine AL.yes rfl rfl (AO.len rfl rfl (fun hl51 => ?_) (hm := by repeat (first | exact mem0 | assumption | refine memS ?_)))
        refine AL.yes rfl rfl (AO.gtr rfl rfl rfl (fun c52 => ?_) (fun c52 => ?_))
        ·refine AL.yes rfl rfl (AO.pickT rfl rfl rfl (AL.go (AO.pickF rfl rfl rfl (AL.nil (AK.seqN (AC.condT rfl (AC.seq ?_)))))))
         refine AC.region (AL.go (AO.assign rfl rfl (AL.nil (AK.seqN (AC.ret (AK.seqR ?_))))))
         first | refine AK.ret (L' := L) (F' := F) Tryz.results117 rfl subA (hT ?_) | refine AK.ret (L' := L) (F' := F) Tryz.results117 rfl subA (hF ?_)
         first
         | exact made_long (by omega)
         | exact made_kid hql (by omega)
         | exact made_noname c32 c36
         | exact made_nowords c42 c46 (by omega)
         | exact made_noK (madeK_no c58 c59 c68 c82 c91 c105 c114 c119 c129)
        ·refine AL.yes rfl rfl (AO.pickT rfl rfl rfl (AL.go (AO.pickF rfl rfl rfl (AL.nil (AK.seqN (AC.condF rfl (AC.skip ?_)))))))
         refine AK.seqN (AC.seq (AC.seq (AC.region (AL.go (AO.field rfl rfl ?_)))))
         refine AL.go (AO.loadB rfl rfl ?_)
         refine AL.nil (AK.seqN (AC.block (AC.seq (AC.seq (AC.region ?_)))))
         refine AL.go (AO.eql rfl rfl rfl (fun c58 => ?_) (fun c58 => ?_))
         ·refine AL.go (AO.assign rfl rfl (AL.nil (AK.seqN (AC.condT rfl (AC.skip (AK.seqN ?_))))))
          refine AC.condT rfl (AC.seq (AC.region (AL.go (AO.field rfl rfl ?_))))
          refine AL.go (AO.loadB rfl rfl ?_)
          refine AL.go (AO.eql rfl rfl rfl (fun c62 => ?_) (fun c62 => ?_))
          ·refine AL.go (AO.move rfl rfl (AL.yes rfl rfl (AO.move rfl rfl ?_)))
           refine AL.yes rfl rfl (AO.eql rfl rfl rfl (fun c65 => ?_) (fun c65 => ?_))
           ·refine AL.go (AO.pickT rfl rfl rfl (AL.go (AO.assign rfl rfl (AL.nil (AK.seqN (AC.ret (AK.blkR ?_)))))))
            refine AK.seqR ?_
            first | refine AK.ret (L' := L) (F' := F) Tryz.results117 rfl subA (hT ?_) | refine AK.ret (L' := L) (F' := F) Tryz.results117 rfl subA (hF ?_)
            first
            | exact made_refs hkids (by omega) (by first | exact fun _ => c36 | exact fun h => absurd c32 h) (by first | exact fun h _ => absurd c42 h | exact fun _ h => absurd c46 h | exact fun _ _ => List.eq_nil_of_length_eq_zero (by omega)) ((madeK_1 c58).2 (by omega))
            | (refine made_noK (fun e => ?_); have e := (madeK_1 c58).1 e; omega)
           ·refine AL.go (AO.pickT rfl rfl rfl (AL.go (AO.assign rfl rfl (AL.nil (AK.seqN (AC.ret (AK.blkR ?_)))))))
            refine AK.seqR ?_
            first | refine AK.ret (L' := L) (F' := F) Tryz.results117 rfl subA (hT ?_) | refine AK.ret (L' := L) (F' := F) Tryz.results117 rfl subA (hF ?_)
            first
            | exact made_refs hkids (by omega) (by first | exact fun _ => c36 | exact fun h => absurd c32 h) (by first | exact fun h _ => absurd c42 h | exact fun _ h => absurd c46 h | exact fun _ _ => List.eq_nil_of_length_eq_zero (by omega)) ((madeK_1 c58).2 (by omega))
            | (refine made_noK (fun e => ?_); have e := (madeK_1 c58).1 e; omega)
          ·refine AL.go (AO.move rfl rfl (AL.no rfl rfl rfl rfl (AL.no rfl rfl rfl rfl (AL.go (AO.pickF rfl rfl rfl (AL.go (AO.assign rfl rfl (AL.nil ?_))))))))
           refine AK.seqN (AC.ret (AK.blkR (AK.seqR ?_)))
           first | refine AK.ret (L' := L) (F' := F) Tryz.results117 rfl subA (hT ?_) | refine AK.ret (L' := L) (F' := F) Tryz.results117 rfl subA (hF ?_)
           first
           | exact made_refs hkids (by omega) (by first | exact fun _ => c36 | exact fun h => absurd c32 h) (by first | exact fun h _ => absurd c42 h | exact fun _ h => absurd c46 h | exact fun _ _ => List.eq_nil_of_length_eq_zero (by omega)) ((madeK_1 c58).2 (by omega))
           | (refine made_noK (fun e => ?_); have e := (madeK_1 c58).1 e; omega)
         ·refine AL.go (AO.assign rfl rfl (AL.nil (AK.seqN (AC.condF rfl (AC.region ?_)))))
          refine AL.go (AO.eql rfl rfl rfl (fun c59 => ?_) (fun c59 => ?_))
          ·refine AL.go (AO.assign rfl rfl (AL.nil (AK.seqN (AC.condT rfl (AC.seq (AC.region ?_))))))
           refine AL.go (AO.field rfl rfl ?_)
           refine AL.go (AO.loadB rfl rfl ?_)
           refine AL.go (AO.eql rfl rfl rfl (fun c62 => ?_) (fun c62 => ?_))
           ·refine AL.go (AO.move rfl rfl (AL.yes rfl rfl (AO.move rfl rfl ?_)))
            refine AL.yes rfl rfl (AO.eql rfl rfl rfl (fun c65 => ?_) (fun c65 => ?_))
            ·refine AL.go (AO.pickT rfl rfl rfl (AL.go (AO.assign rfl rfl (AL.nil (AK.seqN (AC.ret (AK.blkR ?_)))))))
             refine AK.seqR ?_
             first | refine AK.ret (L' := L) (F' := F) Tryz.results117 rfl subA (hT ?_) | refine AK.ret (L' := L) (F' := F) Tryz.results117 rfl subA (hF ?_)
             first
             | exact made_refs hkids (by omega) (by first | exact fun _ => c36 | exact fun h => absurd c32 h) (by first | exact fun h _ => absurd c42 h | exact fun _ h => absurd c46 h | exact fun _ _ => List.eq_nil_of_length_eq_zero (by omega)) ((madeK_2 c59).2 (by omega))
             | (refine made_noK (fun e => ?_); have e := (madeK_2 c59).1 e; omega)
            ·refine AL.go (AO.pickT rfl rfl rfl (AL.go (AO.assign rfl rfl (AL.nil (AK.seqN (AC.ret (AK.blkR ?_)))))))
             refine AK.seqR ?_
             first | refine AK.ret (L' := L) (F' := F) Tryz.results117 rfl subA (hT ?_) | refine AK.ret (L' := L) (F' := F) Tryz.results117 rfl subA (hF ?_)
             first
             | exact made_refs hkids (by omega) (by first | exact fun _ => c36 | exact fun h => absurd c32 h) (by first | exact fun h _ => absurd c42 h | exact fun _ h => absurd c46 h | exact fun _ _ => List.eq_nil_of_length_eq_zero (by omega)) ((madeK_2 c59).2 (by omega))
             | (refine made_noK (fun e => ?_); have e := (madeK_2 c59).1 e; omega)
           ·refine AL.go (AO.move rfl rfl (AL.no rfl rfl rfl rfl (AL.no rfl rfl rfl rfl (AL.go (AO.pickF rfl rfl rfl (AL.go (AO.assign rfl rfl (AL.nil ?_))))))))
            refine AK.seqN (AC.ret (AK.blkR (AK.seqR ?_)))
            first | refine AK.ret (L' := L) (F' := F) Tryz.results117 rfl subA (hT ?_) | refine AK.ret (L' := L) (F' := F) Tryz.results117 rfl subA (hF ?_)
            first
            | exact made_refs hkids (by omega) (by first | exact fun _ => c36 | exact fun h => absurd c32 h) (by first | exact fun h _ => absurd c42 h | exact fun _ h => absurd c46 h | exact fun _ _ => List.eq_nil_of_length_eq_zero (by omega)) ((madeK_2 c59).2 (by omega))
            | (refine made_noK (fun e => ?_); have e := (madeK_2 c59).1 e; omega)
          ·refine AL.go (AO.assign rfl rfl (AL.nil (AK.seqN (AC.condF rfl (AC.seq (AC.region ?_))))))
           refine AL.go (AO.eql rfl rfl rfl (fun c68 => ?_) (fun c68 => ?_))
           ·refine AL.go (AO.assign rfl rfl (AL.nil (AK.seqN (AC.condT rfl (AC.seq (AC.region ?_))))))
            refine AL.go (AO.field rfl rfl ?_)
            refine AL.go (AO.loadB rfl rfl ?_)
            refine AL.go (AO.geq rfl rfl rfl (fun c71 => ?_) (fun c71 => ?_))
            ·refine AL.go (AO.move rfl rfl (AL.yes rfl rfl (AO.field rfl rfl ?_)))
             refine AL.yes rfl rfl (AO.loadB rfl rfl ?_)
             refine AL.yes rfl rfl (AO.leq rfl rfl rfl (fun c75 => ?_) (fun c75 => ?_))
             ·refine AL.go (AO.pickT rfl rfl rfl (AL.go (AO.move rfl rfl (AL.yes rfl rfl (AO.move rfl rfl ?_)))))
              refine AL.yes rfl rfl (AO.eql rfl rfl rfl (fun c79 => ?_) (fun c79 => ?_))
              ·refine AL.go (AO.pickT rfl rfl rfl (AL.go (AO.assign rfl rfl (AL.nil (AK.seqN (AC.ret (AK.blkR ?_)))))))
               refine AK.seqR ?_
               first | refine AK.ret (L' := L) (F' := F) Tryz.results117 rfl subA (hT ?_) | refine AK.ret (L' := L) (F' := F) Tryz.results117 rfl subA (hF ?_)
               first
               | exact made_refs hkids (by omega) (by first | exact fun _ => c36 | exact fun h => absurd c32 h) (by first | exact fun h _ => absurd c42 h | exact fun _ h => absurd c46 h | exact fun _ _ => List.eq_nil_of_length_eq_zero (by omega)) ((madeK_3 c68).2 (by omega))
               | (refine made_noK (fun e => ?_); have e := (madeK_3 c68).1 e; omega)
              ·refine AL.go (AO.pickT rfl rfl rfl (AL.go (AO.assign rfl rfl (AL.nil (AK.seqN (AC.ret (AK.blkR ?_)))))))
               refine AK.seqR ?_
               first | refine AK.ret (L' := L) (F' := F) Tryz.results117 rfl subA (hT ?_) | refine AK.ret (L' := L) (F' := F) Tryz.results117 rfl subA (hF ?_)
               first
               | exact made_refs hkids (by omega) (by first | exact fun _ => c36 | exact fun h => absurd c32 h) (by first | exact fun h _ => absurd c42 h | exact fun _ h => absurd c46 h | exact fun _ _ => List.eq_nil_of_length_eq_zero (by omega)) ((madeK_3 c68).2 (by omega))
               | (refine made_noK (fun e => ?_); have e := (madeK_3 c68).1 e; omega)
             ·refine AL.go (AO.pickT rfl rfl rfl (AL.go (AO.move rfl rfl (AL.no rfl rfl rfl rfl (AL.no rfl rfl rfl rfl (AL.go (AO.pickF rfl rfl rfl (AL.go (AO.assign rfl rfl ?_)))))))))
              refine AL.nil (AK.seqN (AC.ret (AK.blkR (AK.seqR ?_))))
              first | refine AK.ret (L' := L) (F' := F) Tryz.results117 rfl subA (hT ?_) | refine AK.ret (L' := L) (F' := F) Tryz.results117 rfl subA (hF ?_)
              first
              | exact made_refs hkids (by omega) (by first | exact fun _ => c36 | exact fun h => absurd c32 h) (by first | exact fun h _ => absurd c42 h | exact fun _ h => absurd c46 h | exact fun _ _ => List.eq_nil_of_length_eq_zero (by omega)) ((madeK_3 c68).2 (by omega))
              | (refine made_noK (fun e => ?_); have e := (madeK_3 c68).1 e; omega)
            ·refine AL.go (AO.move rfl rfl (AL.no rfl rfl rfl rfl (AL.no rfl rfl rfl rfl (AL.no rfl rfl rfl rfl (AL.go (AO.pickF rfl rfl rfl (AL.go (AO.move rfl rfl ?_))))))))
             refine AL.no rfl rfl rfl rfl (AL.no rfl rfl rfl rfl (AL.go (AO.pickF rfl rfl rfl (AL.go (AO.assign rfl rfl (AL.nil (AK.seqN ?_)))))))
             refine AC.ret (AK.blkR (AK.seqR ?_))
             first | refine AK.ret (L' := L) (F' := F) Tryz.results117 rfl subA (hT ?_) | refine AK.ret (L' := L) (F' := F) Tryz.results117 rfl subA (hF ?_)
             first
             | exact made_refs hkids (by omega) (by first | exact fun _ => c36 | exact fun h => absurd c32 h) (by first | exact fun h _ => absurd c42 h | exact fun _ h => absurd c46 h | exact fun _ _ => List.eq_nil_of_length_eq_zero (by omega)) ((madeK_3 c68).2 (by omega))
             | (refine made_noK (fun e => ?_); have e := (madeK_3 c68).1 e; omega)
           ·refine AL.go (AO.assign rfl rfl (AL.nil (AK.seqN (AC.condF rfl (AC.seq (AC.region ?_))))))
            refine AL.go (AO.eql rfl rfl rfl (fun c82 => ?_) (fun c82 => ?_))
            ·refine AL.go (AO.assign rfl rfl (AL.nil (AK.seqN (AC.condT rfl (AC.seq (AC.region ?_))))))
             refine AL.go (AO.field rfl rfl ?_)
             refine AL.go (AO.loadB rfl rfl ?_)
             refine AL.go (AO.eql rfl rfl rfl (fun c85 => ?_) (fun c85 => ?_))
             ·refine AL.go (AO.move rfl rfl (AL.yes rfl rfl (AO.move rfl rfl ?_)))
              refine AL.yes rfl rfl (AO.eql rfl rfl rfl (fun c88 => ?_) (fun c88 => ?_))
              ·refine AL.go (AO.pickT rfl rfl rfl (AL.go (AO.assign rfl rfl (AL.nil (AK.seqN (AC.ret (AK.blkR ?_)))))))
               refine AK.seqR ?_
               first | refine AK.ret (L' := L) (F' := F) Tryz.results117 rfl subA (hT ?_) | refine AK.ret (L' := L) (F' := F) Tryz.results117 rfl subA (hF ?_)
               first
               | exact made_refs hkids (by omega) (by first | exact fun _ => c36 | exact fun h => absurd c32 h) (by first | exact fun h _ => absurd c42 h | exact fun _ h => absurd c46 h | exact fun _ _ => List.eq_nil_of_length_eq_zero (by omega)) ((madeK_4 c82).2 (by omega))
               | (refine made_noK (fun e => ?_); have e := (madeK_4 c82).1 e; omega)
              ·refine AL.go (AO.pickT rfl rfl rfl (AL.go (AO.assign rfl rfl (AL.nil (AK.seqN (AC.ret (AK.blkR ?_)))))))
               refine AK.seqR ?_
               first | refine AK.ret (L' := L) (F' := F) Tryz.results117 rfl subA (hT ?_) | refine AK.ret (L' := L) (F' := F) Tryz.results117 rfl subA (hF ?_)
               first
               | exact made_refs hkids (by omega) (by first | exact fun _ => c36 | exact fun h => absurd c32 h) (by first | exact fun h _ => absurd c42 h | exact fun _ h => absurd c46 h | exact fun _ _ => List.eq_nil_of_length_eq_zero (by omega)) ((madeK_4 c82).2 (by omega))
               | (refine made_noK (fun e => ?_); have e := (madeK_4 c82).1 e; omega)
             ·refine AL.go (AO.move rfl rfl (AL.no rfl rfl rfl rfl (AL.no rfl rfl rfl rfl (AL.go (AO.pickF rfl rfl rfl (AL.go (AO.assign rfl rfl (AL.nil ?_))))))))
              refine AK.seqN (AC.ret (AK.blkR (AK.seqR ?_)))
              first | refine AK.ret (L' := L) (F' := F) Tryz.results117 rfl subA (hT ?_) | refine AK.ret (L' := L) (F' := F) Tryz.results117 rfl subA (hF ?_)
              first
              | exact made_refs hkids (by omega) (by first | exact fun _ => c36 | exact fun h => absurd c32 h) (by first | exact fun h _ => absurd c42 h | exact fun _ h => absurd c46 h | exact fun _ _ => List.eq_nil_of_length_eq_zero (by omega)) ((madeK_4 c82).2 (by omega))
              | (refine made_noK (fun e => ?_); have e := (madeK_4 c82).1 e; omega)
            ·refine AL.go (AO.assign rfl rfl (AL.nil (AK.seqN (AC.condF rfl (AC.seq (AC.region ?_))))))
             refine AL.go (AO.eql rfl rfl rfl (fun c91 => ?_) (fun c91 => ?_))
             ·refine AL.go (AO.assign rfl rfl (AL.nil (AK.seqN (AC.condT rfl (AC.seq (AC.region ?_))))))
              refine AL.go (AO.field rfl rfl ?_)
              refine AL.go (AO.loadB rfl rfl ?_)
              refine AL.go (AO.eql rfl rfl rfl (fun c94 => ?_) (fun c94 => ?_))
              ·refine AL.go (AO.move rfl rfl (AL.no rfl rfl rfl rfl (AL.no rfl rfl rfl rfl (AL.no rfl rfl rfl rfl (AL.no rfl rfl rfl rfl (AL.no rfl rfl rfl rfl ?_))))))
               refine AL.no rfl rfl rfl rfl (AL.no rfl rfl rfl rfl (AL.go (AO.pickT rfl rfl rfl (AL.go (AO.assign rfl rfl (AL.nil (AK.seqN ?_)))))))
               refine AC.ret (AK.blkR (AK.seqR ?_))
               first | refine AK.ret (L' := L) (F' := F) Tryz.results117 rfl subA (hT ?_) | refine AK.ret (L' := L) (F' := F) Tryz.results117 rfl subA (hF ?_)
               first
               | exact made_refs hkids (by omega) (by first | exact fun _ => c36 | exact fun h => absurd c32 h) (by first | exact fun h _ => absurd c42 h | exact fun _ h => absurd c46 h | exact fun _ _ => List.eq_nil_of_length_eq_zero (by omega)) ((madeK_5 c91).2 (by omega))
               | (refine made_noK (fun e => ?_); have e := (madeK_5 c91).1 e; omega)
              ·refine AL.go (AO.move rfl rfl (AL.yes rfl rfl (AO.field rfl rfl ?_)))
               refine AL.yes rfl rfl (AO.loadB rfl rfl ?_)
               refine AL.yes rfl rfl (AO.eql rfl rfl rfl (fun c98 => ?_) (fun c98 => ?_))
               ·refine AL.yes rfl rfl (AO.move rfl rfl (AL.yes rfl rfl (AO.move rfl rfl ?_)))
                refine AL.yes rfl rfl (AO.gtr rfl rfl rfl (fun c101 => ?_) (fun c101 => ?_))
                ·refine AL.yes rfl rfl (AO.pickT rfl rfl rfl (AL.go (AO.pickF rfl rfl rfl (AL.go (AO.assign rfl rfl (AL.nil (AK.seqN (AC.ret ?_))))))))
                 refine AK.blkR (AK.seqR ?_)
                 first | refine AK.ret (L' := L) (F' := F) Tryz.results117 rfl subA (hT ?_) | refine AK.ret (L' := L) (F' := F) Tryz.results117 rfl subA (hF ?_)
                 first
                 | exact made_refs hkids (by omega) (by first | exact fun _ => c36 | exact fun h => absurd c32 h) (by first | exact fun h _ => absurd c42 h | exact fun _ h => absurd c46 h | exact fun _ _ => List.eq_nil_of_length_eq_zero (by omega)) ((madeK_5 c91).2 (by omega))
                 | (refine made_noK (fun e => ?_); have e := (madeK_5 c91).1 e; omega)
                ·refine AL.yes rfl rfl (AO.pickT rfl rfl rfl (AL.go (AO.pickF rfl rfl rfl (AL.go (AO.assign rfl rfl (AL.nil (AK.seqN (AC.ret ?_))))))))
                 refine AK.blkR (AK.seqR ?_)
                 first | refine AK.ret (L' := L) (F' := F) Tryz.results117 rfl subA (hT ?_) | refine AK.ret (L' := L) (F' := F) Tryz.results117 rfl subA (hF ?_)
                 first
                 | exact made_refs hkids (by omega) (by first | exact fun _ => c36 | exact fun h => absurd c32 h) (by first | exact fun h _ => absurd c42 h | exact fun _ h => absurd c46 h | exact fun _ _ => List.eq_nil_of_length_eq_zero (by omega)) ((madeK_5 c91).2 (by omega))
                 | (refine made_noK (fun e => ?_); have e := (madeK_5 c91).1 e; omega)
               ·refine AL.yes rfl rfl (AO.move rfl rfl (AL.no rfl rfl rfl rfl (AL.no rfl rfl rfl rfl (AL.yes rfl rfl (AO.pickF rfl rfl rfl (AL.go (AO.pickF rfl rfl rfl (AL.go (AO.assign rfl rfl ?_)))))))))
                refine AL.nil (AK.seqN (AC.ret (AK.blkR (AK.seqR ?_))))
                first | refine AK.ret (L' := L) (F' := F) Tryz.results117 rfl subA (hT ?_) | refine AK.ret (L' := L) (F' := F) Tryz.results117 rfl subA (hF ?_)
                first
                | exact made_refs hkids (by omega) (by first | exact fun _ => c36 | exact fun h => absurd c32 h) (by first | exact fun h _ => absurd c42 h | exact fun _ h => absurd c46 h | exact fun _ _ => List.eq_nil_of_length_eq_zero (by omega)) ((madeK_5 c91).2 (by omega))
                | (refine made_noK (fun e => ?_); have e := (madeK_5 c91).1 e; omega)
             ·refine AL.go (AO.assign rfl rfl (AL.nil (AK.seqN (AC.condF rfl (AC.seq (AC.region ?_))))))
              refine AL.go (AO.eql rfl rfl rfl (fun c105 => ?_) (fun c105 => ?_))
              ·refine AL.go (AO.assign rfl rfl (AL.nil (AK.seqN (AC.condT rfl (AC.seq (AC.region ?_))))))
               refine AL.go (AO.field rfl rfl ?_)
               refine AL.go (AO.loadB rfl rfl ?_)
               refine AL.go (AO.eql rfl rfl rfl (fun c108 => ?_) (fun c108 => ?_))
               ·refine AL.go (AO.move rfl rfl ?_)
                refine AL.yes rfl rfl (AO.loadBA rfl rfl ?_)
                refine AL.yes rfl rfl (AO.call rfl rfl (rfields_c t ht memA memA (fun c111 => ?_) (fun c111 => ?_)))
                ·refine AL.go (AO.pickT rfl rfl rfl (AL.go (AO.assign rfl rfl (AL.nil (AK.seqN (AC.ret (AK.blkR ?_)))))))
                 refine AK.seqR ?_
                 first | refine AK.ret (L' := L) (F' := F) Tryz.results117 rfl subA (hT ?_) | refine AK.ret (L' := L) (F' := F) Tryz.results117 rfl subA (hF ?_)
                 first
                 | exact made_refs hkids (by omega) (by first | exact fun _ => c36 | exact fun h => absurd c32 h) (by first | exact fun h _ => absurd c42 h | exact fun _ h => absurd c46 h | exact fun _ _ => List.eq_nil_of_length_eq_zero (by omega)) ((madeK_6 c105).2 ⟨c108, c111.1, c111.2⟩)
                 | exact made_noK (fun e => c111 ⟨((madeK_6 c105).1 e).2.1, ((madeK_6 c105).1 e).2.2⟩)
                 | exact made_noK (fun e => c108 ((madeK_6 c105).1 e).1)
                ·refine AL.go (AO.pickT rfl rfl rfl (AL.go (AO.assign rfl rfl (AL.nil (AK.seqN (AC.ret (AK.blkR ?_)))))))
                 refine AK.seqR ?_
                 first | refine AK.ret (L' := L) (F' := F) Tryz.results117 rfl subA (hT ?_) | refine AK.ret (L' := L) (F' := F) Tryz.results117 rfl subA (hF ?_)
                 first
                 | exact made_refs hkids (by omega) (by first | exact fun _ => c36 | exact fun h => absurd c32 h) (by first | exact fun h _ => absurd c42 h | exact fun _ h => absurd c46 h | exact fun _ _ => List.eq_nil_of_length_eq_zero (by omega)) ((madeK_6 c105).2 ⟨c108, c111.1, c111.2⟩)
                 | exact made_noK (fun e => c111 ⟨((madeK_6 c105).1 e).2.1, ((madeK_6 c105).1 e).2.2⟩)
                 | exact made_noK (fun e => c108 ((madeK_6 c105).1 e).1)
               ·refine AL.go (AO.move rfl rfl (AL.no rfl rfl rfl rfl (AL.no rfl rfl rfl rfl (AL.go (AO.pickF rfl rfl rfl (AL.go (AO.assign rfl rfl (AL.nil ?_))))))))
                refine AK.seqN (AC.ret (AK.blkR (AK.seqR ?_)))
                first | refine AK.ret (L' := L) (F' := F) Tryz.results117 rfl subA (hT ?_) | refine AK.ret (L' := L) (F' := F) Tryz.results117 rfl subA (hF ?_)
                first
                | exact made_refs hkids (by omega) (by first | exact fun _ => c36 | exact fun h => absurd c32 h) (by first | exact fun h _ => absurd c42 h | exact fun _ h => absurd c46 h | exact fun _ _ => List.eq_nil_of_length_eq_zero (by omega)) ((madeK_6 c105).2 ⟨c108, c111.1, c111.2⟩)
                | exact made_noK (fun e => c111 ⟨((madeK_6 c105).1 e).2.1, ((madeK_6 c105).1 e).2.2⟩)
                | exact made_noK (fun e => c108 ((madeK_6 c105).1 e).1)
              ·refine AL.go (AO.assign rfl rfl (AL.nil (AK.seqN (AC.condF rfl (AC.seq (AC.region ?_))))))
               refine AL.go (AO.eql rfl rfl rfl (fun c114 => ?_) (fun c114 => ?_))
               ·refine AL.go (AO.assign rfl rfl (AL.nil (AK.seqN (AC.condT rfl (AC.seq (AC.region ?_))))))
                refine AL.go (AO.move rfl rfl ?_)
                refine AL.go (AO.loadBA rfl rfl ?_)
                refine AL.go (AO.call rfl rfl (relems_c l t ht hkids memA memA memA (fun c117 => ?_) (fun c117 => ?_)))
                ·refine AL.go (AO.assign rfl rfl (AL.nil (AK.seqN (AC.ret (AK.blkR (AK.seqR ?_))))))
                 first | refine AK.ret (L' := L) (F' := F) Tryz.results117 rfl subA (hT ?_) | refine AK.ret (L' := L) (F' := F) Tryz.results117 rfl subA (hF ?_)
                 first
                 | exact made_refs hkids (by omega) (by first | exact fun _ => c36 | exact fun h => absurd c32 h) (by first | exact fun h _ => absurd c42 h | exact fun _ h => absurd c46 h | exact fun _ _ => List.eq_nil_of_length_eq_zero (by omega)) ((madeK_7 c114).2 c117)
                 | exact made_noK (fun e => c117 ((madeK_7 c114).1 e))
                ·refine AL.go (AO.assign rfl rfl (AL.nil (AK.seqN (AC.ret (AK.blkR (AK.seqR ?_))))))
                 first | refine AK.ret (L' := L) (F' := F) Tryz.results117 rfl subA (hT ?_) | refine AK.ret (L' := L) (F' := F) Tryz.results117 rfl subA (hF ?_)
                 first
                 | exact made_refs hkids (by omega) (by first | exact fun _ => c36 | exact fun h => absurd c32 h) (by first | exact fun h _ => absurd c42 h | exact fun _ h => absurd c46 h | exact fun _ _ => List.eq_nil_of_length_eq_zero (by omega)) ((madeK_7 c114).2 c117)
                 | exact made_noK (fun e => c117 ((madeK_7 c114).1 e))
               ·refine AL.go (AO.assign rfl rfl (AL.nil (AK.seqN (AC.condF rfl (AC.seq (AC.region ?_))))))
                refine AL.go (AO.eql rfl rfl rfl (fun c119 => ?_) (fun c119 => ?_))
                ·refine AL.go (AO.assign rfl rfl (AL.nil (AK.seqN (AC.condT rfl (AC.seq (AC.region ?_))))))
                 refine AL.go (AO.field rfl rfl ?_)
                 refine AL.go (AO.loadB rfl rfl ?_)
                 refine AL.go (AO.eql rfl rfl rfl (fun c122 => ?_) (fun c122 => ?_))
                 ·refine AL.go (AO.move rfl rfl (AL.yes rfl rfl (AO.field rfl rfl ?_)))
                  refine AL.yes rfl rfl (AO.loadB rfl rfl ?_)
                  refine AL.yes rfl rfl (AO.call rfl rfl (rnamed_c t.name (by omega) (fun c126 => ?_) (fun c126 => ?_)))
                  ·refine AL.go (AO.pickT rfl rfl rfl (AL.go (AO.assign rfl rfl (AL.nil (AK.seqN (AC.ret (AK.blkR ?_)))))))
                   refine AK.seqR ?_
                   first | refine AK.ret (L' := L) (F' := F) Tryz.results117 rfl subA (hT ?_) | refine AK.ret (L' := L) (F' := F) Tryz.results117 rfl subA (hF ?_)
                   first
                   | exact made_refs hkids (by omega) (by first | exact fun _ => c36 | exact fun h => absurd c32 h) (by first | exact fun h _ => absurd c42 h | exact fun _ h => absurd c46 h | exact fun _ _ => List.eq_nil_of_length_eq_zero (by omega)) ((madeK_8 c119).2 ⟨c122, c126⟩)
                   | exact made_noK (fun e => c126 ((madeK_8 c119).1 e).2)
                   | exact made_noK (fun e => c122 ((madeK_8 c119).1 e).1)
                  ·refine AL.go (AO.pickT rfl rfl rfl (AL.go (AO.assign rfl rfl (AL.nil (AK.seqN (AC.ret (AK.blkR ?_)))))))
                   refine AK.seqR ?_
                   first | refine AK.ret (L' := L) (F' := F) Tryz.results117 rfl subA (hT ?_) | refine AK.ret (L' := L) (F' := F) Tryz.results117 rfl subA (hF ?_)
                   first
                   | exact made_refs hkids (by omega) (by first | exact fun _ => c36 | exact fun h => absurd c32 h) (by first | exact fun h _ => absurd c42 h | exact fun _ h => absurd c46 h | exact fun _ _ => List.eq_nil_of_length_eq_zero (by omega)) ((madeK_8 c119).2 ⟨c122, c126⟩)
                   | exact made_noK (fun e => c126 ((madeK_8 c119).1 e).2)
                   | exact made_noK (fun e => c122 ((madeK_8 c119).1 e).1)
                 ·refine AL.go (AO.move rfl rfl (AL.no rfl rfl rfl rfl (AL.no rfl rfl rfl rfl (AL.no rfl rfl rfl rfl (AL.go (AO.pickF rfl rfl rfl (AL.go (AO.assign rfl rfl ?_))))))))
                  refine AL.nil (AK.seqN (AC.ret (AK.blkR (AK.seqR ?_))))
                  first | refine AK.ret (L' := L) (F' := F) Tryz.results117 rfl subA (hT ?_) | refine AK.ret (L' := L) (F' := F) Tryz.results117 rfl subA (hF ?_)
                  first
                  | exact made_refs hkids (by omega) (by first | exact fun _ => c36 | exact fun h => absurd c32 h) (by first | exact fun h _ => absurd c42 h | exact fun _ h => absurd c46 h | exact fun _ _ => List.eq_nil_of_length_eq_zero (by omega)) ((madeK_8 c119).2 ⟨c122, c126⟩)
                  | exact made_noK (fun e => c126 ((madeK_8 c119).1 e).2)
                  | exact made_noK (fun e => c122 ((madeK_8 c119).1 e).1)
                ·refine AL.go (AO.assign rfl rfl (AL.nil (AK.seqN (AC.condF rfl (AC.seq (AC.region ?_))))))
                 refine AL.go (AO.eql rfl rfl rfl (fun c129 => ?_) (fun c129 => ?_))
                 ·refine AL.go (AO.assign rfl rfl (AL.nil (AK.seqN (AC.condT rfl (AC.seq (AC.region ?_))))))
                  refine AL.go (AO.field rfl rfl ?_)
                  refine AL.go (AO.loadB rfl rfl ?_)
                  refine AL.go (AO.geq rfl rfl rfl (fun c132 => ?_) (fun c132 => ?_))
                  ·refine AL.go (AO.move rfl rfl (AL.yes rfl rfl (AO.field rfl rfl ?_)))
                   refine AL.yes rfl rfl (AO.loadB rfl rfl ?_)
                   refine AL.yes rfl rfl (AO.lss rfl rfl rfl (fun c136 => ?_) (fun c136 => ?_))
                   ·refine AL.go (AO.pickT rfl rfl rfl (AL.go (AO.move rfl rfl (AL.yes rfl rfl (AO.move rfl rfl ?_)))))
                    refine AL.yes rfl rfl (AO.eql rfl rfl rfl (fun c140 => ?_) (fun c140 => ?_))
                    ·refine AL.go (AO.pickT rfl rfl rfl (AL.go (AO.assign rfl rfl (AL.nil (AK.seqN (AC.ret (AK.blkR ?_)))))))
                     refine AK.seqR ?_
                     first | refine AK.ret (L' := L) (F' := F) Tryz.results117 rfl subA (hT ?_) | refine AK.ret (L' := L) (F' := F) Tryz.results117 rfl subA (hF ?_)
                     first
                     | exact made_refs hkids (by omega) (by first | exact fun _ => c36 | exact fun h => absurd c32 h) (by first | exact fun h _ => absurd c42 h | exact fun _ h => absurd c46 h | exact fun _ _ => List.eq_nil_of_length_eq_zero (by omega)) ((madeK_9 c129).2 (by omega))
                     | (refine made_noK (fun e => ?_); have e := (madeK_9 c129).1 e; omega)
                    ·refine AL.go (AO.pickT rfl rfl rfl (AL.go (AO.assign rfl rfl (AL.nil (AK.seqN (AC.ret (AK.blkR ?_)))))))
                     refine AK.seqR ?_
                     first | refine AK.ret (L' := L) (F' := F) Tryz.results117 rfl subA (hT ?_) | refine AK.ret (L' := L) (F' := F) Tryz.results117 rfl subA (hF ?_)
                     first
                     | exact made_refs hkids (by omega) (by first | exact fun _ => c36 | exact fun h => absurd c32 h) (by first | exact fun h _ => absurd c42 h | exact fun _ h => absurd c46 h | exact fun _ _ => List.eq_nil_of_length_eq_zero (by omega)) ((madeK_9 c129).2 (by omega))
                     | (refine made_noK (fun e => ?_); have e := (madeK_9 c129).1 e; omega)
                   ·refine AL.go (AO.pickT rfl rfl rfl (AL.go (AO.move rfl rfl (AL.no rfl rfl rfl rfl (AL.no rfl rfl rfl rfl (AL.go (AO.pickF rfl rfl rfl (AL.go (AO.assign rfl rfl ?_)))))))))
                    refine AL.nil (AK.seqN (AC.ret (AK.blkR (AK.seqR ?_))))
                    first | refine AK.ret (L' := L) (F' := F) Tryz.results117 rfl subA (hT ?_) | refine AK.ret (L' := L) (F' := F) Tryz.results117 rfl subA (hF ?_)
                    first
                    | exact made_refs hkids (by omega) (by first | exact fun _ => c36 | exact fun h => absurd c32 h) (by first | exact fun h _ => absurd c42 h | exact fun _ h => absurd c46 h | exact fun _ _ => List.eq_nil_of_length_eq_zero (by omega)) ((madeK_9 c129).2 (by omega))
                    | (refine made_noK (fun e => ?_); have e := (madeK_9 c129).1 e; omega)
                  ·refine AL.go (AO.move rfl rfl (AL.no rfl rfl rfl rfl (AL.no rfl rfl rfl rfl (AL.no rfl rfl rfl rfl (AL.go (AO.pickF rfl rfl rfl (AL.go (AO.move rfl rfl ?_))))))))
                   refine AL.no rfl rfl rfl rfl (AL.no rfl rfl rfl rfl (AL.go (AO.pickF rfl rfl rfl (AL.go (AO.assign rfl rfl (AL.nil (AK.seqN ?_)))))))
                   refine AC.ret (AK.blkR (AK.seqR ?_))
                   first | refine AK.ret (L' := L) (F' := F) Tryz.results117 rfl subA (hT ?_) | refine AK.ret (L' := L) (F' := F) Tryz.results117 rfl subA (hF ?_)
                   first
                   | exact made_refs hkids (by omega) (by first | exact fun _ => c36 | exact fun h => absurd c32 h) (by first | exact fun h _ => absurd c42 h | exact fun _ h => absurd c46 h | exact fun _ _ => List.eq_nil_of_length_eq_zero (by omega)) ((madeK_9 c129).2 (by omega))
                   | (refine made_noK (fun e => ?_); have e := (madeK_9 c129).1 e; omega)
                 ·refine AL.go (AO.assign rfl rfl (AL.nil (AK.seqN (AC.condF rfl (AC.skip (AK.blkN ?_))))))
                  refine AK.seqN (AC.seq (AC.region (AL.go (AO.assign rfl rfl (AL.nil (AK.seqN ?_))))))
                  refine AC.ret ?_
                  first | refine AK.ret (L' := L) (F' := F) Tryz.results117 rfl subA (hT ?_) | refine AK.ret (L' := L) (F' := F) Tryz.results117 rfl subA (hF ?_)
                  first
                  | exact made_long (by omega)
                  | exact made_kid hql (by omega)
                  | exact made_noname c32 c36
                  | exact made_nowords c42 c46 (by omega)
                  | exact made_noK (madeK_no c58 c59 c68 c82 c91 c105 c114 c119 c129)
       ·refine AL.yes rfl rfl (AO.pickT rfl rfl rfl (AL.yes rfl rfl (AO.move rfl rfl (AL.no rfl rfl rfl rfl (AL.no rfl rfl rfl rfl (AL.no rfl rfl rfl rfl (AL.no rfl rfl rfl rfl ?_)))))))
        refine AL.yes rfl rfl (AO.pickF rfl rfl rfl (AL.go (AO.pickF rfl rfl rfl (AL.nil (AK.seqN (AC.condF rfl (AC.skip ?_)))))))
        refine AK.seqN (AC.seq (AC.seq (AC.region (AL.go (AO.field rfl rfl ?_)))))
        refine AL.go (AO.loadB rfl rfl ?_)
        refine AL.nil (AK.seqN (AC.block (AC.seq (AC.seq (AC.region ?_)))))
        refine AL.go (AO.eql rfl rfl rfl (fun c58 => ?_) (fun c58 => ?_))
        ·refine AL.go (AO.assign rfl rfl (AL.nil (AK.seqN (AC.condT rfl (AC.skip (AK.seqN ?_))))))
         refine AC.condT rfl (AC.seq (AC.region (AL.go (AO.field rfl rfl ?_))))
         refine AL.go (AO.loadB rfl rfl ?_)
         refine AL.go (AO.eql rfl rfl rfl (fun c62 => ?_) (fun c62 => ?_))
         ·refine AL.go (AO.move rfl rfl (AL.yes rfl rfl (AO.move rfl rfl ?_)))
          refine AL.yes rfl rfl (AO.eql rfl rfl rfl (fun c65 => ?_) (fun c65 => ?_))
          ·refine AL.go (AO.pickT rfl rfl rfl (AL.go (AO.assign rfl rfl (AL.nil (AK.seqN (AC.ret (AK.blkR ?_)))))))
           refine AK.seqR ?_
           first | refine AK.ret (L' := L) (F' := F) Tryz.results117 rfl subA (hT ?_) | refine AK.ret (L' := L) (F' := F) Tryz.results117 rfl subA (hF ?_)
           first
           | exact made_refs hkids (by omega) (by first | exact fun _ => c36 | exact fun h => absurd c32 h) (by first | exact fun h _ => absurd c42 h | exact fun _ h => absurd c46 h | exact fun _ _ => List.eq_nil_of_length_eq_zero (by omega)) ((madeK_1 c58).2 (by omega))
           | (refine made_noK (fun e => ?_); have e := (madeK_1 c58).1 e; omega)
          ·refine AL.go (AO.pickT rfl rfl rfl (AL.go (AO.assign rfl rfl (AL.nil (AK.seqN (AC.ret (AK.blkR ?_)))))))
           refine AK.seqR ?_
           first | refine AK.ret (L' := L) (F' := F) Tryz.results117 rfl subA (hT ?_) | refine AK.ret (L' := L) (F' := F) Tryz.results117 rfl subA (hF ?_)
           first
           | exact made_refs hkids (by omega) (by first | exact fun _ => c36 | exact fun h => absurd c32 h) (by first | exact fun h _ => absurd c42 h | exact fun _ h => absurd c46 h | exact fun _ _ => List.eq_nil_of_length_eq_zero (by omega)) ((madeK_1 c58).2 (by omega))
           | (refine made_noK (fun e => ?_); have e := (madeK_1 c58).1 e; omega)
         ·refine AL.go (AO.move rfl rfl (AL.no rfl rfl rfl rfl (AL.no rfl rfl rfl rfl (AL.go (AO.pickF rfl rfl rfl (AL.go (AO.assign rfl rfl (AL.nil ?_))))))))
          refine AK.seqN (AC.ret (AK.blkR (AK.seqR ?_)))
          first | refine AK.ret (L' := L) (F' := F) Tryz.results117 rfl subA (hT ?_) | refine AK.ret (L' := L) (F' := F) Tryz.results117 rfl subA (hF ?_)
          first
          | exact made_refs hkids (by omega) (by first | exact fun _ => c36 | exact fun h => absurd c32 h) (by first | exact fun h _ => absurd c42 h | exact fun _ h => absurd c46 h | exact fun _ _ => List.eq_nil_of_length_eq_zero (by omega)) ((madeK_1 c58).2 (by omega))
          | (refine made_noK (fun e => ?_); have e := (madeK_1 c58).1 e; omega)
        ·refine AL.go (AO.assign rfl rfl (AL.nil (AK.seqN (AC.condF rfl (AC.region ?_)))))
         refine AL.go (AO.eql rfl rfl rfl (fun c59 => ?_) (fun c59 => ?_))
         ·refine AL.go (AO.assign rfl rfl (AL.nil (AK.seqN (AC.condT rfl (AC.seq (AC.region ?_))))))
          refine AL.go (AO.field rfl rfl ?_)
          refine AL.go (AO.loadB rfl rfl ?_)
          refine AL.go (AO.eql rfl rfl rfl (fun c62 => ?_) (fun c62 => ?_))
          ·refine AL.go (AO.move rfl rfl (AL.yes rfl rfl (AO.move rfl rfl ?_)))
           refine AL.yes rfl rfl (AO.eql rfl rfl rfl (fun c65 => ?_) (fun c65 => ?_))
           ·refine AL.go (AO.pickT rfl rfl rfl (AL.go (AO.assign rfl rfl (AL.nil (AK.seqN (AC.ret (AK.blkR ?_)))))))
            refine AK.seqR ?_
            first | refine AK.ret (L' := L) (F' := F) Tryz.results117 rfl subA (hT ?_) | refine AK.ret (L' := L) (F' := F) Tryz.results117 rfl subA (hF ?_)
            first
            | exact made_refs hkids (by omega) (by first | exact fun _ => c36 | exact fun h => absurd c32 h) (by first | exact fun h _ => absurd c42 h | exact fun _ h => absurd c46 h | exact fun _ _ => List.eq_nil_of_length_eq_zero (by omega)) ((madeK_2 c59).2 (by omega))
            | (refine made_noK (fun e => ?_); have e := (madeK_2 c59).1 e; omega)
           ·refine AL.go (AO.pickT rfl rfl rfl (AL.go (AO.assign rfl rfl (AL.nil (AK.seqN (AC.ret (AK.blkR ?_)))))))
            refine AK.seqR ?_
            first | refine AK.ret (L' := L) (F' := F) Tryz.results117 rfl subA (hT ?_) | refine AK.ret (L' := L) (F' := F) Tryz.results117 rfl subA (hF ?_)
            first
            | exact made_refs hkids (by omega) (by first | exact fun _ => c36 | exact fun h => absurd c32 h) (by first | exact fun h _ => absurd c42 h | exact fun _ h => absurd c46 h | exact fun _ _ => List.eq_nil_of_length_eq_zero (by omega)) ((madeK_2 c59).2 (by omega))
            | (refine made_noK (fun e => ?_); have e := (madeK_2 c59).1 e; omega)
          ·refine AL.go (AO.move rfl rfl (AL.no rfl rfl rfl rfl (AL.no rfl rfl rfl rfl (AL.go (AO.pickF rfl rfl rfl (AL.go (AO.assign rfl rfl (AL.nil ?_))))))))
           refine AK.seqN (AC.ret (AK.blkR (AK.seqR ?_)))
           first | refine AK.ret (L' := L) (F' := F) Tryz.results117 rfl subA (hT ?_) | refine AK.ret (L' := L) (F' := F) Tryz.results117 rfl subA (hF ?_)
           first
           | exact made_refs hkids (by omega) (by first | exact fun _ => c36 | exact fun h => absurd c32 h) (by first | exact fun h _ => absurd c42 h | exact fun _ h => absurd c46 h | exact fun _ _ => List.eq_nil_of_length_eq_zero (by omega)) ((madeK_2 c59).2 (by omega))
           | (refine made_noK (fun e => ?_); have e := (madeK_2 c59).1 e; omega)
         ·refine AL.go (AO.assign rfl rfl (AL.nil (AK.seqN (AC.condF rfl (AC.seq (AC.region ?_))))))
          refine AL.go (AO.eql rfl rfl rfl (fun c68 => ?_) (fun c68 => ?_))
          ·refine AL.go (AO.assign rfl rfl (AL.nil (AK.seqN (AC.condT rfl (AC.seq (AC.region ?_))))))
           refine AL.go (AO.field rfl rfl ?_)
           refine AL.go (AO.loadB rfl rfl ?_)
           refine AL.go (AO.geq rfl rfl rfl (fun c71 => ?_) (fun c71 => ?_))
           ·refine AL.go (AO.move rfl rfl (AL.yes rfl rfl (AO.field rfl rfl ?_)))
            refine AL.yes rfl rfl (AO.loadB rfl rfl ?_)
            refine AL.yes rfl rfl (AO.leq rfl rfl rfl (fun c75 => ?_) (fun c75 => ?_))
            ·refine AL.go (AO.pickT rfl rfl rfl (AL.go (AO.move rfl rfl (AL.yes rfl rfl (AO.move rfl rfl ?_)))))
             refine AL.yes rfl rfl (AO.eql rfl rfl rfl (fun c79 => ?_) (fun c79 => ?_))
             ·refine AL.go (AO.pickT rfl rfl rfl (AL.go (AO.assign rfl rfl (AL.nil (AK.seqN (AC.ret (AK.blkR ?_)))))))
              refine AK.seqR ?_
              first | refine AK.ret (L' := L) (F' := F) Tryz.results117 rfl subA (hT ?_) | refine AK.ret (L' := L) (F' := F) Tryz.results117 rfl subA (hF ?_)
              first
              | exact made_refs hkids (by omega) (by first | exact fun _ => c36 | exact fun h => absurd c32 h) (by first | exact fun h _ => absurd c42 h | exact fun _ h => absurd c46 h | exact fun _ _ => List.eq_nil_of_length_eq_zero (by omega)) ((madeK_3 c68).2 (by omega))
              | (refine made_noK (fun e => ?_); have e := (madeK_3 c68).1 e; omega)
             ·refine AL.go (AO.pickT rfl rfl rfl (AL.go (AO.assign rfl rfl (AL.nil (AK.seqN (AC.ret (AK.blkR ?_)))))))
              refine AK.seqR ?_
              first | refine AK.ret (L' := L) (F' := F) Tryz.results117 rfl subA (hT ?_) | refine AK.ret (L' := L) (F' := F) Tryz.results117 rfl subA (hF ?_)
              first
              | exact made_refs hkids (by omega) (by first | exact fun _ => c36 | exact fun h => absurd c32 h) (by first | exact fun h _ => absurd c42 h | exact fun _ h => absurd c46 h | exact fun _ _ => List.eq_nil_of_length_eq_zero (by omega)) ((madeK_3 c68).2 (by omega))
              | (refine made_noK (fun e => ?_); have e := (madeK_3 c68).1 e; omega)
            ·refine AL.go (AO.pickT rfl rfl rfl (AL.go (AO.move rfl rfl (AL.no rfl rfl rfl rfl (AL.no rfl rfl rfl rfl (AL.go (AO.pickF rfl rfl rfl (AL.go (AO.assign rfl rfl ?_)))))))))
             refine AL.nil (AK.seqN (AC.ret (AK.blkR (AK.seqR ?_))))
             first | refine AK.ret (L' := L) (F' := F) Tryz.results117 rfl subA (hT ?_) | refine AK.ret (L' := L) (F' := F) Tryz.results117 rfl subA (hF ?_)
             first
             | exact made_refs hkids (by omega) (by first | exact fun _ => c36 | exact fun h => absurd c32 h) (by first | exact fun h _ => absurd c42 h | exact fun _ h => absurd c46 h | exact fun _ _ => List.eq_nil_of_length_eq_zero (by omega)) ((madeK_3 c68).2 (by omega))
             | (refine made_noK (fun e => ?_); have e := (madeK_3 c68).1 e; omega)
           ·refine AL.go (AO.move rfl rfl (AL.no rfl rfl rfl rfl (AL.no rfl rfl rfl rfl (AL.no rfl rfl rfl rfl (AL.go (AO.pickF rfl rfl rfl (AL.go (AO.move rfl rfl ?_))))))))
            refine AL.no rfl rfl rfl rfl (AL.no rfl rfl rfl rfl (AL.go (AO.pickF rfl rfl rfl (AL.go (AO.assign rfl rfl (AL.nil (AK.seqN ?_)))))))
            refine AC.ret (AK.blkR (AK.seqR ?_))
            first | refine AK.ret (L' := L) (F' := F) Tryz.results117 rfl subA (hT ?_) | refine AK.ret (L' := L) (F' := F) Tryz.results117 rfl subA (hF ?_)
            first
            | exact made_refs hkids (by omega) (by first | exact fun _ => c36 | exact fun h => absurd c32 h) (by first | exact fun h _ => absurd c42 h | exact fun _ h => absurd c46 h | exact fun _ _ => List.eq_nil_of_length_eq_zero (by omega)) ((madeK_3 c68).2 (by omega))
            | (refine made_noK (fun e => ?_); have e := (madeK_3 c68).1 e; omega)
          ·refine AL.go (AO.assign rfl rfl (AL.nil (AK.seqN (AC.condF rfl (AC.seq (AC.region ?_))))))
           refine AL.go (AO.eql rfl rfl rfl (fun c82 => ?_) (fun c82 => ?_))
           ·refine AL.go (AO.assign rfl rfl (AL.nil (AK.seqN (AC.condT rfl (AC.seq (AC.region ?_))))))
            refine AL.go (AO.field rfl rfl ?_)
            refine AL.go (AO.loadB rfl rfl ?_)
            refine AL.go (AO.eql rfl rfl rfl (fun c85 => ?_) (fun c85 => ?_))
            ·refine AL.go (AO.move rfl rfl (AL.yes rfl rfl (AO.move rfl rfl ?_)))
             refine AL.yes rfl rfl (AO.eql rfl rfl rfl (fun c88 => ?_) (fun c88 => ?_))
             ·refine AL.go (AO.pickT rfl rfl rfl (AL.go (AO.assign rfl rfl (AL.nil (AK.seqN (AC.ret (AK.blkR ?_)))))))
              refine AK.seqR ?_
              first | refine AK.ret (L' := L) (F' := F) Tryz.results117 rfl subA (hT ?_) | refine AK.ret (L' := L) (F' := F) Tryz.results117 rfl subA (hF ?_)
              first
              | exact made_refs hkids (by omega) (by first | exact fun _ => c36 | exact fun h => absurd c32 h) (by first | exact fun h _ => absurd c42 h | exact fun _ h => absurd c46 h | exact fun _ _ => List.eq_nil_of_length_eq_zero (by omega)) ((madeK_4 c82).2 (by omega))
              | (refine made_noK (fun e => ?_); have e := (madeK_4 c82).1 e; omega)
             ·refine AL.go (AO.pickT rfl rfl rfl (AL.go (AO.assign rfl rfl (AL.nil (AK.seqN (AC.ret (AK.blkR ?_)))))))
              refine AK.seqR ?_
              first | refine AK.ret (L' := L) (F' := F) Tryz.results117 rfl subA (hT ?_) | refine AK.ret (L' := L) (F' := F) Tryz.results117 rfl subA (hF ?_)
              first
              | exact made_refs hkids (by omega) (by first | exact fun _ => c36 | exact fun h => absurd c32 h) (by first | exact fun h _ => absurd c42 h | exact fun _ h => absurd c46 h | exact fun _ _ => List.eq_nil_of_length_eq_zero (by omega)) ((madeK_4 c82).2 (by omega))
              | (refine made_noK (fun e => ?_); have e := (madeK_4 c82).1 e; omega)
            ·refine AL.go (AO.move rfl rfl (AL.no rfl rfl rfl rfl (AL.no rfl rfl rfl rfl (AL.go (AO.pickF rfl rfl rfl (AL.go (AO.assign rfl rfl (AL.nil ?_))))))))
             refine AK.seqN (AC.ret (AK.blkR (AK.seqR ?_)))
             first | refine AK.ret (L' := L) (F' := F) Tryz.results117 rfl subA (hT ?_) | refine AK.ret (L' := L) (F' := F) Tryz.results117 rfl subA (hF ?_)
             first
             | exact made_refs hkids (by omega) (by first | exact fun _ => c36 | exact fun h => absurd c32 h) (by first | exact fun h _ => absurd c42 h | exact fun _ h => absurd c46 h | exact fun _ _ => List.eq_nil_of_length_eq_zero (by omega)) ((madeK_4 c82).2 (by omega))
             | (refine made_noK (fun e => ?_); have e := (madeK_4 c82).1 e; omega)
           ·refine AL.go (AO.assign rfl rfl (AL.nil (AK.seqN (AC.condF rfl (AC.seq (AC.region ?_))))))
            refine AL.go (AO.eql rfl rfl rfl (fun c91 => ?_) (fun c91 => ?_))
            ·refine AL.go (AO.assign rfl rfl (AL.nil (AK.seqN (AC.condT rfl (AC.seq (AC.region ?_))))))
             refine AL.go (AO.field rfl rfl ?_)
             refine AL.go (AO.loadB rfl rfl ?_)
             refine AL.go (AO.eql rfl rfl rfl (fun c94 => ?_) (fun c94 => ?_))
             ·refine AL.go (AO.move rfl rfl (AL.no rfl rfl rfl rfl (AL.no rfl rfl rfl rfl (AL.no rfl rfl rfl rfl (AL.no rfl rfl rfl rfl (AL.no rfl rfl rfl rfl ?_))))))
              refine AL.no rfl rfl rfl rfl (AL.no rfl rfl rfl rfl (AL.go (AO.pickT rfl rfl rfl (AL.go (AO.assign rfl rfl (AL.nil (AK.seqN ?_)))))))
              refine AC.ret (AK.blkR (AK.seqR ?_))
              first | refine AK.ret (L' := L) (F' := F) Tryz.results117 rfl subA (hT ?_) | refine AK.ret (L' := L) (F' := F) Tryz.results117 rfl subA (hF ?_)
              first
              | exact made_refs hkids (by omega) (by first | exact fun _ => c36 | exact fun h => absurd c32 h) (by first | exact fun h _ => absurd c42 h | exact fun _ h => absurd c46 h | exact fun _ _ => List.eq_nil_of_length_eq_zero (by omega)) ((madeK_5 c91).2 (by omega))
              | (refine made_noK (fun e => ?_); have e := (madeK_5 c91).1 e; omega)
             ·refine AL.go (AO.move rfl rfl (AL.yes rfl rfl (AO.field rfl rfl ?_)))
              refine AL.yes rfl rfl (AO.loadB rfl rfl ?_)
              refine AL.yes rfl rfl (AO.eql rfl rfl rfl (fun c98 => ?_) (fun c98 => ?_))
              ·refine AL.yes rfl rfl (AO.move rfl rfl (AL.yes rfl rfl (AO.move rfl rfl ?_)))
               refine AL.yes rfl rfl (AO.gtr rfl rfl rfl (fun c101 => ?_) (fun c101 => ?_))
               ·refine AL.yes rfl rfl (AO.pickT rfl rfl rfl (AL.go (AO.pickF rfl rfl rfl (AL.go (AO.assign rfl rfl (AL.nil (AK.seqN (AC.ret ?_))))))))
                refine AK.blkR (AK.seqR ?_)
                first | refine AK.ret (L' := L) (F' := F) Tryz.results117 rfl subA (hT ?_) | refine AK.ret (L' := L) (F' := F) Tryz.results117 rfl subA (hF ?_)
                first
                | exact made_refs hkids (by omega) (by first | exact fun _ => c36 | exact fun h => absurd c32 h) (by first | exact fun h _ => absurd c42 h | exact fun _ h => absurd c46 h | exact fun _ _ => List.eq_nil_of_length_eq_zero (by omega)) ((madeK_5 c91).2 (by omega))
                | (refine made_noK (fun e => ?_); have e := (madeK_5 c91).1 e; omega)
               ·refine AL.yes rfl rfl (AO.pickT rfl rfl rfl (AL.go (AO.pickF rfl rfl rfl (AL.go (AO.assign rfl rfl (AL.nil (AK.seqN (AC.ret ?_))))))))
                refine AK.blkR (AK.seqR ?_)
                first | refine AK.ret (L' := L) (F' := F) Tryz.results117 rfl subA (hT ?_) | refine AK.ret (L' := L) (F' := F) Tryz.results117 rfl subA (hF ?_)
                first
                | exact made_refs hkids (by omega) (by first | exact fun _ => c36 | exact fun h => absurd c32 h) (by first | exact fun h _ => absurd c42 h | exact fun _ h => absurd c46 h | exact fun _ _ => List.eq_nil_of_length_eq_zero (by omega)) ((madeK_5 c91).2 (by omega))
                | (refine made_noK (fun e => ?_); have e := (madeK_5 c91).1 e; omega)
              ·refine AL.yes rfl rfl (AO.move rfl rfl (AL.no rfl rfl rfl rfl (AL.no rfl rfl rfl rfl (AL.yes rfl rfl (AO.pickF rfl rfl rfl (AL.go (AO.pickF rfl rfl rfl (AL.go (AO.assign rfl rfl ?_)))))))))
               refine AL.nil (AK.seqN (AC.ret (AK.blkR (AK.seqR ?_))))
               first | refine AK.ret (L' := L) (F' := F) Tryz.results117 rfl subA (hT ?_) | refine AK.ret (L' := L) (F' := F) Tryz.results117 rfl subA (hF ?_)
               first
               | exact made_refs hkids (by omega) (by first | exact fun _ => c36 | exact fun h => absurd c32 h) (by first | exact fun h _ => absurd c42 h | exact fun _ h => absurd c46 h | exact fun _ _ => List.eq_nil_of_length_eq_zero (by omega)) ((madeK_5 c91).2 (by omega))
               | (refine made_noK (fun e => ?_); have e := (madeK_5 c91).1 e; omega)
            ·refine AL.go (AO.assign rfl rfl (AL.nil (AK.seqN (AC.condF rfl (AC.seq (AC.region ?_))))))
             refine AL.go (AO.eql rfl rfl rfl (fun c105 => ?_) (fun c105 => ?_))
             ·refine AL.go (AO.assign rfl rfl (AL.nil (AK.seqN (AC.condT rfl (AC.seq (AC.region ?_))))))
              refine AL.go (AO.field rfl rfl ?_)
              refine AL.go (AO.loadB rfl rfl ?_)
              refine AL.go (AO.eql rfl rfl rfl (fun c108 => ?_) (fun c108 => ?_))
              ·refine AL.go (AO.move rfl rfl ?_)
               refine AL.yes rfl rfl (AO.loadBA rfl rfl ?_)
               refine AL.yes rfl rfl (AO.call rfl rfl (rfields_c t ht memA memA (fun c111 => ?_) (fun c111 => ?_)))
               ·refine AL.go (AO.pickT rfl rfl rfl (AL.go (AO.assign rfl rfl (AL.nil (AK.seqN (AC.ret (AK.blkR ?_)))))))
                refine AK.seqR ?_
                first | refine AK.ret (L' := L) (F' := F) Tryz.results117 rfl subA (hT ?_) | refine AK.ret (L' := L) (F' := F) Tryz.results117 rfl subA (hF ?_)
                first
                | exact made_refs hkids (by omega) (by first | exact fun _ => c36 | exact fun h => absurd c32 h) (by first | exact fun h _ => absurd c42 h | exact fun _ h => absurd c46 h | exact fun _ _ => List.eq_nil_of_length_eq_zero (by omega)) ((madeK_6 c105).2 ⟨c108, c111.1, c111.2⟩)
                | exact made_noK (fun e => c111 ⟨((madeK_6 c105).1 e).2.1, ((madeK_6 c105).1 e).2.2⟩)
                | exact made_noK (fun e => c108 ((madeK_6 c105).1 e).1)
               ·refine AL.go (AO.pickT rfl rfl rfl (AL.go (AO.assign rfl rfl (AL.nil (AK.seqN (AC.ret (AK.blkR ?_)))))))
                refine AK.seqR ?_
                first | refine AK.ret (L' := L) (F' := F) Tryz.results117 rfl subA (hT ?_) | refine AK.ret (L' := L) (F' := F) Tryz.results117 rfl subA (hF ?_)
                first
                | exact made_refs hkids (by omega) (by first | exact fun _ => c36 | exact fun h => absurd c32 h) (by first | exact fun h _ => absurd c42 h | exact fun _ h => absurd c46 h | exact fun _ _ => List.eq_nil_of_length_eq_zero (by omega)) ((madeK_6 c105).2 ⟨c108, c111.1, c111.2⟩)
                | exact made_noK (fun e => c111 ⟨((madeK_6 c105).1 e).2.1, ((madeK_6 c105).1 e).2.2⟩)
                | exact made_noK (fun e => c108 ((madeK_6 c105).1 e).1)
              ·refine AL.go (AO.move rfl rfl (AL.no rfl rfl rfl rfl (AL.no rfl rfl rfl rfl (AL.go (AO.pickF rfl rfl rfl (AL.go (AO.assign rfl rfl (AL.nil ?_))))))))
               refine AK.seqN (AC.ret (AK.blkR (AK.seqR ?_)))
               first | refine AK.ret (L' := L) (F' := F) Tryz.results117 rfl subA (hT ?_) | refine AK.ret (L' := L) (F' := F) Tryz.results117 rfl subA (hF ?_)
               first
               | exact made_refs hkids (by omega) (by first | exact fun _ => c36 | exact fun h => absurd c32 h) (by first | exact fun h _ => absurd c42 h | exact fun _ h => absurd c46 h | exact fun _ _ => List.eq_nil_of_length_eq_zero (by omega)) ((madeK_6 c105).2 ⟨c108, c111.1, c111.2⟩)
               | exact made_noK (fun e => c111 ⟨((madeK_6 c105).1 e).2.1, ((madeK_6 c105).1 e).2.2⟩)
               | exact made_noK (fun e => c108 ((madeK_6 c105).1 e).1)
             ·refine AL.go (AO.assign rfl rfl (AL.nil (AK.seqN (AC.condF rfl (AC.seq (AC.region ?_))))))
              refine AL.go (AO.eql rfl rfl rfl (fun c114 => ?_) (fun c114 => ?_))
              ·refine AL.go (AO.assign rfl rfl (AL.nil (AK.seqN (AC.condT rfl (AC.seq (AC.region ?_))))))
               refine AL.go (AO.move rfl rfl ?_)
               refine AL.go (AO.loadBA rfl rfl ?_)
               refine AL.go (AO.call rfl rfl (relems_c l t ht hkids memA memA memA (fun c117 => ?_) (fun c117 => ?_)))
               ·refine AL.go (AO.assign rfl rfl (AL.nil (AK.seqN (AC.ret (AK.blkR (AK.seqR ?_))))))
                first | refine AK.ret (L' := L) (F' := F) Tryz.results117 rfl subA (hT ?_) | refine AK.ret (L' := L) (F' := F) Tryz.results117 rfl subA (hF ?_)
                first
                | exact made_refs hkids (by omega) (by first | exact fun _ => c36 | exact fun h => absurd c32 h) (by first | exact fun h _ => absurd c42 h | exact fun _ h => absurd c46 h | exact fun _ _ => List.eq_nil_of_length_eq_zero (by omega)) ((madeK_7 c114).2 c117)
                | exact made_noK (fun e => c117 ((madeK_7 c114).1 e))
               ·refine AL.go (AO.assign rfl rfl (AL.nil (AK.seqN (AC.ret (AK.blkR (AK.seqR ?_))))))
                first | refine AK.ret (L' := L) (F' := F) Tryz.results117 rfl subA (hT ?_) | refine AK.ret (L' := L) (F' := F) Tryz.results117 rfl subA (hF ?_)
                first
                | exact made_refs hkids (by omega) (by first | exact fun _ => c36 | exact fun h => absurd c32 h) (by first | exact fun h _ => absurd c42 h | exact fun _ h => absurd c46 h | exact fun _ _ => List.eq_nil_of_length_eq_zero (by omega)) ((madeK_7 c114).2 c117)
                | exact made_noK (fun e => c117 ((madeK_7 c114).1 e))
              ·refine AL.go (AO.assign rfl rfl (AL.nil (AK.seqN (AC.condF rfl (AC.seq (AC.region ?_))))))
               refine AL.go (AO.eql rfl rfl rfl (fun c119 => ?_) (fun c119 => ?_))
               ·refine AL.go (AO.assign rfl rfl (AL.nil (AK.seqN (AC.condT rfl (AC.seq (AC.region ?_))))))
                refine AL.go (AO.field rfl rfl ?_)
                refine AL.go (AO.loadB rfl rfl ?_)
                refine AL.go (AO.eql rfl rfl rfl (fun c122 => ?_) (fun c122 => ?_))
                ·refine AL.go (AO.move rfl rfl (AL.yes rfl rfl (AO.field rfl rfl ?_)))
                 refine AL.yes rfl rfl (AO.loadB rfl rfl ?_)
                 refine AL.yes rfl rfl (AO.call rfl rfl (rnamed_c t.name (by omega) (fun c126 => ?_) (fun c126 => ?_)))
                 ·refine AL.go (AO.pickT rfl rfl rfl (AL.go (AO.assign rfl rfl (AL.nil (AK.seqN (AC.ret (AK.blkR ?_)))))))
                  refine AK.seqR ?_
                  first | refine AK.ret (L' := L) (F' := F) Tryz.results117 rfl subA (hT ?_) | refine AK.ret (L' := L) (F' := F) Tryz.results117 rfl subA (hF ?_)
                  first
                  | exact made_refs hkids (by omega) (by first | exact fun _ => c36 | exact fun h => absurd c32 h) (by first | exact fun h _ => absurd c42 h | exact fun _ h => absurd c46 h | exact fun _ _ => List.eq_nil_of_length_eq_zero (by omega)) ((madeK_8 c119).2 ⟨c122, c126⟩)
                  | exact made_noK (fun e => c126 ((madeK_8 c119).1 e).2)
                  | exact made_noK (fun e => c122 ((madeK_8 c119).1 e).1)
                 ·refine AL.go (AO.pickT rfl rfl rfl (AL.go (AO.assign rfl rfl (AL.nil (AK.seqN (AC.ret (AK.blkR ?_)))))))
                  refine AK.seqR ?_
                  first | refine AK.ret (L' := L) (F' := F) Tryz.results117 rfl subA (hT ?_) | refine AK.ret (L' := L) (F' := F) Tryz.results117 rfl subA (hF ?_)
                  first
                  | exact made_refs hkids (by omega) (by first | exact fun _ => c36 | exact fun h => absurd c32 h) (by first | exact fun h _ => absurd c42 h | exact fun _ h => absurd c46 h | exact fun _ _ => List.eq_nil_of_length_eq_zero (by omega)) ((madeK_8 c119).2 ⟨c122, c126⟩)
                  | exact made_noK (fun e => c126 ((madeK_8 c119).1 e).2)
                  | exact made_noK (fun e => c122 ((madeK_8 c119).1 e).1)
                ·refine AL.go (AO.move rfl rfl (AL.no rfl rfl rfl rfl (AL.no rfl rfl rfl rfl (AL.no rfl rfl rfl rfl (AL.go (AO.pickF rfl rfl rfl (AL.go (AO.assign rfl rfl ?_))))))))
                 refine AL.nil (AK.seqN (AC.ret (AK.blkR (AK.seqR ?_))))
                 first | refine AK.ret (L' := L) (F' := F) Tryz.results117 rfl subA (hT ?_) | refine AK.ret (L' := L) (F' := F) Tryz.results117 rfl subA (hF ?_)
                 first
                 | exact made_refs hkids (by omega) (by first | exact fun _ => c36 | exact fun h => absurd c32 h) (by first | exact fun h _ => absurd c42 h | exact fun _ h => absurd c46 h | exact fun _ _ => List.eq_nil_of_length_eq_zero (by omega)) ((madeK_8 c119).2 ⟨c122, c126⟩)
                 | exact made_noK (fun e => c126 ((madeK_8 c119).1 e).2)
                 | exact made_noK (fun e => c122 ((madeK_8 c119).1 e).1)
               ·refine AL.go (AO.assign rfl rfl (AL.nil (AK.seqN (AC.condF rfl (AC.seq (AC.region ?_))))))
                refine AL.go (AO.eql rfl rfl rfl (fun c129 => ?_) (fun c129 => ?_))
                ·refine AL.go (AO.assign rfl rfl (AL.nil (AK.seqN (AC.condT rfl (AC.seq (AC.region ?_))))))
                 refine AL.go (AO.field rfl rfl ?_)
                 refine AL.go (AO.loadB rfl rfl ?_)
                 refine AL.go (AO.geq rfl rfl rfl (fun c132 => ?_) (fun c132 => ?_))
                 ·refine AL.go (AO.move rfl rfl (AL.yes rfl rfl (AO.field rfl rfl ?_)))
                  refine AL.yes rfl rfl (AO.loadB rfl rfl ?_)
                  refine AL.yes rfl rfl (AO.lss rfl rfl rfl (fun c136 => ?_) (fun c136 => ?_))
                  ·refine AL.go (AO.pickT rfl rfl rfl (AL.go (AO.move rfl rfl (AL.yes rfl rfl (AO.move rfl rfl ?_)))))
                   refine AL.yes rfl rfl (AO.eql rfl rfl rfl (fun c140 => ?_) (fun c140 => ?_))
                   ·refine AL.go (AO.pickT rfl rfl rfl (AL.go (AO.assign rfl rfl (AL.nil (AK.seqN (AC.ret (AK.blkR ?_)))))))
                    refine AK.seqR ?_
                    first | refine AK.ret (L' := L) (F' := F) Tryz.results117 rfl subA (hT ?_) | refine AK.ret (L' := L) (F' := F) Tryz.results117 rfl subA (hF ?_)
                    first
                    | exact made_refs hkids (by omega) (by first | exact fun _ => c36 | exact fun h => absurd c32 h) (by first | exact fun h _ => absurd c42 h | exact fun _ h => absurd c46 h | exact fun _ _ => List.eq_nil_of_length_eq_zero (by omega)) ((madeK_9 c129).2 (by omega))
                    | (refine made_noK (fun e => ?_); have e := (madeK_9 c129).1 e; omega)
                   ·refine AL.go (AO.pickT rfl rfl rfl (AL.go (AO.assign rfl rfl (AL.nil (AK.seqN (AC.ret (AK.blkR ?_)))))))
                    refine AK.seqR ?_
                    first | refine AK.ret (L' := L) (F' := F) Tryz.results117 rfl subA (hT ?_) | refine AK.ret (L' := L) (F' := F) Tryz.results117 rfl subA (hF ?_)
                    first
                    | exact made_refs hkids (by omega) (by first | exact fun _ => c36 | exact fun h => absurd c32 h) (by first | exact fun h _ => absurd c42 h | exact fun _ h => absurd c46 h | exact fun _ _ => List.eq_nil_of_length_eq_zero (by omega)) ((madeK_9 c129).2 (by omega))
                    | (refine made_noK (fun e => ?_); have e := (madeK_9 c129).1 e; omega)
                  ·refine AL.go (AO.pickT rfl rfl rfl (AL.go (AO.move rfl rfl (AL.no rfl rfl rfl rfl (AL.no rfl rfl rfl rfl (AL.go (AO.pickF rfl rfl rfl (AL.go (AO.assign rfl rfl ?_)))))))))
                   refine AL.nil (AK.seqN (AC.ret (AK.blkR (AK.seqR ?_))))
                   first | refine AK.ret (L' := L) (F' := F) Tryz.results117 rfl subA (hT ?_) | refine AK.ret (L' := L) (F' := F) Tryz.results117 rfl subA (hF ?_)
                   first
                   | exact made_refs hkids (by omega) (by first | exact fun _ => c36 | exact fun h => absurd c32 h) (by first | exact fun h _ => absurd c42 h | exact fun _ h => absurd c46 h | exact fun _ _ => List.eq_nil_of_length_eq_zero (by omega)) ((madeK_9 c129).2 (by omega))
                   | (refine made_noK (fun e => ?_); have e := (madeK_9 c129).1 e; omega)
                 ·refine AL.go (AO.move rfl rfl (AL.no rfl rfl rfl rfl (AL.no rfl rfl rfl rfl (AL.no rfl rfl rfl rfl (AL.go (AO.pickF rfl rfl rfl (AL.go (AO.move rfl rfl ?_))))))))
                  refine AL.no rfl rfl rfl rfl (AL.no rfl rfl rfl rfl (AL.go (AO.pickF rfl rfl rfl (AL.go (AO.assign rfl rfl (AL.nil (AK.seqN ?_)))))))
                  refine AC.ret (AK.blkR (AK.seqR ?_))
                  first | refine AK.ret (L' := L) (F' := F) Tryz.results117 rfl subA (hT ?_) | refine AK.ret (L' := L) (F' := F) Tryz.results117 rfl subA (hF ?_)
                  first
                  | exact made_refs hkids (by omega) (by first | exact fun _ => c36 | exact fun h => absurd c32 h) (by first | exact fun h _ => absurd c42 h | exact fun _ h => absurd c46 h | exact fun _ _ => List.eq_nil_of_length_eq_zero (by omega)) ((madeK_9 c129).2 (by omega))
                  | (refine made_noK (fun e => ?_); have e := (madeK_9 c129).1 e; omega)
                ·refine AL.go (AO.assign rfl rfl (AL.nil (AK.seqN (AC.condF rfl (AC.skip (AK.blkN ?_))))))
                 refine AK.seqN (AC.seq (AC.region (AL.go (AO.assign rfl rfl (AL.nil (AK.seqN ?_))))))
                 refine AC.ret ?_
                 first | refine AK.ret (L' := L) (F' := F) Tryz.results117 rfl subA (hT ?_) | refine AK.ret (L' := L) (F' := F) Tryz.results117 rfl subA (hF ?_)
                 first
                 | exact made_long (by omega)
                 | exact made_kid hql (by omega)
                 | exact made_noname c32 c36
                 | exact made_nowords c42 c46 (by omega)
                 | exact made_noK (madeK_no c58 c59 c68 c82 c91 c105 c114 c119 c129)
      ·refine AL.yes rfl rfl (AO.move rfl rfl (AL.no rfl rfl rfl rfl (AL.no rfl rfl rfl rfl (AL.no rfl rfl rfl rfl (AL.yes rfl rfl (AO.pickF rfl rfl rfl (AL.yes rfl rfl (AO.move rfl rfl ?_))))))))
       refine AL.no rfl rfl rfl rfl (AL.no rfl rfl rfl rfl (AL.no rfl rfl rfl rfl (AL.no rfl rfl rfl rfl (AL.yes rfl rfl (AO.pickF rfl rfl rfl (AL.go (AO.pickF rfl rfl rfl ?_)))))))
       refine AL.nil (AK.seqN (AC.condF rfl (AC.skip (AK.seqN (AC.seq ?_)))))
       refine AC.seq (AC.region (AL.go (AO.field rfl rfl ?_)))
       refine AL.go (AO.loadB rfl rfl ?_)
       refine AL.nil (AK.seqN (AC.block (AC.seq (AC.seq (AC.region ?_)))))
       refine AL.go (AO.eql rfl rfl rfl (fun c58 => ?_) (fun c58 => ?_))
       ·refine AL.go (AO.assign rfl rfl (AL.nil (AK.seqN (AC.condT rfl (AC.skip (AK.seqN ?_))))))
        refine AC.condT rfl (AC.seq (AC.region (AL.go (AO.field rfl rfl ?_))))
        refine AL.go (AO.loadB rfl rfl ?_)
        refine AL.go (AO.eql rfl rfl rfl (fun c62 => ?_) (fun c62 => ?_))
        ·refine AL.go (AO.move rfl rfl (AL.yes rfl rfl (AO.move rfl rfl ?_)))
         refine AL.yes rfl rfl (AO.eql rfl rfl rfl (fun c65 => ?_) (fun c65 => ?_))
         ·refine AL.go (AO.pickT rfl rfl rfl (AL.go (AO.assign rfl rfl (AL.nil (AK.seqN (AC.ret (AK.blkR ?_)))))))
          refine AK.seqR ?_
          first | refine AK.ret (L' := L) (F' := F) Tryz.results117 rfl subA (hT ?_) | refine AK.ret (L' := L) (F' := F) Tryz.results117 rfl subA (hF ?_)
          first
          | exact made_refs hkids (by omega) (by first | exact fun _ => c36 | exact fun h => absurd c32 h) (by first | exact fun h _ => absurd c42 h | exact fun _ h => absurd c46 h | exact fun _ _ => List.eq_nil_of_length_eq_zero (by omega)) ((madeK_1 c58).2 (by omega))
          | (refine made_noK (fun e => ?_); have e := (madeK_1 c58).1 e; omega)
         ·refine AL.go (AO.pickT rfl rfl rfl (AL.go (AO.assign rfl rfl (AL.nil (AK.seqN (AC.ret (AK.blkR ?_)))))))
          refine AK.seqR ?_
          first | refine AK.ret (L' := L) (F' := F) Tryz.results117 rfl subA (hT ?_) | refine AK.ret (L' := L) (F' := F) Tryz.results117 rfl subA (hF ?_)
          first
          | exact made_refs hkids (by omega) (by first | exact fun _ => c36 | exact fun h => absurd c32 h) (by first | exact fun h _ => absurd c42 h | exact fun _ h => absurd c46 h | exact fun _ _ => List.eq_nil_of_length_eq_zero (by omega)) ((madeK_1 c58).2 (by omega))
          | (refine made_noK (fun e => ?_); have e := (madeK_1 c58).1 e; omega)
        ·refine AL.go (AO.move rfl rfl (AL.no rfl rfl rfl rfl (AL.no rfl rfl rfl rfl (AL.go (AO.pickF rfl rfl rfl (AL.go (AO.assign rfl rfl (AL.nil ?_))))))))
         refine AK.seqN (AC.ret (AK.blkR (AK.seqR ?_)))
         first | refine AK.ret (L' := L) (F' := F) Tryz.results117 rfl subA (hT ?_) | refine AK.ret (L' := L) (F' := F) Tryz.results117 rfl subA (hF ?_)
         first
         | exact made_refs hkids (by omega) (by first | exact fun _ => c36 | exact fun h => absurd c32 h) (by first | exact fun h _ => absurd c42 h | exact fun _ h => absurd c46 h | exact fun _ _ => List.eq_nil_of_length_eq_zero (by omega)) ((madeK_1 c58).2 (by omega))
         | (refine made_noK (fun e => ?_); have e := (madeK_1 c58).1 e; omega)
       ·refine AL.go (AO.assign rfl rfl (AL.nil (AK.seqN (AC.condF rfl (AC.region ?_)))))
        refine AL.go (AO.eql rfl rfl rfl (fun c59 => ?_) (fun c59 => ?_))
        ·refine AL.go (AO.assign rfl rfl (AL.nil (AK.seqN (AC.condT rfl (AC.seq (AC.region ?_))))))
         refine AL.go (AO.field rfl rfl ?_)
         refine AL.go (AO.loadB rfl rfl ?_)
         refine AL.go (AO.eql rfl rfl rfl (fun c62 => ?_) (fun c62 => ?_))
         ·refine AL.go (AO.move rfl rfl (AL.yes rfl rfl (AO.move rfl rfl ?_)))
          refine AL.yes rfl rfl (AO.eql rfl rfl rfl (fun c65 => ?_) (fun c65 => ?_))
          ·refine AL.go (AO.pickT rfl rfl rfl (AL.go (AO.assign rfl rfl (AL.nil (AK.seqN (AC.ret (AK.blkR ?_)))))))
           refine AK.seqR ?_
           first | refine AK.ret (L' := L) (F' := F) Tryz.results117 rfl subA (hT ?_) | refine AK.ret (L' := L) (F' := F) Tryz.results117 rfl subA (hF ?_)
           first
           | exact made_refs hkids (by omega) (by first | exact fun _ => c36 | exact fun h => absurd c32 h) (by first | exact fun h _ => absurd c42 h | exact fun _ h => absurd c46 h | exact fun _ _ => List.eq_nil_of_length_eq_zero (by omega)) ((madeK_2 c59).2 (by omega))
           | (refine made_noK (fun e => ?_); have e := (madeK_2 c59).1 e; omega)
          ·refine AL.go (AO.pickT rfl rfl rfl (AL.go (AO.assign rfl rfl (AL.nil (AK.seqN (AC.ret (AK.blkR ?_)))))))
           refine AK.seqR ?_
           first | refine AK.ret (L' := L) (F' := F) Tryz.results117 rfl subA (hT ?_) | refine AK.ret (L' := L) (F' := F) Tryz.results117 rfl subA (hF ?_)
           first
           | exact made_refs hkids (by omega) (by first | exact fun _ => c36 | exact fun h => absurd c32 h) (by first | exact fun h _ => absurd c42 h | exact fun _ h => absurd c46 h | exact fun _ _ => List.eq_nil_of_length_eq_zero (by omega)) ((madeK_2 c59).2 (by omega))
           | (refine made_noK (fun e => ?_); have e := (madeK_2 c59).1 e; omega)
         ·refine AL.go (AO.move rfl rfl (AL.no rfl rfl rfl rfl (AL.no rfl rfl rfl rfl (AL.go (AO.pickF rfl rfl rfl (AL.go (AO.assign rfl rfl (AL.nil ?_))))))))
          refine AK.seqN (AC.ret (AK.blkR (AK.seqR ?_)))
          first | refine AK.ret (L' := L) (F' := F) Tryz.results117 rfl subA (hT ?_) | refine AK.ret (L' := L) (F' := F) Tryz.results117 rfl subA (hF ?_)
          first
          | exact made_refs hkids (by omega) (by first | exact fun _ => c36 | exact fun h => absurd c32 h) (by first | exact fun h _ => absurd c42 h | exact fun _ h => absurd c46 h | exact fun _ _ => List.eq_nil_of_length_eq_zero (by omega)) ((madeK_2 c59).2 (by omega))
          | (refine made_noK (fun e => ?_); have e := (madeK_2 c59).1 e; omega)
        ·refine AL.go (AO.assign rfl rfl (AL.nil (AK.seqN (AC.condF rfl (AC.seq (AC.region ?_))))))
         refine AL.go (AO.eql rfl rfl rfl (fun c68 => ?_) (fun c68 => ?_))
         ·refine AL.go (AO.assign rfl rfl (AL.nil (AK.seqN (AC.condT rfl (AC.seq (AC.region ?_))))))
          refine AL.go (AO.field rfl rfl ?_)
          refine AL.go (AO.loadB rfl rfl ?_)
          refine AL.go (AO.geq rfl rfl rfl (fun c71 => ?_) (fun c71 => ?_))
          ·refine AL.go (AO.move rfl rfl (AL.yes rfl rfl (AO.field rfl rfl ?_)))
           refine AL.yes rfl rfl (AO.loadB rfl rfl ?_)
           refine AL.yes rfl rfl (AO.leq rfl rfl rfl (fun c75 => ?_) (fun c75 => ?_))
           ·refine AL.go (AO.pickT rfl rfl rfl (AL.go (AO.move rfl rfl (AL.yes rfl rfl (AO.move rfl rfl ?_)))))
            refine AL.yes rfl rfl (AO.eql rfl rfl rfl (fun c79 => ?_) (fun c79 => ?_))
            ·refine AL.go (AO.pickT rfl rfl rfl (AL.go (AO.assign rfl rfl (AL.nil (AK.seqN (AC.ret (AK.blkR ?_)))))))
             refine AK.seqR ?_
             first | refine AK.ret (L' := L) (F' := F) Tryz.results117 rfl subA (hT ?_) | refine AK.ret (L' := L) (F' := F) Tryz.results117 rfl subA (hF ?_)
             first
             | exact made_refs hkids (by omega) (by first | exact fun _ => c36 | exact fun h => absurd c32 h) (by first | exact fun h _ => absurd c42 h | exact fun _ h => absurd c46 h | exact fun _ _ => List.eq_nil_of_length_eq_zero (by omega)) ((madeK_3 c68).2 (by omega))
             | (refine made_noK (fun e => ?_); have e := (madeK_3 c68).1 e; omega)
            ·refine AL.go (AO.pickT rfl rfl rfl (AL.go (AO.assign rfl rfl (AL.nil (AK.seqN (AC.ret (AK.blkR ?_)))))))
             refine AK.seqR ?_
             first | refine AK.ret (L' := L) (F' := F) Tryz.results117 rfl subA (hT ?_) | refine AK.ret (L' := L) (F' := F) Tryz.results117 rfl subA (hF ?_)
             first
             | exact made_refs hkids (by omega) (by first | exact fun _ => c36 | exact fun h => absurd c32 h) (by first | exact fun h _ => absurd c42 h | exact fun _ h => absurd c46 h | exact fun _ _ => List.eq_nil_of_length_eq_zero (by omega)) ((madeK_3 c68).2 (by omega))
             | (refine made_noK (fun e => ?_); have e := (madeK_3 c68).1 e; omega)
           ·refine AL.go (AO.pickT rfl rfl rfl (AL.go (AO.move rfl rfl (AL.no rfl rfl rfl rfl (AL.no rfl rfl rfl rfl (AL.go (AO.pickF rfl rfl rfl (AL.go (AO.assign rfl rfl ?_)))))))))
            refine AL.nil (AK.seqN (AC.ret (AK.blkR (AK.seqR ?_))))
            first | refine AK.ret (L' := L) (F' := F) Tryz.results117 rfl subA (hT ?_) | refine AK.ret (L' := L) (F' := F) Tryz.results117 rfl subA (hF ?_)
            first
            | exact made_refs hkids (by omega) (by first | exact fun _ => c36 | exact fun h => absurd c32 h) (by first | exact fun h _ => absurd c42 h | exact fun _ h => absurd c46 h | exact fun _ _ => List.eq_nil_of_length_eq_zero (by omega)) ((madeK_3 c68).2 (by omega))
            | (refine made_noK (fun e => ?_); have e := (madeK_3 c68).1 e; omega)
          ·refine AL.go (AO.move rfl rfl (AL.no rfl rfl rfl rfl (AL.no rfl rfl rfl rfl (AL.no rfl rfl rfl rfl (AL.go (AO.pickF rfl rfl rfl (AL.go (AO.move rfl rfl ?_))))))))
           refine AL.no rfl rfl rfl rfl (AL.no rfl rfl rfl rfl (AL.go (AO.pickF rfl rfl rfl (AL.go (AO.assign rfl rfl (AL.nil (AK.seqN ?_)))))))
           refine AC.ret (AK.blkR (AK.seqR ?_))
           first | refine AK.ret (L' := L) (F' := F) Tryz.results117 rfl subA (hT ?_) | refine AK.ret (L' := L) (F' := F) Tryz.results117 rfl subA (hF ?_)
           first
           | exact made_refs hkids (by omega) (by first | exact fun _ => c36 | exact fun h => absurd c32 h) (by first | exact fun h _ => absurd c42 h | exact fun _ h => absurd c46 h | exact fun _ _ => List.eq_nil_of_length_eq_zero (by omega)) ((madeK_3 c68).2 (by omega))
           | (refine made_noK (fun e => ?_); have e := (madeK_3 c68).1 e; omega)
         ·refine AL.go (AO.assign rfl rfl (AL.nil (AK.seqN (AC.condF rfl (AC.seq (AC.region ?_))))))
          refine AL.go (AO.eql rfl rfl rfl (fun c82 => ?_) (fun c82 => ?_))
          ·refine AL.go (AO.assign rfl rfl (AL.nil (AK.seqN (AC.condT rfl (AC.seq (AC.region ?_))))))
           refine AL.go (AO.field rfl rfl ?_)
           refine AL.go (AO.loadB rfl rfl ?_)
           refine AL.go (AO.eql rfl rfl rfl (fun c85 => ?_) (fun c85 => ?_))
           ·refine AL.go (AO.move rfl rfl (AL.yes rfl rfl (AO.move rfl rfl ?_)))
            refine AL.yes rfl rfl (AO.eql rfl rfl rfl (fun c88 => ?_) (fun c88 => ?_))
            ·refine AL.go (AO.pickT rfl rfl rfl (AL.go (AO.assign rfl rfl (AL.nil (AK.seqN (AC.ret (AK.blkR ?_)))))))
             refine AK.seqR ?_
             first | refine AK.ret (L' := L) (F' := F) Tryz.results117 rfl subA (hT ?_) | refine AK.ret (L' := L) (F' := F) Tryz.results117 rfl subA (hF ?_)
             first
             | exact made_refs hkids (by omega) (by first | exact fun _ => c36 | exact fun h => absurd c32 h) (by first | exact fun h _ => absurd c42 h | exact fun _ h => absurd c46 h | exact fun _ _ => List.eq_nil_of_length_eq_zero (by omega)) ((madeK_4 c82).2 (by omega))
             | (refine made_noK (fun e => ?_); have e := (madeK_4 c82).1 e; omega)
            ·refine AL.go (AO.pickT rfl rfl rfl (AL.go (AO.assign rfl rfl (AL.nil (AK.seqN (AC.ret (AK.blkR ?_)))))))
             refine AK.seqR ?_
             first | refine AK.ret (L' := L) (F' := F) Tryz.results117 rfl subA (hT ?_) | refine AK.ret (L' := L) (F' := F) Tryz.results117 rfl subA (hF ?_)
             first
             | exact made_refs hkids (by omega) (by first | exact fun _ => c36 | exact fun h => absurd c32 h) (by first | exact fun h _ => absurd c42 h | exact fun _ h => absurd c46 h | exact fun _ _ => List.eq_nil_of_length_eq_zero (by omega)) ((madeK_4 c82).2 (by omega))
             | (refine made_noK (fun e => ?_); have e := (madeK_4 c82).1 e; omega)
           ·refine AL.go (AO.move rfl rfl (AL.no rfl rfl rfl rfl (AL.no rfl rfl rfl rfl (AL.go (AO.pickF rfl rfl rfl (AL.go (AO.assign rfl rfl (AL.nil ?_))))))))
            refine AK.seqN (AC.ret (AK.blkR (AK.seqR ?_)))
            first | refine AK.ret (L' := L) (F' := F) Tryz.results117 rfl subA (hT ?_) | refine AK.ret (L' := L) (F' := F) Tryz.results117 rfl subA (hF ?_)
            first
            | exact made_refs hkids (by omega) (by first | exact fun _ => c36 | exact fun h => absurd c32 h) (by first | exact fun h _ => absurd c42 h | exact fun _ h => absurd c46 h | exact fun _ _ => List.eq_nil_of_length_eq_zero (by omega)) ((madeK_4 c82).2 (by omega))
            | (refine made_noK (fun e => ?_); have e := (madeK_4 c82).1 e; omega)
          ·refine AL.go (AO.assign rfl rfl (AL.nil (AK.seqN (AC.condF rfl (AC.seq (AC.region ?_))))))
           refine AL.go (AO.eql rfl rfl rfl (fun c91 => ?_) (fun c91 => ?_))
           ·refine AL.go (AO.assign rfl rfl (AL.nil (AK.seqN (AC.condT rfl (AC.seq (AC.region ?_))))))
            refine AL.go (AO.field rfl rfl ?_)
            refine AL.go (AO.loadB rfl rfl ?_)
            refine AL.go (AO.eql rfl rfl rfl (fun c94 => ?_) (fun c94 => ?_))
            ·refine AL.go (AO.move rfl rfl (AL.no rfl rfl rfl rfl (AL.no rfl rfl rfl rfl (AL.no rfl rfl rfl rfl (AL.no rfl rfl rfl rfl (AL.no rfl rfl rfl rfl ?_))))))
             refine AL.no rfl rfl rfl rfl (AL.no rfl rfl rfl rfl (AL.go (AO.pickT rfl rfl rfl (AL.go (AO.assign rfl rfl (AL.nil (AK.seqN ?_)))))))
             refine AC.ret (AK.blkR (AK.seqR ?_))
             first | refine AK.ret (L' := L) (F' := F) Tryz.results117 rfl subA (hT ?_) | refine AK.ret (L' := L) (F' := F) Tryz.results117 rfl subA (hF ?_)
             first
             | exact made_refs hkids (by omega) (by first | exact fun _ => c36 | exact fun h => absurd c32 h) (by first | exact fun h _ => absurd c42 h | exact fun _ h => absurd c46 h | exact fun _ _ => List.eq_nil_of_length_eq_zero (by omega)) ((madeK_5 c91).2 (by omega))
             | (refine made_noK (fun e => ?_); have e := (madeK_5 c91).1 e; omega)
            ·refine AL.go (AO.move rfl rfl (AL.yes rfl rfl (AO.field rfl rfl ?_)))
             refine AL.yes rfl rfl (AO.loadB rfl rfl ?_)
             refine AL.yes rfl rfl (AO.eql rfl rfl rfl (fun c98 => ?_) (fun c98 => ?_))
             ·refine AL.yes rfl rfl (AO.move rfl rfl (AL.yes rfl rfl (AO.move rfl rfl ?_)))
              refine AL.yes rfl rfl (AO.gtr rfl rfl rfl (fun c101 => ?_) (fun c101 => ?_))
              ·refine AL.yes rfl rfl (AO.pickT rfl rfl rfl (AL.go (AO.pickF rfl rfl rfl (AL.go (AO.assign rfl rfl (AL.nil (AK.seqN (AC.ret ?_))))))))
               refine AK.blkR (AK.seqR ?_)
               first | refine AK.ret (L' := L) (F' := F) Tryz.results117 rfl subA (hT ?_) | refine AK.ret (L' := L) (F' := F) Tryz.results117 rfl subA (hF ?_)
               first
               | exact made_refs hkids (by omega) (by first | exact fun _ => c36 | exact fun h => absurd c32 h) (by first | exact fun h _ => absurd c42 h | exact fun _ h => absurd c46 h | exact fun _ _ => List.eq_nil_of_length_eq_zero (by omega)) ((madeK_5 c91).2 (by omega))
               | (refine made_noK (fun e => ?_); have e := (madeK_5 c91).1 e; omega)
              ·refine AL.yes rfl rfl (AO.pickT rfl rfl rfl (AL.go (AO.pickF rfl rfl rfl (AL.go (AO.assign rfl rfl (AL.nil (AK.seqN (AC.ret ?_))))))))
               refine AK.blkR (AK.seqR ?_)
               first | refine AK.ret (L' := L) (F' := F) Tryz.results117 rfl subA (hT ?_) | refine AK.ret (L' := L) (F' := F) Tryz.results117 rfl subA (hF ?_)
               first
               | exact made_refs hkids (by omega) (by first | exact fun _ => c36 | exact fun h => absurd c32 h) (by first | exact fun h _ => absurd c42 h | exact fun _ h => absurd c46 h | exact fun _ _ => List.eq_nil_of_length_eq_zero (by omega)) ((madeK_5 c91).2 (by omega))
               | (refine made_noK (fun e => ?_); have e := (madeK_5 c91).1 e; omega)
             ·refine AL.yes rfl rfl (AO.move rfl rfl (AL.no rfl rfl rfl rfl (AL.no rfl rfl rfl rfl (AL.yes rfl rfl (AO.pickF rfl rfl rfl (AL.go (AO.pickF rfl rfl rfl (AL.go (AO.assign rfl rfl ?_)))))))))
              refine AL.nil (AK.seqN (AC.ret (AK.blkR (AK.seqR ?_))))
              first | refine AK.ret (L' := L) (F' := F) Tryz.results117 rfl subA (hT ?_) | refine AK.ret (L' := L) (F' := F) Tryz.results117 rfl subA (hF ?_)
              first
              | exact made_refs hkids (by omega) (by first | exact fun _ => c36 | exact fun h => absurd c32 h) (by first | exact fun h _ => absurd c42 h | exact fun _ h => absurd c46 h | exact fun _ _ => List.eq_nil_of_length_eq_zero (by omega)) ((madeK_5 c91).2 (by omega))
              | (refine made_noK (fun e => ?_); have e := (madeK_5 c91).1 e; omega)
           ·refine AL.go (AO.assign rfl rfl (AL.nil (AK.seqN (AC.condF rfl (AC.seq (AC.region ?_))))))
            refine AL.go (AO.eql rfl rfl rfl (fun c105 => ?_) (fun c105 => ?_))
            ·refine AL.go (AO.assign rfl rfl (AL.nil (AK.seqN (AC.condT rfl (AC.seq (AC.region ?_))))))
             refine AL.go (AO.field rfl rfl ?_)
             refine AL.go (AO.loadB rfl rfl ?_)
             refine AL.go (AO.eql rfl rfl rfl (fun c108 => ?_) (fun c108 => ?_))
             ·refine AL.go (AO.move rfl rfl ?_)
              refine AL.yes rfl rfl (AO.loadBA rfl rfl ?_)
              refine AL.yes rfl rfl (AO.call rfl rfl (rfields_c t ht memA memA (fun c111 => ?_) (fun c111 => ?_)))
              ·refine AL.go (AO.pickT rfl rfl rfl (AL.go (AO.assign rfl rfl (AL.nil (AK.seqN (AC.ret (AK.blkR ?_)))))))
               refine AK.seqR ?_
               first | refine AK.ret (L' := L) (F' := F) Tryz.results117 rfl subA (hT ?_) | refine AK.ret (L' := L) (F' := F) Tryz.results117 rfl subA (hF ?_)
               first
               | exact made_refs hkids (by omega) (by first | exact fun _ => c36 | exact fun h => absurd c32 h) (by first | exact fun h _ => absurd c42 h | exact fun _ h => absurd c46 h | exact fun _ _ => List.eq_nil_of_length_eq_zero (by omega)) ((madeK_6 c105).2 ⟨c108, c111.1, c111.2⟩)
               | exact made_noK (fun e => c111 ⟨((madeK_6 c105).1 e).2.1, ((madeK_6 c105).1 e).2.2⟩)
               | exact made_noK (fun e => c108 ((madeK_6 c105).1 e).1)
              ·refine AL.go (AO.pickT rfl rfl rfl (AL.go (AO.assign rfl rfl (AL.nil (AK.seqN (AC.ret (AK.blkR ?_)))))))
               refine AK.seqR ?_
               first | refine AK.ret (L' := L) (F' := F) Tryz.results117 rfl subA (hT ?_) | refine AK.ret (L' := L) (F' := F) Tryz.results117 rfl subA (hF ?_)
               first
               | exact made_refs hkids (by omega) (by first | exact fun _ => c36 | exact fun h => absurd c32 h) (by first | exact fun h _ => absurd c42 h | exact fun _ h => absurd c46 h | exact fun _ _ => List.eq_nil_of_length_eq_zero (by omega)) ((madeK_6 c105).2 ⟨c108, c111.1, c111.2⟩)
               | exact made_noK (fun e => c111 ⟨((madeK_6 c105).1 e).2.1, ((madeK_6 c105).1 e).2.2⟩)
               | exact made_noK (fun e => c108 ((madeK_6 c105).1 e).1)
             ·refine AL.go (AO.move rfl rfl (AL.no rfl rfl rfl rfl (AL.no rfl rfl rfl rfl (AL.go (AO.pickF rfl rfl rfl (AL.go (AO.assign rfl rfl (AL.nil ?_))))))))
              refine AK.seqN (AC.ret (AK.blkR (AK.seqR ?_)))
              first | refine AK.ret (L' := L) (F' := F) Tryz.results117 rfl subA (hT ?_) | refine AK.ret (L' := L) (F' := F) Tryz.results117 rfl subA (hF ?_)
              first
              | exact made_refs hkids (by omega) (by first | exact fun _ => c36 | exact fun h => absurd c32 h) (by first | exact fun h _ => absurd c42 h | exact fun _ h => absurd c46 h | exact fun _ _ => List.eq_nil_of_length_eq_zero (by omega)) ((madeK_6 c105).2 ⟨c108, c111.1, c111.2⟩)
              | exact made_noK (fun e => c111 ⟨((madeK_6 c105).1 e).2.1, ((madeK_6 c105).1 e).2.2⟩)
              | exact made_noK (fun e => c108 ((madeK_6 c105).1 e).1)
            ·refine AL.go (AO.assign rfl rfl (AL.nil (AK.seqN (AC.condF rfl (AC.seq (AC.region ?_))))))
             refine AL.go (AO.eql rfl rfl rfl (fun c114 => ?_) (fun c114 => ?_))
             ·refine AL.go (AO.assign rfl rfl (AL.nil (AK.seqN (AC.condT rfl (AC.seq (AC.region ?_))))))
              refine AL.go (AO.move rfl rfl ?_)
              refine AL.go (AO.loadBA rfl rfl ?_)
              refine AL.go (AO.call rfl rfl (relems_c l t ht hkids memA memA memA (fun c117 => ?_) (fun c117 => ?_)))
              ·refine AL.go (AO.assign rfl rfl (AL.nil (AK.seqN (AC.ret (AK.blkR (AK.seqR ?_))))))
               first | refine AK.ret (L' := L) (F' := F) Tryz.results117 rfl subA (hT ?_) | refine AK.ret (L' := L) (F' := F) Tryz.results117 rfl subA (hF ?_)
               first
               | exact made_refs hkids (by omega) (by first | exact fun _ => c36 | exact fun h => absurd c32 h) (by first | exact fun h _ => absurd c42 h | exact fun _ h => absurd c46 h | exact fun _ _ => List.eq_nil_of_length_eq_zero (by omega)) ((madeK_7 c114).2 c117)
               | exact made_noK (fun e => c117 ((madeK_7 c114).1 e))
              ·refine AL.go (AO.assign rfl rfl (AL.nil (AK.seqN (AC.ret (AK.blkR (AK.seqR ?_))))))
               first | refine AK.ret (L' := L) (F' := F) Tryz.results117 rfl subA (hT ?_) | refine AK.ret (L' := L) (F' := F) Tryz.results117 rfl subA (hF ?_)
               first
               | exact made_refs hkids (by omega) (by first | exact fun _ => c36 | exact fun h => absurd c32 h) (by first | exact fun h _ => absurd c42 h | exact fun _ h => absurd c46 h | exact fun _ _ => List.eq_nil_of_length_eq_zero (by omega)) ((madeK_7 c114).2 c117)
               | exact made_noK (fun e => c117 ((madeK_7 c114).1 e))
             ·refine AL.go (AO.assign rfl rfl (AL.nil (AK.seqN (AC.condF rfl (AC.seq (AC.region ?_))))))
              refine AL.go (AO.eql rfl rfl rfl (fun c119 => ?_) (fun c119 => ?_))
              ·refine AL.go (AO.assign rfl rfl (AL.nil (AK.seqN (AC.condT rfl (AC.seq (AC.region ?_))))))
               refine AL.go (AO.field rfl rfl ?_)
               refine AL.go (AO.loadB rfl rfl ?_)
               refine AL.go (AO.eql rfl rfl rfl (fun c122 => ?_) (fun c122 => ?_))
               ·refine AL.go (AO.move rfl rfl (AL.yes rfl rfl (AO.field rfl rfl ?_)))
                refine AL.yes rfl rfl (AO.loadB rfl rfl ?_)
                refine AL.yes rfl rfl (AO.call rfl rfl (rnamed_c t.name (by omega) (fun c126 => ?_) (fun c126 => ?_)))
                ·refine AL.go (AO.pickT rfl rfl rfl (AL.go (AO.assign rfl rfl (AL.nil (AK.seqN (AC.ret (AK.blkR ?_)))))))
                 refine AK.seqR ?_
                 first | refine AK.ret (L' := L) (F' := F) Tryz.results117 rfl subA (hT ?_) | refine AK.ret (L' := L) (F' := F) Tryz.results117 rfl subA (hF ?_)
                 first
                 | exact made_refs hkids (by omega) (by first | exact fun _ => c36 | exact fun h => absurd c32 h) (by first | exact fun h _ => absurd c42 h | exact fun _ h => absurd c46 h | exact fun _ _ => List.eq_nil_of_length_eq_zero (by omega)) ((madeK_8 c119).2 ⟨c122, c126⟩)
                 | exact made_noK (fun e => c126 ((madeK_8 c119).1 e).2)
                 | exact made_noK (fun e => c122 ((madeK_8 c119).1 e).1)
                ·refine AL.go (AO.pickT rfl rfl rfl (AL.go (AO.assign rfl rfl (AL.nil (AK.seqN (AC.ret (AK.blkR ?_)))))))
                 refine AK.seqR ?_
                 first | refine AK.ret (L' := L) (F' := F) Tryz.results117 rfl subA (hT ?_) | refine AK.ret (L' := L) (F' := F) Tryz.results117 rfl subA (hF ?_)
                 first
                 | exact made_refs hkids (by omega) (by first | exact fun _ => c36 | exact fun h => absurd c32 h) (by first | exact fun h _ => absurd c42 h | exact fun _ h => absurd c46 h | exact fun _ _ => List.eq_nil_of_length_eq_zero (by omega)) ((madeK_8 c119).2 ⟨c122, c126⟩)
                 | exact made_noK (fun e => c126 ((madeK_8 c119).1 e).2)
                 | exact made_noK (fun e => c122 ((madeK_8 c119).1 e).1)
               ·refine AL.go (AO.move rfl rfl (AL.no rfl rfl rfl rfl (AL.no rfl rfl rfl rfl (AL.no rfl rfl rfl rfl (AL.go (AO.pickF rfl rfl rfl (AL.go (AO.assign rfl rfl ?_))))))))
                refine AL.nil (AK.seqN (AC.ret (AK.blkR (AK.seqR ?_))))
                first | refine AK.ret (L' := L) (F' := F) Tryz.results117 rfl subA (hT ?_) | refine AK.ret (L' := L) (F' := F) Tryz.results117 rfl subA (hF ?_)
                first
                | exact made_refs hkids (by omega) (by first | exact fun _ => c36 | exact fun h => absurd c32 h) (by first | exact fun h _ => absurd c42 h | exact fun _ h => absurd c46 h | exact fun _ _ => List.eq_nil_of_length_eq_zero (by omega)) ((madeK_8 c119).2 ⟨c122, c126⟩)
                | exact made_noK (fun e => c126 ((madeK_8 c119).1 e).2)
                | exact made_noK (fun e => c122 ((madeK_8 c119).1 e).1)
              ·refine AL.go (AO.assign rfl rfl (AL.nil (AK.seqN (AC.condF rfl (AC.seq (AC.region ?_))))))
               refine AL.go (AO.eql rfl rfl rfl (fun c129 => ?_) (fun c129 => ?_))
               ·refine AL.go (AO.assign rfl rfl (AL.nil (AK.seqN (AC.condT rfl (AC.seq (AC.region ?_))))))
                refine AL.go (AO.field rfl rfl ?_)
                refine AL.go (AO.loadB rfl rfl ?_)
                refine AL.go (AO.geq rfl rfl rfl (fun c132 => ?_) (fun c132 => ?_))
                ·refine AL.go (AO.move rfl rfl (AL.yes rfl rfl (AO.field rfl rfl ?_)))
                 refine AL.yes rfl rfl (AO.loadB rfl rfl ?_)
                 refine AL.yes rfl rfl (AO.lss rfl rfl rfl (fun c136 => ?_) (fun c136 => ?_))
                 ·refine AL.go (AO.pickT rfl rfl rfl (AL.go (AO.move rfl rfl (AL.yes rfl rfl (AO.move rfl rfl ?_)))))
                  refine AL.yes rfl rfl (AO.eql rfl rfl rfl (fun c140 => ?_) (fun c140 => ?_))
                  ·refine AL.go (AO.pickT rfl rfl rfl (AL.go (AO.assign rfl rfl (AL.nil (AK.seqN (AC.ret (AK.blkR ?_)))))))
                   refine AK.seqR ?_
                   first | refine AK.ret (L' := L) (F' := F) Tryz.results117 rfl subA (hT ?_) | refine AK.ret (L' := L) (F' := F) Tryz.results117 rfl subA (hF ?_)
                   first
                   | exact made_refs hkids (by omega) (by first | exact fun _ => c36 | exact fun h => absurd c32 h) (by first | exact fun h _ => absurd c42 h | exact fun _ h => absurd c46 h | exact fun _ _ => List.eq_nil_of_length_eq_zero (by omega)) ((madeK_9 c129).2 (by omega))
                   | (refine made_noK (fun e => ?_); have e := (madeK_9 c129).1 e; omega)
                  ·refine AL.go (AO.pickT rfl rfl rfl (AL.go (AO.assign rfl rfl (AL.nil (AK.seqN (AC.ret (AK.blkR ?_)))))))
                   refine AK.seqR ?_
                   first | refine AK.ret (L' := L) (F' := F) Tryz.results117 rfl subA (hT ?_) | refine AK.ret (L' := L) (F' := F) Tryz.results117 rfl subA (hF ?_)
                   first
                   | exact made_refs hkids (by omega) (by first | exact fun _ => c36 | exact fun h => absurd c32 h) (by first | exact fun h _ => absurd c42 h | exact fun _ h => absurd c46 h | exact fun _ _ => List.eq_nil_of_length_eq_zero (by omega)) ((madeK_9 c129).2 (by omega))
                   | (refine made_noK (fun e => ?_); have e := (madeK_9 c129).1 e; omega)
                 ·refine AL.go (AO.pickT rfl rfl rfl (AL.go (AO.move rfl rfl (AL.no rfl rfl rfl rfl (AL.no rfl rfl rfl rfl (AL.go (AO.pickF rfl rfl rfl (AL.go (AO.assign rfl rfl ?_)))))))))
                  refine AL.nil (AK.seqN (AC.ret (AK.blkR (AK.seqR ?_))))
                  first | refine AK.ret (L' := L) (F' := F) Tryz.results117 rfl subA (hT ?_) | refine AK.ret (L' := L) (F' := F) Tryz.results117 rfl subA (hF ?_)
                  first
                  | exact made_refs hkids (by omega) (by first | exact fun _ => c36 | exact fun h => absurd c32 h) (by first | exact fun h _ => absurd c42 h | exact fun _ h => absurd c46 h | exact fun _ _ => List.eq_nil_of_length_eq_zero (by omega)) ((madeK_9 c129).2 (by omega))
                  | (refine made_noK (fun e => ?_); have e := (madeK_9 c129).1 e; omega)
                ·refine AL.go (AO.move rfl rfl (AL.no rfl rfl rfl rfl (AL.no rfl rfl rfl rfl (AL.no rfl rfl rfl rfl (AL.go (AO.pickF rfl rfl rfl (AL.go (AO.move rfl rfl ?_))))))))
                 refine AL.no rfl rfl rfl rfl (AL.no rfl rfl rfl rfl (AL.go (AO.pickF rfl rfl rfl (AL.go (AO.assign rfl rfl (AL.nil (AK.seqN ?_)))))))
                 refine AC.ret (AK.blkR (AK.seqR ?_))
                 first | refine AK.ret (L' := L) (F' := F) Tryz.results117 rfl subA (hT ?_) | refine AK.ret (L' := L) (F' := F) Tryz.results117 rfl subA (hF ?_)
                 first
                 | exact made_refs hkids (by omega) (by first | exact fun _ => c36 | exact fun h => absurd c32 h) (by first | exact fun h _ => absurd c42 h | exact fun _ h => absurd c46 h | exact fun _ _ => List.eq_nil_of_length_eq_zero (by omega)) ((madeK_9 c129).2 (by omega))
                 | (refine made_noK (fun e => ?_); have e := (madeK_9 c129).1 e; omega)
               ·refine AL.go (AO.assign rfl rfl (AL.nil (AK.seqN (AC.condF rfl (AC.skip (AK.blkN ?_))))))
                refine AK.seqN (AC.seq (AC.region (AL.go (AO.assign rfl rfl (AL.nil (AK.seqN ?_))))))
                refine AC.ret ?_
                first | refine AK.ret (L' := L) (F' := F) Tryz.results117 rfl subA (hT ?_) | refine AK.ret (L' := L) (F' := F) Tryz.results117 rfl subA (hF ?_)
                first
                | exact made_long (by omega)
                | exact made_kid hql (by omega)
                | exact made_noname c32 c36
                | exact made_nowords c42 c46 (by omega)
                | exact made_noK (madeK_no c58 c59 c68 c82 c91 c105 c114 c119 c129)
    ·refine AL.yes rfl rfl (AO.move rfl rfl (AL.no rfl rfl rfl rfl (AL.no rfl rfl rfl rfl (AL.no rfl rfl rfl rfl (AL.yes rfl rfl (AO.pickF rfl rfl rfl (AL.go (AO.pickF rfl rfl rfl ?_))))))))
     refine AL.go (AO.move rfl rfl (AL.yes rfl rfl (AO.field rfl rfl ?_)))
     refine AL.yes rfl rfl (AO.loadB rfl rfl ?_)
     refine AL.yes rfl rfl (AO.neq rfl rfl rfl (fun c42 => ?_) (fun c42 => ?_))
     ·refine AL.yes rfl rfl (AO.move rfl rfl (AL.yes rfl rfl (AO.field rfl rfl ?_)))
      refine AL.yes rfl rfl (AO.loadB rfl rfl ?_)
      refine AL.yes rfl rfl (AO.neq rfl rfl rfl (fun c46 => ?_) (fun c46 => ?_))
      ·refine AL.yes rfl rfl (AO.pickT rfl rfl rfl (AL.yes rfl rfl (AO.move rfl rfl (AL.yes rfl rfl (AO.field rfl rfl ?_)))))
       refine AL.yes rfl rfl (AO.loadB rfl rfl ?_)
       refine AL.yes rfl rfl (AO.len rfl rfl (fun hl51 => ?_) (hm := by repeat (first | exact mem0 | assumption | refine memS ?_)))
       refine AL.yes rfl rfl (AO.gtr rfl rfl rfl (fun c52 => ?_) (fun c52 => ?_))
       ·refine AL.yes rfl rfl (AO.pickT rfl rfl rfl (AL.go (AO.pickF rfl rfl rfl (AL.nil (AK.seqN (AC.condT rfl (AC.seq ?_)))))))
        refine AC.region (AL.go (AO.assign rfl rfl (AL.nil (AK.seqN (AC.ret (AK.seqR ?_))))))
        first | refine AK.ret (L' := L) (F' := F) Tryz.results117 rfl subA (hT ?_) | refine AK.ret (L' := L) (F' := F) Tryz.results117 rfl subA (hF ?_)
        first
        | exact made_long (by omega)
        | exact made_kid hql (by omega)
        | exact made_noname c32 c36
        | exact made_nowords c42 c46 (by omega)
        | exact made_noK (madeK_no c58 c59 c68 c82 c91 c105 c114 c119 c129)
       ·refine AL.yes rfl rfl (AO.pickT rfl rfl rfl (AL.go (AO.pickF rfl rfl rfl (AL.nil (AK.seqN (AC.condF rfl (AC.skip ?_)))))))
        refine AK.seqN (AC.seq (AC.seq (AC.region (AL.go (AO.field rfl rfl ?_)))))
        refine AL.go (AO.loadB rfl rfl ?_)
        refine AL.nil (AK.seqN (AC.block (AC.seq (AC.seq (AC.region ?_)))))
        refine AL.go (AO.eql rfl rfl rfl (fun c58 => ?_) (fun c58 => ?_))
        ·refine AL.go (AO.assign rfl rfl (AL.nil (AK.seqN (AC.condT rfl (AC.skip (AK.seqN ?_))))))
         refine AC.condT rfl (AC.seq (AC.region (AL.go (AO.field rfl rfl ?_))))
         refine AL.go (AO.loadB rfl rfl ?_)
         refine AL.go (AO.eql rfl rfl rfl (fun c62 => ?_) (fun c62 => ?_))
         ·refine AL.go (AO.move rfl rfl (AL.yes rfl rfl (AO.move rfl rfl ?_)))
          refine AL.yes rfl rfl (AO.eql rfl rfl rfl (fun c65 => ?_) (fun c65 => ?_))
          ·refine AL.go (AO.pickT rfl rfl rfl (AL.go (AO.assign rfl rfl (AL.nil (AK.seqN (AC.ret (AK.blkR ?_)))))))
           refine AK.seqR ?_
           first | refine AK.ret (L' := L) (F' := F) Tryz.results117 rfl subA (hT ?_) | refine AK.ret (L' := L) (F' := F) Tryz.results117 rfl subA (hF ?_)
           first
           | exact made_refs hkids (by omega) (by first | exact fun _ => c36 | exact fun h => absurd c32 h) (by first | exact fun h _ => absurd c42 h | exact fun _ h => absurd c46 h | exact fun _ _ => List.eq_nil_of_length_eq_zero (by omega)) ((madeK_1 c58).2 (by omega))
           | (refine made_noK (fun e => ?_); have e := (madeK_1 c58).1 e; omega)
          ·refine AL.go (AO.pickT rfl rfl rfl (AL.go (AO.assign rfl rfl (AL.nil (AK.seqN (AC.ret (AK.blkR ?_)))))))
           refine AK.seqR ?_
           first | refine AK.ret (L' := L) (F' := F) Tryz.results117 rfl subA (hT ?_) | refine AK.ret (L' := L) (F' := F) Tryz.results117 rfl subA (hF ?_)
           first
           | exact made_refs hkids (by omega) (by first | exact fun _ => c36 | exact fun h => absurd c32 h) (by first | exact fun h _ => absurd c42 h | exact fun _ h => absurd c46 h | exact fun _ _ => List.eq_nil_of_length_eq_zero (by omega)) ((madeK_1 c58).2 (by omega))
           | (refine made_noK (fun e => ?_); have e := (madeK_1 c58).1 e; omega)
         ·refine AL.go (AO.move rfl rfl (AL.no rfl rfl rfl rfl (AL.no rfl rfl rfl rfl (AL.go (AO.pickF rfl rfl rfl (AL.go (AO.assign rfl rfl (AL.nil ?_))))))))
          refine AK.seqN (AC.ret (AK.blkR (AK.seqR ?_)))
          first | refine AK.ret (L' := L) (F' := F) Tryz.results117 rfl subA (hT ?_) | refine AK.ret (L' := L) (F' := F) Tryz.results117 rfl subA (hF ?_)
          first
          | exact made_refs hkids (by omega) (by first | exact fun _ => c36 | exact fun h => absurd c32 h) (by first | exact fun h _ => absurd c42 h | exact fun _ h => absurd c46 h | exact fun _ _ => List.eq_nil_of_length_eq_zero (by omega)) ((madeK_1 c58).2 (by omega))
          | (refine made_noK (fun e => ?_); have e := (madeK_1 c58).1 e; omega)
        ·refine AL.go (AO.assign rfl rfl (AL.nil (AK.seqN (AC.condF rfl (AC.region ?_)))))
         refine AL.go (AO.eql rfl rfl rfl (fun c59 => ?_) (fun c59 => ?_))
         ·refine AL.go (AO.assign rfl rfl (AL.nil (AK.seqN (AC.condT rfl (AC.seq (AC.region ?_))))))
          refine AL.go (AO.field rfl rfl ?_)
          refine AL.go (AO.loadB rfl rfl ?_)
          refine AL.go (AO.eql rfl rfl rfl (fun c62 => ?_) (fun c62 => ?_))
          ·refine AL.go (AO.move rfl rfl (AL.yes rfl rfl (AO.move rfl rfl ?_)))
           refine AL.yes rfl rfl (AO.eql rfl rfl rfl (fun c65 => ?_) (fun c65 => ?_))
           ·refine AL.go (AO.pickT rfl rfl rfl (AL.go (AO.assign rfl rfl (AL.nil (AK.seqN (AC.ret (AK.blkR ?_)))))))
            refine AK.seqR ?_
            first | refine AK.ret (L' := L) (F' := F) Tryz.results117 rfl subA (hT ?_) | refine AK.ret (L' := L) (F' := F) Tryz.results117 rfl subA (hF ?_)
            first
            | exact made_refs hkids (by omega) (by first | exact fun _ => c36 | exact fun h => absurd c32 h) (by first | exact fun h _ => absurd c42 h | exact fun _ h => absurd c46 h | exact fun _ _ => List.eq_nil_of_length_eq_zero (by omega)) ((madeK_2 c59).2 (by omega))
            | (refine made_noK (fun e => ?_); have e := (madeK_2 c59).1 e; omega)
           ·refine AL.go (AO.pickT rfl rfl rfl (AL.go (AO.assign rfl rfl (AL.nil (AK.seqN (AC.ret (AK.blkR ?_)))))))
            refine AK.seqR ?_
            first | refine AK.ret (L' := L) (F' := F) Tryz.results117 rfl subA (hT ?_) | refine AK.ret (L' := L) (F' := F) Tryz.results117 rfl subA (hF ?_)
            first
            | exact made_refs hkids (by omega) (by first | exact fun _ => c36 | exact fun h => absurd c32 h) (by first | exact fun h _ => absurd c42 h | exact fun _ h => absurd c46 h | exact fun _ _ => List.eq_nil_of_length_eq_zero (by omega)) ((madeK_2 c59).2 (by omega))
            | (refine made_noK (fun e => ?_); have e := (madeK_2 c59).1 e; omega)
          ·refine AL.go (AO.move rfl rfl (AL.no rfl rfl rfl rfl (AL.no rfl rfl rfl rfl (AL.go (AO.pickF rfl rfl rfl (AL.go (AO.assign rfl rfl (AL.nil ?_))))))))
           refine AK.seqN (AC.ret (AK.blkR (AK.seqR ?_)))
           first | refine AK.ret (L' := L) (F' := F) Tryz.results117 rfl subA (hT ?_) | refine AK.ret (L' := L) (F' := F) Tryz.results117 rfl subA (hF ?_)
           first
           | exact made_refs hkids (by omega) (by first | exact fun _ => c36 | exact fun h => absurd c32 h) (by first | exact fun h _ => absurd c42 h | exact fun _ h => absurd c46 h | exact fun _ _ => List.eq_nil_of_length_eq_zero (by omega)) ((madeK_2 c59).2 (by omega))
           | (refine made_noK (fun e => ?_); have e := (madeK_2 c59).1 e; omega)
         ·refine AL.go (AO.assign rfl rfl (AL.nil (AK.seqN (AC.condF rfl (AC.seq (AC.region ?_))))))
          refine AL.go (AO.eql rfl rfl rfl (fun c68 => ?_) (fun c68 => ?_))
          ·refine AL.go (AO.assign rfl rfl (AL.nil (AK.seqN (AC.condT rfl (AC.seq (AC.region ?_))))))
           refine AL.go (AO.field rfl rfl ?_)
           refine AL.go (AO.loadB rfl rfl ?_)
           refine AL.go (AO.geq rfl rfl rfl (fun c71 => ?_) (fun c71 => ?_))
           ·refine AL.go (AO.move rfl rfl (AL.yes rfl rfl (AO.field rfl rfl ?_)))
            refine AL.yes rfl rfl (AO.loadB rfl rfl ?_)
            refine AL.yes rfl rfl (AO.leq rfl rfl rfl (fun c75 => ?_) (fun c75 => ?_))
            ·refine AL.go (AO.pickT rfl rfl rfl (AL.go (AO.move rfl rfl (AL.yes rfl rfl (AO.move rfl rfl ?_)))))
             refine AL.yes rfl rfl (AO.eql rfl rfl rfl (fun c79 => ?_) (fun c79 => ?_))
             ·refine AL.go (AO.pickT rfl rfl rfl (AL.go (AO.assign rfl rfl (AL.nil (AK.seqN (AC.ret (AK.blkR ?_)))))))
              refine AK.seqR ?_
              first | refine AK.ret (L' := L) (F' := F) Tryz.results117 rfl subA (hT ?_) | refine AK.ret (L' := L) (F' := F) Tryz.results117 rfl subA (hF ?_)
              first
              | exact made_refs hkids (by omega) (by first | exact fun _ => c36 | exact fun h => absurd c32 h) (by first | exact fun h _ => absurd c42 h | exact fun _ h => absurd c46 h | exact fun _ _ => List.eq_nil_of_length_eq_zero (by omega)) ((madeK_3 c68).2 (by omega))
              | (refine made_noK (fun e => ?_); have e := (madeK_3 c68).1 e; omega)
             ·refine AL.go (AO.pickT rfl rfl rfl (AL.go (AO.assign rfl rfl (AL.nil (AK.seqN (AC.ret (AK.blkR ?_)))))))
              refine AK.seqR ?_
              first | refine AK.ret (L' := L) (F' := F) Tryz.results117 rfl subA (hT ?_) | refine AK.ret (L' := L) (F' := F) Tryz.results117 rfl subA (hF ?_)
              first
              | exact made_refs hkids (by omega) (by first | exact fun _ => c36 | exact fun h => absurd c32 h) (by first | exact fun h _ => absurd c42 h | exact fun _ h => absurd c46 h | exact fun _ _ => List.eq_nil_of_length_eq_zero (by omega)) ((madeK_3 c68).2 (by omega))
              | (refine made_noK (fun e => ?_); have e := (madeK_3 c68).1 e; omega)
            ·refine AL.go (AO.pickT rfl rfl rfl (AL.go (AO.move rfl rfl (AL.no rfl rfl rfl rfl (AL.no rfl rfl rfl rfl (AL.go (AO.pickF rfl rfl rfl (AL.go (AO.assign rfl rfl ?_)))))))))
             refine AL.nil (AK.seqN (AC.ret (AK.blkR (AK.seqR ?_))))
             first | refine AK.ret (L' := L) (F' := F) Tryz.results117 rfl subA (hT ?_) | refine AK.ret (L' := L) (F' := F) Tryz.results117 rfl subA (hF ?_)
             first
             | exact made_refs hkids (by omega) (by first | exact fun _ => c36 | exact fun h => absurd c32 h) (by first | exact fun h _ => absurd c42 h | exact fun _ h => absurd c46 h | exact fun _ _ => List.eq_nil_of_length_eq_zero (by omega)) ((madeK_3 c68).2 (by omega))
             | (refine made_noK (fun e => ?_); have e := (madeK_3 c68).1 e; omega)
           ·refine AL.go (AO.move rfl rfl (AL.no rfl rfl rfl rfl (AL.no rfl rfl rfl rfl (AL.no rfl rfl rfl rfl (AL.go (AO.pickF rfl rfl rfl (AL.go (AO.move rfl rfl ?_))))))))
            refine AL.no rfl rfl rfl rfl (AL.no rfl rfl rfl rfl (AL.go (AO.pickF rfl rfl rfl (AL.go (AO.assign rfl rfl (AL.nil (AK.seqN ?_)))))))
            refine AC.ret (AK.blkR (AK.seqR ?_))
            first | refine AK.ret (L' := L) (F' := F) Tryz.results117 rfl subA (hT ?_) | refine AK.ret (L' := L) (F' := F) Tryz.results117 rfl subA (hF ?_)
            first
            | exact made_refs hkids (by omega) (by first | exact fun _ => c36 | exact fun h => absurd c32 h) (by first | exact fun h _ => absurd c42 h | exact fun _ h => absurd c46 h | exact fun _ _ => List.eq_nil_of_length_eq_zero (by omega)) ((madeK_3 c68).2 (by omega))
            | (refine made_noK (fun e => ?_); have e := (madeK_3 c68).1 e; omega)
          ·refine AL.go (AO.assign rfl rfl (AL.nil (AK.seqN (AC.condF rfl (AC.seq (AC.region ?_))))))
           refine AL.go (AO.eql rfl rfl rfl (fun c82 => ?_) (fun c82 => ?_))
           ·refine AL.go (AO.assign rfl rfl (AL.nil (AK.seqN (AC.condT rfl (AC.seq (AC.region ?_))))))
            refine AL.go (AO.field rfl rfl ?_)
            refine AL.go (AO.loadB rfl rfl ?_)
            refine AL.go (AO.eql rfl rfl rfl (fun c85 => ?_) (fun c85 => ?_))
            ·refine AL.go (AO.move rfl rfl (AL.yes rfl rfl (AO.move rfl rfl ?_)))
             refine AL.yes rfl rfl (AO.eql rfl rfl rfl (fun c88 => ?_) (fun c88 => ?_))
             ·refine AL.go (AO.pickT rfl rfl rfl (AL.go (AO.assign rfl rfl (AL.nil (AK.seqN (AC.ret (AK.blkR ?_)))))))
              refine AK.seqR ?_
              first | refine AK.ret (L' := L) (F' := F) Tryz.results117 rfl subA (hT ?_) | refine AK.ret (L' := L) (F' := F) Tryz.results117 rfl subA (hF ?_)
              first
              | exact made_refs hkids (by omega) (by first | exact fun _ => c36 | exact fun h => absurd c32 h) (by first | exact fun h _ => absurd c42 h | exact fun _ h => absurd c46 h | exact fun _ _ => List.eq_nil_of_length_eq_zero (by omega)) ((madeK_4 c82).2 (by omega))
              | (refine made_noK (fun e => ?_); have e := (madeK_4 c82).1 e; omega)
             ·refine AL.go (AO.pickT rfl rfl rfl (AL.go (AO.assign rfl rfl (AL.nil (AK.seqN (AC.ret (AK.blkR ?_)))))))
              refine AK.seqR ?_
              first | refine AK.ret (L' := L) (F' := F) Tryz.results117 rfl subA (hT ?_) | refine AK.ret (L' := L) (F' := F) Tryz.results117 rfl subA (hF ?_)
              first
              | exact made_refs hkids (by omega) (by first | exact fun _ => c36 | exact fun h => absurd c32 h) (by first | exact fun h _ => absurd c42 h | exact fun _ h => absurd c46 h | exact fun _ _ => List.eq_nil_of_length_eq_zero (by omega)) ((madeK_4 c82).2 (by omega))
              | (refine made_noK (fun e => ?_); have e := (madeK_4 c82).1 e; omega)
            ·refine AL.go (AO.move rfl rfl (AL.no rfl rfl rfl rfl (AL.no rfl rfl rfl rfl (AL.go (AO.pickF rfl rfl rfl (AL.go (AO.assign rfl rfl (AL.nil ?_))))))))
             refine AK.seqN (AC.ret (AK.blkR (AK.seqR ?_)))
             first | refine AK.ret (L' := L) (F' := F) Tryz.results117 rfl subA (hT ?_) | refine AK.ret (L' := L) (F' := F) Tryz.results117 rfl subA (hF ?_)
             first
             | exact made_refs hkids (by omega) (by first | exact fun _ => c36 | exact fun h => absurd c32 h) (by first | exact fun h _ => absurd c42 h | exact fun _ h => absurd c46 h | exact fun _ _ => List.eq_nil_of_length_eq_zero (by omega)) ((madeK_4 c82).2 (by omega))
             | (refine made_noK (fun e => ?_); have e := (madeK_4 c82).1 e; omega)
           ·refine AL.go (AO.assign rfl rfl (AL.nil (AK.seqN (AC.condF rfl (AC.seq (AC.region ?_))))))
            refine AL.go (AO.eql rfl rfl rfl (fun c91 => ?_) (fun c91 => ?_))
            ·refine AL.go (AO.assign rfl rfl (AL.nil (AK.seqN (AC.condT rfl (AC.seq (AC.region ?_))))))
             refine AL.go (AO.field rfl rfl ?_)
             refine AL.go (AO.loadB rfl rfl ?_)
             refine AL.go (AO.eql rfl rfl rfl (fun c94 => ?_) (fun c94 => ?_))
             ·refine AL.go (AO.move rfl rfl (AL.no rfl rfl rfl rfl (AL.no rfl rfl rfl rfl (AL.no rfl rfl rfl rfl (AL.no rfl rfl rfl rfl (AL.no rfl rfl rfl rfl ?_))))))
              refine AL.no rfl rfl rfl rfl (AL.no rfl rfl rfl rfl (AL.go (AO.pickT rfl rfl rfl (AL.go (AO.assign rfl rfl (AL.nil (AK.seqN ?_)))))))
              refine AC.ret (AK.blkR (AK.seqR ?_))
              first | refine AK.ret (L' := L) (F' := F) Tryz.results117 rfl subA (hT ?_) | refine AK.ret (L' := L) (F' := F) Tryz.results117 rfl subA (hF ?_)
              first
              | exact made_refs hkids (by omega) (by first | exact fun _ => c36 | exact fun h => absurd c32 h) (by first | exact fun h _ => absurd c42 h | exact fun _ h => absurd c46 h | exact fun _ _ => List.eq_nil_of_length_eq_zero (by omega)) ((madeK_5 c91).2 (by omega))
              | (refine made_noK (fun e => ?_); have e := (madeK_5 c91).1 e; omega)
             ·refine AL.go (AO.move rfl rfl (AL.yes rfl rfl (AO.field rfl rfl ?_)))
              refine AL.yes rfl rfl (AO.loadB rfl rfl ?_)
              refine AL.yes rfl rfl (AO.eql rfl rfl rfl (fun c98 => ?_) (fun c98 => ?_))
              ·refine AL.yes rfl rfl (AO.move rfl rfl (AL.yes rfl rfl (AO.move rfl rfl ?_)))
               refine AL.yes rfl rfl (AO.gtr rfl rfl rfl (fun c101 => ?_) (fun c101 => ?_))
               ·refine AL.yes rfl rfl (AO.pickT rfl rfl rfl (AL.go (AO.pickF rfl rfl rfl (AL.go (AO.assign rfl rfl (AL.nil (AK.seqN (AC.ret ?_))))))))
                refine AK.blkR (AK.seqR ?_)
                first | refine AK.ret (L' := L) (F' := F) Tryz.results117 rfl subA (hT ?_) | refine AK.ret (L' := L) (F' := F) Tryz.results117 rfl subA (hF ?_)
                first
                | exact made_refs hkids (by omega) (by first | exact fun _ => c36 | exact fun h => absurd c32 h) (by first | exact fun h _ => absurd c42 h | exact fun _ h => absurd c46 h | exact fun _ _ => List.eq_nil_of_length_eq_zero (by omega)) ((madeK_5 c91).2 (by omega))
                | (refine made_noK (fun e => ?_); have e := (madeK_5 c91).1 e; omega)
               ·refine AL.yes rfl rfl (AO.pickT rfl rfl rfl (AL.go (AO.pickF rfl rfl rfl (AL.go (AO.assign rfl rfl (AL.nil (AK.seqN (AC.ret ?_))))))))
                refine AK.blkR (AK.seqR ?_)
                first | refine AK.ret (L' := L) (F' := F) Tryz.results117 rfl subA (hT ?_) | refine AK.ret (L' := L) (F' := F) Tryz.results117 rfl subA (hF ?_)
                first
                | exact made_refs hkids (by omega) (by first | exact fun _ => c36 | exact fun h => absurd c32 h) (by first | exact fun h _ => absurd c42 h | exact fun _ h => absurd c46 h | exact fun _ _ => List.eq_nil_of_length_eq_zero (by omega)) ((madeK_5 c91).2 (by omega))
                | (refine made_noK (fun e => ?_); have e := (madeK_5 c91).1 e; omega)
              ·refine AL.yes rfl rfl (AO.move rfl rfl (AL.no rfl rfl rfl rfl (AL.no rfl rfl rfl rfl (AL.yes rfl rfl (AO.pickF rfl rfl rfl (AL.go (AO.pickF rfl rfl rfl (AL.go (AO.assign rfl rfl ?_)))))))))
               refine AL.nil (AK.seqN (AC.ret (AK.blkR (AK.seqR ?_))))
               first | refine AK.ret (L' := L) (F' := F) Tryz.results117 rfl subA (hT ?_) | refine AK.ret (L' := L) (F' := F) Tryz.results117 rfl subA (hF ?_)
               first
               | exact made_refs hkids (by omega) (by first | exact fun _ => c36 | exact fun h => absurd c32 h) (by first | exact fun h _ => absurd c42 h | exact fun _ h => absurd c46 h | exact fun _ _ => List.eq_nil_of_length_eq_zero (by omega)) ((madeK_5 c91).2 (by omega))
               | (refine made_noK (fun e => ?_); have e := (madeK_5 c91).1 e; omega)
            ·refine AL.go (AO.assign rfl rfl (AL.nil (AK.seqN (AC.condF rfl (AC.seq (AC.region ?_))))))
             refine AL.go (AO.eql rfl rfl rfl (fun c105 => ?_) (fun c105 => ?_))
             ·refine AL.go (AO.assign rfl rfl (AL.nil (AK.seqN (AC.condT rfl (AC.seq (AC.region ?_))))))
              refine AL.go (AO.field rfl rfl ?_)
              refine AL.go (AO.loadB rfl rfl ?_)
              refine AL.go (AO.eql rfl rfl rfl (fun c108 => ?_) (fun c108 => ?_))
              ·refine AL.go (AO.move rfl rfl ?_)
               refine AL.yes rfl rfl (AO.loadBA rfl rfl ?_)
               refine AL.yes rfl rfl (AO.call rfl rfl (rfields_c t ht memA memA (fun c111 => ?_) (fun c111 => ?_)))
               ·refine AL.go (AO.pickT rfl rfl rfl (AL.go (AO.assign rfl rfl (AL.nil (AK.seqN (AC.ret (AK.blkR ?_)))))))
                refine AK.seqR ?_
                first | refine AK.ret (L' := L) (F' := F) Tryz.results117 rfl subA (hT ?_) | refine AK.ret (L' := L) (F' := F) Tryz.results117 rfl subA (hF ?_)
                first
                | exact made_refs hkids (by omega) (by first | exact fun _ => c36 | exact fun h => absurd c32 h) (by first | exact fun h _ => absurd c42 h | exact fun _ h => absurd c46 h | exact fun _ _ => List.eq_nil_of_length_eq_zero (by omega)) ((madeK_6 c105).2 ⟨c108, c111.1, c111.2⟩)
                | exact made_noK (fun e => c111 ⟨((madeK_6 c105).1 e).2.1, ((madeK_6 c105).1 e).2.2⟩)
                | exact made_noK (fun e => c108 ((madeK_6 c105).1 e).1)
               ·refine AL.go (AO.pickT rfl rfl rfl (AL.go (AO.assign rfl rfl (AL.nil (AK.seqN (AC.ret (AK.blkR ?_)))))))
                refine AK.seqR ?_
                first | refine AK.ret (L' := L) (F' := F) Tryz.results117 rfl subA (hT ?_) | refine AK.ret (L' := L) (F' := F) Tryz.results117 rfl subA (hF ?_)
                first
                | exact made_refs hkids (by omega) (by first | exact fun _ => c36 | exact fun h => absurd c32 h) (by first | exact fun h _ => absurd c42 h | exact fun _ h => absurd c46 h | exact fun _ _ => List.eq_nil_of_length_eq_zero (by omega)) ((madeK_6 c105).2 ⟨c108, c111.1, c111.2⟩)
                | exact made_noK (fun e => c111 ⟨((madeK_6 c105).1 e).2.1, ((madeK_6 c105).1 e).2.2⟩)
                | exact made_noK (fun e => c108 ((madeK_6 c105).1 e).1)
              ·refine AL.go (AO.move rfl rfl (AL.no rfl rfl rfl rfl (AL.no rfl rfl rfl rfl (AL.go (AO.pickF rfl rfl rfl (AL.go (AO.assign rfl rfl (AL.nil ?_))))))))
               refine AK.seqN (AC.ret (AK.blkR (AK.seqR ?_)))
               first | refine AK.ret (L' := L) (F' := F) Tryz.results117 rfl subA (hT ?_) | refine AK.ret (L' := L) (F' := F) Tryz.results117 rfl subA (hF ?_)
               first
               | exact made_refs hkids (by omega) (by first | exact fun _ => c36 | exact fun h => absurd c32 h) (by first | exact fun h _ => absurd c42 h | exact fun _ h => absurd c46 h | exact fun _ _ => List.eq_nil_of_length_eq_zero (by omega)) ((madeK_6 c105).2 ⟨c108, c111.1, c111.2⟩)
               | exact made_noK (fun e => c111 ⟨((madeK_6 c105).1 e).2.1, ((madeK_6 c105).1 e).2.2⟩)
               | exact made_noK (fun e => c108 ((madeK_6 c105).1 e).1)
             ·refine AL.go (AO.assign rfl rfl (AL.nil (AK.seqN (AC.condF rfl (AC.seq (AC.region ?_))))))
              refine AL.go (AO.eql rfl rfl rfl (fun c114 => ?_) (fun c114 => ?_))
              ·refine AL.go (AO.assign rfl rfl (AL.nil (AK.seqN (AC.condT rfl (AC.seq (AC.region ?_))))))
               refine AL.go (AO.move rfl rfl ?_)
               refine AL.go (AO.loadBA rfl rfl ?_)
               refine AL.go (AO.call rfl rfl (relems_c l t ht hkids memA memA memA (fun c117 => ?_) (fun c117 => ?_)))
               ·refine AL.go (AO.assign rfl rfl (AL.nil (AK.seqN (AC.ret (AK.blkR (AK.seqR ?_))))))
                first | refine AK.ret (L' := L) (F' := F) Tryz.results117 rfl subA (hT ?_) | refine AK.ret (L' := L) (F' := F) Tryz.results117 rfl subA (hF ?_)
                first
                | exact made_refs hkids (by omega) (by first | exact fun _ => c36 | exact fun h => absurd c32 h) (by first | exact fun h _ => absurd c42 h | exact fun _ h => absurd c46 h | exact fun _ _ => List.eq_nil_of_length_eq_zero (by omega)) ((madeK_7 c114).2 c117)
                | exact made_noK (fun e => c117 ((madeK_7 c114).1 e))
               ·refine AL.go (AO.assign rfl rfl (AL.nil (AK.seqN (AC.ret (AK.blkR (AK.seqR ?_))))))
                first | refine AK.ret (L' := L) (F' := F) Tryz.results117 rfl subA (hT ?_) | refine AK.ret (L' := L) (F' := F) Tryz.results117 rfl subA (hF ?_)
                first
                | exact made_refs hkids (by omega) (by first | exact fun _ => c36 | exact fun h => absurd c32 h) (by first | exact fun h _ => absurd c42 h | exact fun _ h => absurd c46 h | exact fun _ _ => List.eq_nil_of_length_eq_zero (by omega)) ((madeK_7 c114).2 c117)
                | exact made_noK (fun e => c117 ((madeK_7 c114).1 e))
              ·refine AL.go (AO.assign rfl rfl (AL.nil (AK.seqN (AC.condF rfl (AC.seq (AC.region ?_))))))
               refine AL.go (AO.eql rfl rfl rfl (fun c119 => ?_) (fun c119 => ?_))
               ·refine AL.go (AO.assign rfl rfl (AL.nil (AK.seqN (AC.condT rfl (AC.seq (AC.region ?_))))))
                refine AL.go (AO.field rfl rfl ?_)
                refine AL.go (AO.loadB rfl rfl ?_)
                refine AL.go (AO.eql rfl rfl rfl (fun c122 => ?_) (fun c122 => ?_))
                ·refine AL.go (AO.move rfl rfl (AL.yes rfl rfl (AO.field rfl rfl ?_)))
                 refine AL.yes rfl rfl (AO.loadB rfl rfl ?_)
                 refine AL.yes rfl rfl (AO.call rfl rfl (rnamed_c t.name (by omega) (fun c126 => ?_) (fun c126 => ?_)))
                 ·refine AL.go (AO.pickT rfl rfl rfl (AL.go (AO.assign rfl rfl (AL.nil (AK.seqN (AC.ret (AK.blkR ?_)))))))
                  refine AK.seqR ?_
                  first | refine AK.ret (L' := L) (F' := F) Tryz.results117 rfl subA (hT ?_) | refine AK.ret (L' := L) (F' := F) Tryz.results117 rfl subA (hF ?_)
                  first
                  | exact made_refs hkids (by omega) (by first | exact fun _ => c36 | exact fun h => absurd c32 h) (by first | exact fun h _ => absurd c42 h | exact fun _ h => absurd c46 h | exact fun _ _ => List.eq_nil_of_length_eq_zero (by omega)) ((madeK_8 c119).2 ⟨c122, c126⟩)
                  | exact made_noK (fun e => c126 ((madeK_8 c119).1 e).2)
                  | exact made_noK (fun e => c122 ((madeK_8 c119).1 e).1)
                 ·refine AL.go (AO.pickT rfl rfl rfl (AL.go (AO.assign rfl rfl (AL.nil (AK.seqN (AC.ret (AK.blkR ?_)))))))
                  refine AK.seqR ?_
                  first | refine AK.ret (L' := L) (F' := F) Tryz.results117 rfl subA (hT ?_) | refine AK.ret (L' := L) (F' := F) Tryz.results117 rfl subA (hF ?_)
                  first
                  | exact made_refs hkids (by omega) (by first | exact fun _ => c36 | exact fun h => absurd c32 h) (by first | exact fun h _ => absurd c42 h | exact fun _ h => absurd c46 h | exact fun _ _ => List.eq_nil_of_length_eq_zero (by omega)) ((madeK_8 c119).2 ⟨c122, c126⟩)
                  | exact made_noK (fun e => c126 ((madeK_8 c119).1 e).2)
                  | exact made_noK (fun e => c122 ((madeK_8 c119).1 e).1)
                ·refine AL.go (AO.move rfl rfl (AL.no rfl rfl rfl rfl (AL.no rfl rfl rfl rfl (AL.no rfl rfl rfl rfl (AL.go (AO.pickF rfl rfl rfl (AL.go (AO.assign rfl rfl ?_))))))))
                 refine AL.nil (AK.seqN (AC.ret (AK.blkR (AK.seqR ?_))))
                 first | refine AK.ret (L' := L) (F' := F) Tryz.results117 rfl subA (hT ?_) | refine AK.ret (L' := L) (F' := F) Tryz.results117 rfl subA (hF ?_)
                 first
                 | exact made_refs hkids (by omega) (by first | exact fun _ => c36 | exact fun h => absurd c32 h) (by first | exact fun h _ => absurd c42 h | exact fun _ h => absurd c46 h | exact fun _ _ => List.eq_nil_of_length_eq_zero (by omega)) ((madeK_8 c119).2 ⟨c122, c126⟩)
                 | exact made_noK (fun e => c126 ((madeK_8 c119).1 e).2)
                 | exact made_noK (fun e => c122 ((madeK_8 c119).1 e).1)
               ·refine AL.go (AO.assign rfl rfl (AL.nil (AK.seqN (AC.condF rfl (AC.seq (AC.region ?_))))))
                refine AL.go (AO.eql rfl rfl rfl (fun c129 => ?_) (fun c129 => ?_))
                ·refine AL.go (AO.assign rfl rfl (AL.nil (AK.seqN (AC.condT rfl (AC.seq (AC.region ?_))))))
                 refine AL.go (AO.field rfl rfl ?_)
                 refine AL.go (AO.loadB rfl rfl ?_)
                 refine AL.go (AO.geq rfl rfl rfl (fun c132 => ?_) (fun c132 => ?_))
                 ·refine AL.go (AO.move rfl rfl (AL.yes rfl rfl (AO.field rfl rfl ?_)))
                  refine AL.yes rfl rfl (AO.loadB rfl rfl ?_)
                  refine AL.yes rfl rfl (AO.lss rfl rfl rfl (fun c136 => ?_) (fun c136 => ?_))
                  ·refine AL.go (AO.pickT rfl rfl rfl (AL.go (AO.move rfl rfl (AL.yes rfl rfl (AO.move rfl rfl ?_)))))
                   refine AL.yes rfl rfl (AO.eql rfl rfl rfl (fun c140 => ?_) (fun c140 => ?_))
                   ·refine AL.go (AO.pickT rfl rfl rfl (AL.go (AO.assign rfl rfl (AL.nil (AK.seqN (AC.ret (AK.blkR ?_)))))))
                    refine AK.seqR ?_
                    first | refine AK.ret (L' := L) (F' := F) Tryz.results117 rfl subA (hT ?_) | refine AK.ret (L' := L) (F' := F) Tryz.results117 rfl subA (hF ?_)
                    first
                    | exact made_refs hkids (by omega) (by first | exact fun _ => c36 | exact fun h => absurd c32 h) (by first | exact fun h _ => absurd c42 h | exact fun _ h => absurd c46 h | exact fun _ _ => List.eq_nil_of_length_eq_zero (by omega)) ((madeK_9 c129).2 (by omega))
                    | (refine made_noK (fun e => ?_); have e := (madeK_9 c129).1 e; omega)
                   ·refine AL.go (AO.pickT rfl rfl rfl (AL.go (AO.assign rfl rfl (AL.nil (AK.seqN (AC.ret (AK.blkR ?_)))))))
                    refine AK.seqR ?_
                    first | refine AK.ret (L' := L) (F' := F) Tryz.results117 rfl subA (hT ?_) | refine AK.ret (L' := L) (F' := F) Tryz.results117 rfl subA (hF ?_)
                    first
                    | exact made_refs hkids (by omega) (by first | exact fun _ => c36 | exact fun h => absurd c32 h) (by first | exact fun h _ => absurd c42 h | exact fun _ h => absurd c46 h | exact fun _ _ => List.eq_nil_of_length_eq_zero (by omega)) ((madeK_9 c129).2 (by omega))
                    | (refine made_noK (fun e => ?_); have e := (madeK_9 c129).1 e; omega)
                  ·refine AL.go (AO.pickT rfl rfl rfl (AL.go (AO.move rfl rfl (AL.no rfl rfl rfl rfl (AL.no rfl rfl rfl rfl (AL.go (AO.pickF rfl rfl rfl (AL.go (AO.assign rfl rfl ?_)))))))))
                   refine AL.nil (AK.seqN (AC.ret (AK.blkR (AK.seqR ?_))))
                   first | refine AK.ret (L' := L) (F' := F) Tryz.results117 rfl subA (hT ?_) | refine AK.ret (L' := L) (F' := F) Tryz.results117 rfl subA (hF ?_)
                   first
                   | exact made_refs hkids (by omega) (by first | exact fun _ => c36 | exact fun h => absurd c32 h) (by first | exact fun h _ => absurd c42 h | exact fun _ h => absurd c46 h | exact fun _ _ => List.eq_nil_of_length_eq_zero (by omega)) ((madeK_9 c129).2 (by omega))
                   | (refine made_noK (fun e => ?_); have e := (madeK_9 c129).1 e; omega)
                 ·refine AL.go (AO.move rfl rfl (AL.no rfl rfl rfl rfl (AL.no rfl rfl rfl rfl (AL.no rfl rfl rfl rfl (AL.go (AO.pickF rfl rfl rfl (AL.go (AO.move rfl rfl ?_))))))))
                  refine AL.no rfl rfl rfl rfl (AL.no rfl rfl rfl rfl (AL.go (AO.pickF rfl rfl rfl (AL.go (AO.assign rfl rfl (AL.nil (AK.seqN ?_)))))))
                  refine AC.ret (AK.blkR (AK.seqR ?_))
                  first | refine AK.ret (L' := L) (F' := F) Tryz.results117 rfl subA (hT ?_) | refine AK.ret (L' := L) (F' := F) Tryz.results117 rfl subA (hF ?_)
                  first
                  | exact made_refs hkids (by omega) (by first | exact fun _ => c36 | exact fun h => absurd c32 h) (by first | exact fun h _ => absurd c42 h | exact fun _ h => absurd c46 h | exact fun _ _ => List.eq_nil_of_length_eq_zero (by omega)) ((madeK_9 c129).2 (by omega))
                  | (refine made_noK (fun e => ?_); have e := (madeK_9 c129).1 e; omega)
                ·refine AL.go (AO.assign rfl rfl (AL.nil (AK.seqN (AC.condF rfl (AC.skip (AK.blkN ?_))))))
                 refine AK.seqN (AC.seq (AC.region (AL.go (AO.assign rfl rfl (AL.nil (AK.seqN ?_))))))
                 refine AC.ret ?_
                 first | refine AK.ret (L' := L) (F' := F) Tryz.results117 rfl subA (hT ?_) | refine AK.ret (L' := L) (F' := F) Tryz.results117 rfl subA (hF ?_)
                 first
                 | exact made_long (by omega)
                 | exact made_kid hql (by omega)
                 | exact made_noname c32 c36
                 | exact made_nowords c42 c46 (by omega)
                 | exact made_noK (madeK_no c58 c59 c68 c82 c91 c105 c114 c119 c129)
      ·refine AL.yes rfl rfl (AO.pickT rfl rfl rfl (AL.yes rfl rfl (AO.move rfl rfl (AL.no rfl rfl rfl rfl (AL.no rfl rfl rfl rfl (AL.no rfl rfl rfl rfl (AL.no rfl rfl rfl rfl ?_)))))))
       refine AL.yes rfl rfl (AO.pickF rfl rfl rfl (AL.go (AO.pickF rfl rfl rfl (AL.nil (AK.seqN (AC.condF rfl (AC.skip ?_)))))))
       refine AK.seqN (AC.seq (AC.seq (AC.region (AL.go (AO.field rfl rfl ?_)))))
       refine AL.go (AO.loadB rfl rfl ?_)
       refine AL.nil (AK.seqN (AC.block (AC.seq (AC.seq (AC.region ?_)))))
       refine AL.go (AO.eql rfl rfl rfl (fun c58 => ?_) (fun c58 => ?_))
       ·refine AL.go (AO.assign rfl rfl (AL.nil (AK.seqN (AC.condT rfl (AC.skip (AK.seqN ?_))))))
        refine AC.condT rfl (AC.seq (AC.region (AL.go (AO.field rfl rfl ?_))))
        refine AL.go (AO.loadB rfl rfl ?_)
        refine AL.go (AO.eql rfl rfl rfl (fun c62 => ?_) (fun c62 => ?_))
        ·refine AL.go (AO.move rfl rfl (AL.yes rfl rfl (AO.move rfl rfl ?_)))
         refine AL.yes rfl rfl (AO.eql rfl rfl rfl (fun c65 => ?_) (fun c65 => ?_))
         ·refine AL.go (AO.pickT rfl rfl rfl (AL.go (AO.assign rfl rfl (AL.nil (AK.seqN (AC.ret (AK.blkR ?_)))))))
          refine AK.seqR ?_
          first | refine AK.ret (L' := L) (F' := F) Tryz.results117 rfl subA (hT ?_) | refine AK.ret (L' := L) (F' := F) Tryz.results117 rfl subA (hF ?_)
          first
          | exact made_refs hkids (by omega) (by first | exact fun _ => c36 | exact fun h => absurd c32 h) (by first | exact fun h _ => absurd c42 h | exact fun _ h => absurd c46 h | exact fun _ _ => List.eq_nil_of_length_eq_zero (by omega)) ((madeK_1 c58).2 (by omega))
          | (refine made_noK (fun e => ?_); have e := (madeK_1 c58).1 e; omega)
         ·refine AL.go (AO.pickT rfl rfl rfl (AL.go (AO.assign rfl rfl (AL.nil (AK.seqN (AC.ret (AK.blkR ?_)))))))
          refine AK.seqR ?_
          first | refine AK.ret (L' := L) (F' := F) Tryz.results117 rfl subA (hT ?_) | refine AK.ret (L' := L) (F' := F) Tryz.results117 rfl subA (hF ?_)
          first
          | exact made_refs hkids (by omega) (by first | exact fun _ => c36 | exact fun h => absurd c32 h) (by first | exact fun h _ => absurd c42 h | exact fun _ h => absurd c46 h | exact fun _ _ => List.eq_nil_of_length_eq_zero (by omega)) ((madeK_1 c58).2 (by omega))
          | (refine made_noK (fun e => ?_); have e := (madeK_1 c58).1 e; omega)
        ·refine AL.go (AO.move rfl rfl (AL.no rfl rfl rfl rfl (AL.no rfl rfl rfl rfl (AL.go (AO.pickF rfl rfl rfl (AL.go (AO.assign rfl rfl (AL.nil ?_))))))))
         refine AK.seqN (AC.ret (AK.blkR (AK.seqR ?_)))
         first | refine AK.ret (L' := L) (F' := F) Tryz.results117 rfl subA (hT ?_) | refine AK.ret (L' := L) (F' := F) Tryz.results117 rfl subA (hF ?_)
         first
         | exact made_refs hkids (by omega) (by first | exact fun _ => c36 | exact fun h => absurd c32 h) (by first | exact fun h _ => absurd c42 h | exact fun _ h => absurd c46 h | exact fun _ _ => List.eq_nil_of_length_eq_zero (by omega)) ((madeK_1 c58).2 (by omega))
         | (refine made_noK (fun e => ?_); have e := (madeK_1 c58).1 e; omega)
       ·refine AL.go (AO.assign rfl rfl (AL.nil (AK.seqN (AC.condF rfl (AC.region ?_)))))
        refine AL.go (AO.eql rfl rfl rfl (fun c59 => ?_) (fun c59 => ?_))
        ·refine AL.go (AO.assign rfl rfl (AL.nil (AK.seqN (AC.condT rfl (AC.seq (AC.region ?_))))))
         refine AL.go (AO.field rfl rfl ?_)
         refine AL.go (AO.loadB rfl rfl ?_)
         refine AL.go (AO.eql rfl rfl rfl (fun c62 => ?_) (fun c62 => ?_))
         ·refine AL.go (AO.move rfl rfl (AL.yes rfl rfl (AO.move rfl rfl ?_)))
          refine AL.yes rfl rfl (AO.eql rfl rfl rfl (fun c65 => ?_) (fun c65 => ?_))
          ·refine AL.go (AO.pickT rfl rfl rfl (AL.go (AO.assign rfl rfl (AL.nil (AK.seqN (AC.ret (AK.blkR ?_)))))))
           refine AK.seqR ?_
           first | refine AK.ret (L' := L) (F' := F) Tryz.results117 rfl subA (hT ?_) | refine AK.ret (L' := L) (F' := F) Tryz.results117 rfl subA (hF ?_)
           first
           | exact made_refs hkids (by omega) (by first | exact fun _ => c36 | exact fun h => absurd c32 h) (by first | exact fun h _ => absurd c42 h | exact fun _ h => absurd c46 h | exact fun _ _ => List.eq_nil_of_length_eq_zero (by omega)) ((madeK_2 c59).2 (by omega))
           | (refine made_noK (fun e => ?_); have e := (madeK_2 c59).1 e; omega)
          ·refine AL.go (AO.pickT rfl rfl rfl (AL.go (AO.assign rfl rfl (AL.nil (AK.seqN (AC.ret (AK.blkR ?_)))))))
           refine AK.seqR ?_
           first | refine AK.ret (L' := L) (F' := F) Tryz.results117 rfl subA (hT ?_) | refine AK.ret (L' := L) (F' := F) Tryz.results117 rfl subA (hF ?_)
           first
           | exact made_refs hkids (by omega) (by first | exact fun _ => c36 | exact fun h => absurd c32 h) (by first | exact fun h _ => absurd c42 h | exact fun _ h => absurd c46 h | exact fun _ _ => List.eq_nil_of_length_eq_zero (by omega)) ((madeK_2 c59).2 (by omega))
           | (refine made_noK (fun e => ?_); have e := (madeK_2 c59).1 e; omega)
         ·refine AL.go (AO.move rfl rfl (AL.no rfl rfl rfl rfl (AL.no rfl rfl rfl rfl (AL.go (AO.pickF rfl rfl rfl (AL.go (AO.assign rfl rfl (AL.nil ?_))))))))
          refine AK.seqN (AC.ret (AK.blkR (AK.seqR ?_)))
          first | refine AK.ret (L' := L) (F' := F) Tryz.results117 rfl subA (hT ?_) | refine AK.ret (L' := L) (F' := F) Tryz.results117 rfl subA (hF ?_)
          first
          | exact made_refs hkids (by omega) (by first | exact fun _ => c36 | exact fun h => absurd c32 h) (by first | exact fun h _ => absurd c42 h | exact fun _ h => absurd c46 h | exact fun _ _ => List.eq_nil_of_length_eq_zero (by omega)) ((madeK_2 c59).2 (by omega))
          | (refine made_noK (fun e => ?_); have e := (madeK_2 c59).1 e; omega)
        ·refine AL.go (AO.assign rfl rfl (AL.nil (AK.seqN (AC.condF rfl (AC.seq (AC.region ?_))))))
         refine AL.go (AO.eql rfl rfl rfl (fun c68 => ?_) (fun c68 => ?_))
         ·refine AL.go (AO.assign rfl rfl (AL.nil (AK.seqN (AC.condT rfl (AC.seq (AC.region ?_))))))
          refine AL.go (AO.field rfl rfl ?_)
          refine AL.go (AO.loadB rfl rfl ?_)
          refine AL.go (AO.geq rfl rfl rfl (fun c71 => ?_) (fun c71 => ?_))
          ·refine AL.go (AO.move rfl rfl (AL.yes rfl rfl (AO.field rfl rfl ?_)))
           refine AL.yes rfl rfl (AO.loadB rfl rfl ?_)
           refine AL.yes rfl rfl (AO.leq rfl rfl rfl (fun c75 => ?_) (fun c75 => ?_))
           ·refine AL.go (AO.pickT rfl rfl rfl (AL.go (AO.move rfl rfl (AL.yes rfl rfl (AO.move rfl rfl ?_)))))
            refine AL.yes rfl rfl (AO.eql rfl rfl rfl (fun c79 => ?_) (fun c79 => ?_))
            ·refine AL.go (AO.pickT rfl rfl rfl (AL.go (AO.assign rfl rfl (AL.nil (AK.seqN (AC.ret (AK.blkR ?_)))))))
             refine AK.seqR ?_
             first | refine AK.ret (L' := L) (F' := F) Tryz.results117 rfl subA (hT ?_) | refine AK.ret (L' := L) (F' := F) Tryz.results117 rfl subA (hF ?_)
             first
             | exact made_refs hkids (by omega) (by first | exact fun _ => c36 | exact fun h => absurd c32 h) (by first | exact fun h _ => absurd c42 h | exact fun _ h => absurd c46 h | exact fun _ _ => List.eq_nil_of_length_eq_zero (by omega)) ((madeK_3 c68).2 (by omega))
             | (refine made_noK (fun e => ?_); have e := (madeK_3 c68).1 e; omega)
            ·refine AL.go (AO.pickT rfl rfl rfl (AL.go (AO.assign rfl rfl (AL.nil (AK.seqN (AC.ret (AK.blkR ?_)))))))
             refine AK.seqR ?_
             first | refine AK.ret (L' := L) (F' := F) Tryz.results117 rfl subA (hT ?_) | refine AK.ret (L' := L) (F' := F) Tryz.results117 rfl subA (hF ?_)
             first
             | exact made_refs hkids (by omega) (by first | exact fun _ => c36 | exact fun h => absurd c32 h) (by first | exact fun h _ => absurd c42 h | exact fun _ h => absurd c46 h | exact fun _ _ => List.eq_nil_of_length_eq_zero (by omega)) ((madeK_3 c68).2 (by omega))
             | (refine made_noK (fun e => ?_); have e := (madeK_3 c68).1 e; omega)
           ·refine AL.go (AO.pickT rfl rfl rfl (AL.go (AO.move rfl rfl (AL.no rfl rfl rfl rfl (AL.no rfl rfl rfl rfl (AL.go (AO.pickF rfl rfl rfl (AL.go (AO.assign rfl rfl ?_)))))))))
            refine AL.nil (AK.seqN (AC.ret (AK.blkR (AK.seqR ?_))))
            first | refine AK.ret (L' := L) (F' := F) Tryz.results117 rfl subA (hT ?_) | refine AK.ret (L' := L) (F' := F) Tryz.results117 rfl subA (hF ?_)
            first
            | exact made_refs hkids (by omega) (by first | exact fun _ => c36 | exact fun h => absurd c32 h) (by first | exact fun h _ => absurd c42 h | exact fun _ h => absurd c46 h | exact fun _ _ => List.eq_nil_of_length_eq_zero (by omega)) ((madeK_3 c68).2 (by omega))
            | (refine made_noK (fun e => ?_); have e := (madeK_3 c68).1 e; omega)
          ·refine AL.go (AO.move rfl rfl (AL.no rfl rfl rfl rfl (AL.no rfl rfl rfl rfl (AL.no rfl rfl rfl rfl (AL.go (AO.pickF rfl rfl rfl (AL.go (AO.move rfl rfl ?_))))))))
           refine AL.no rfl rfl rfl rfl (AL.no rfl rfl rfl rfl (AL.go (AO.pickF rfl rfl rfl (AL.go (AO.assign rfl rfl (AL.nil (AK.seqN ?_)))))))
           refine AC.ret (AK.blkR (AK.seqR ?_))
           first | refine AK.ret (L' := L) (F' := F) Tryz.results117 rfl subA (hT ?_) | refine AK.ret (L' := L) (F' := F) Tryz.results117 rfl subA (hF ?_)
           first
           | exact made_refs hkids (by omega) (by first | exact fun _ => c36 | exact fun h => absurd c32 h) (by first | exact fun h _ => absurd c42 h | exact fun _ h => absurd c46 h | exact fun _ _ => List.eq_nil_of_length_eq_zero (by omega)) ((madeK_3 c68).2 (by omega))
           | (refine made_noK (fun e => ?_); have e := (madeK_3 c68).1 e; omega)
         ·refine AL.go (AO.assign rfl rfl (AL.nil (AK.seqN (AC.condF rfl (AC.seq (AC.region ?_))))))
          refine AL.go (AO.eql rfl rfl rfl (fun c82 => ?_) (fun c82 => ?_))
          ·refine AL.go (AO.assign rfl rfl (AL.nil (AK.seqN (AC.condT rfl (AC.seq (AC.region ?_))))))
           refine AL.go (AO.field rfl rfl ?_)
           refine AL.go (AO.loadB rfl rfl ?_)
           refine AL.go (AO.eql rfl rfl rfl (fun c85 => ?_) (fun c85 => ?_))
           ·refine AL.go (AO.move rfl rfl (AL.yes rfl rfl (AO.move rfl rfl ?_)))
            refine AL.yes rfl rfl (AO.eql rfl rfl rfl (fun c88 => ?_) (fun c88 => ?_))
            ·refine AL.go (AO.pickT rfl rfl rfl (AL.go (AO.assign rfl rfl (AL.nil (AK.seqN (AC.ret (AK.blkR ?_)))))))
             refine AK.seqR ?_
             first | refine AK.ret (L' := L) (F' := F) Tryz.results117 rfl subA (hT ?_) | refine AK.ret (L' := L) (F' := F) Tryz.results117 rfl subA (hF ?_)
             first
             | exact made_refs hkids (by omega) (by first | exact fun _ => c36 | exact fun h => absurd c32 h) (by first | exact fun h _ => absurd c42 h | exact fun _ h => absurd c46 h | exact fun _ _ => List.eq_nil_of_length_eq_zero (by omega)) ((madeK_4 c82).2 (by omega))
             | (refine made_noK (fun e => ?_); have e := (madeK_4 c82).1 e; omega)
            ·refine AL.go (AO.pickT rfl rfl rfl (AL.go (AO.assign rfl rfl (AL.nil (AK.seqN (AC.ret (AK.blkR ?_)))))))
             refine AK.seqR ?_
             first | refine AK.ret (L' := L) (F' := F) Tryz.results117 rfl subA (hT ?_) | refine AK.ret (L' := L) (F' := F) Tryz.results117 rfl subA (hF ?_)
             first
             | exact made_refs hkids (by omega) (by first | exact fun _ => c36 | exact fun h => absurd c32 h) (by first | exact fun h _ => absurd c42 h | exact fun _ h => absurd c46 h | exact fun _ _ => List.eq_nil_of_length_eq_zero (by omega)) ((madeK_4 c82).2 (by omega))
             | (refine made_noK (fun e => ?_); have e := (madeK_4 c82).1 e; omega)
           ·refine AL.go (AO.move rfl rfl (AL.no rfl rfl rfl rfl (AL.no rfl rfl rfl rfl (AL.go (AO.pickF rfl rfl rfl (AL.go (AO.assign rfl rfl (AL.nil ?_))))))))
            refine AK.seqN (AC.ret (AK.blkR (AK.seqR ?_)))
            first | refine AK.ret (L' := L) (F' := F) Tryz.results117 rfl subA (hT ?_) | refine AK.ret (L' := L) (F' := F) Tryz.results117 rfl subA (hF ?_)
            first
            | exact made_refs hkids (by omega) (by first | exact fun _ => c36 | exact fun h => absurd c32 h) (by first | exact fun h _ => absurd c42 h | exact fun _ h => absurd c46 h | exact fun _ _ => List.eq_nil_of_length_eq_zero (by omega)) ((madeK_4 c82).2 (by omega))
            | (refine made_noK (fun e => ?_); have e := (madeK_4 c82).1 e; omega)
          ·refine AL.go (AO.assign rfl rfl (AL.nil (AK.seqN (AC.condF rfl (AC.seq (AC.region ?_))))))
           refine AL.go (AO.eql rfl rfl rfl (fun c91 => ?_) (fun c91 => ?_))
           ·refine AL.go (AO.assign rfl rfl (AL.nil (AK.seqN (AC.condT rfl (AC.seq (AC.region ?_))))))
            refine AL.go (AO.field rfl rfl ?_)
            refine AL.go (AO.loadB rfl rfl ?_)
            refine AL.go (AO.eql rfl rfl rfl (fun c94 => ?_) (fun c94 => ?_))
            ·refine AL.go (AO.move rfl rfl (AL.no rfl rfl rfl rfl (AL.no rfl rfl rfl rfl (AL.no rfl rfl rfl rfl (AL.no rfl rfl rfl rfl (AL.no rfl rfl rfl rfl ?_))))))
             refine AL.no rfl rfl rfl rfl (AL.no rfl rfl rfl rfl (AL.go (AO.pickT rfl rfl rfl (AL.go (AO.assign rfl rfl (AL.nil (AK.seqN ?_)))))))
             refine AC.ret (AK.blkR (AK.seqR ?_))
             first | refine AK.ret (L' := L) (F' := F) Tryz.results117 rfl subA (hT ?_) | refine AK.ret (L' := L) (F' := F) Tryz.results117 rfl subA (hF ?_)
             first
             | exact made_refs hkids (by omega) (by first | exact fun _ => c36 | exact fun h => absurd c32 h) (by first | exact fun h _ => absurd c42 h | exact fun _ h => absurd c46 h | exact fun _ _ => List.eq_nil_of_length_eq_zero (by omega)) ((madeK_5 c91).2 (by omega))
             | (refine made_noK (fun e => ?_); have e := (madeK_5 c91).1 e; omega)
            ·refine AL.go (AO.move rfl rfl (AL.yes rfl rfl (AO.field rfl rfl ?_)))
             refine AL.yes rfl rfl (AO.loadB rfl rfl ?_)
             refine AL.yes rfl rfl (AO.eql rfl rfl rfl (fun c98 => ?_) (fun c98 => ?_))
             ·refine AL.yes rfl rfl (AO.move rfl rfl (AL.yes rfl rfl (AO.move rfl rfl ?_)))
              refine AL.yes rfl rfl (AO.gtr rfl rfl rfl (fun c101 => ?_) (fun c101 => ?_))
              ·refine AL.yes rfl rfl (AO.pickT rfl rfl rfl (AL.go (AO.pickF rfl rfl rfl (AL.go (AO.assign rfl rfl (AL.nil (AK.seqN (AC.ret ?_))))))))
               refine AK.blkR (AK.seqR ?_)
               first | refine AK.ret (L' := L) (F' := F) Tryz.results117 rfl subA (hT ?_) | refine AK.ret (L' := L) (F' := F) Tryz.results117 rfl subA (hF ?_)
               first
               | exact made_refs hkids (by omega) (by first | exact fun _ => c36 | exact fun h => absurd c32 h) (by first | exact fun h _ => absurd c42 h | exact fun _ h => absurd c46 h | exact fun _ _ => List.eq_nil_of_length_eq_zero (by omega)) ((madeK_5 c91).2 (by omega))
               | (refine made_noK (fun e => ?_); have e := (madeK_5 c91).1 e; omega)
              ·refine AL.yes rfl rfl (AO.pickT rfl rfl rfl (AL.go (AO.pickF rfl rfl rfl (AL.go (AO.assign rfl rfl (AL.nil (AK.seqN (AC.ret ?_))))))))
               refine AK.blkR (AK.seqR ?_)
               first | refine AK.ret (L' := L) (F' := F) Tryz.results117 rfl subA (hT ?_) | refine AK.ret (L' := L) (F' := F) Tryz.results117 rfl subA (hF ?_)
               first
               | exact made_refs hkids (by omega) (by first | exact fun _ => c36 | exact fun h => absurd c32 h) (by first | exact fun h _ => absurd c42 h | exact fun _ h => absurd c46 h | exact fun _ _ => List.eq_nil_of_length_eq_zero (by omega)) ((madeK_5 c91).2 (by omega))
               | (refine made_noK (fun e => ?_); have e := (madeK_5 c91).1 e; omega)
             ·refine AL.yes rfl rfl (AO.move rfl rfl (AL.no rfl rfl rfl rfl (AL.no rfl rfl rfl rfl (AL.yes rfl rfl (AO.pickF rfl rfl rfl (AL.go (AO.pickF rfl rfl rfl (AL.go (AO.assign rfl rfl ?_)))))))))
              refine AL.nil (AK.seqN (AC.ret (AK.blkR (AK.seqR ?_))))
              first | refine AK.ret (L' := L) (F' := F) Tryz.results117 rfl subA (hT ?_) | refine AK.ret (L' := L) (F' := F) Tryz.results117 rfl subA (hF ?_)
              first
              | exact made_refs hkids (by omega) (by first | exact fun _ => c36 | exact fun h => absurd c32 h) (by first | exact fun h _ => absurd c42 h | exact fun _ h => absurd c46 h | exact fun _ _ => List.eq_nil_of_length_eq_zero (by omega)) ((madeK_5 c91).2 (by omega))
              | (refine made_noK (fun e => ?_); have e := (madeK_5 c91).1 e; omega)
           ·refine AL.go (AO.assign rfl rfl (AL.nil (AK.seqN (AC.condF rfl (AC.seq (AC.region ?_))))))
            refine AL.go (AO.eql rfl rfl rfl (fun c105 => ?_) (fun c105 => ?_))
            ·refine AL.go (AO.assign rfl rfl (AL.nil (AK.seqN (AC.condT rfl (AC.seq (AC.region ?_))))))
             refine AL.go (AO.field rfl rfl ?_)
             refine AL.go (AO.loadB rfl rfl ?_)
             refine AL.go (AO.eql rfl rfl rfl (fun c108 => ?_) (fun c108 => ?_))
             ·refine AL.go (AO.move rfl rfl ?_)
              refine AL.yes rfl rfl (AO.loadBA rfl rfl ?_)
              refine AL.yes rfl rfl (AO.call rfl rfl (rfields_c t ht memA memA (fun c111 => ?_) (fun c111 => ?_)))
              ·refine AL.go (AO.pickT rfl rfl rfl (AL.go (AO.assign rfl rfl (AL.nil (AK.seqN (AC.ret (AK.blkR ?_)))))))
               refine AK.seqR ?_
               first | refine AK.ret (L' := L) (F' := F) Tryz.results117 rfl subA (hT ?_) | refine AK.ret (L' := L) (F' := F) Tryz.results117 rfl subA (hF ?_)
               first
               | exact made_refs hkids (by omega) (by first | exact fun _ => c36 | exact fun h => absurd c32 h) (by first | exact fun h _ => absurd c42 h | exact fun _ h => absurd c46 h | exact fun _ _ => List.eq_nil_of_length_eq_zero (by omega)) ((madeK_6 c105).2 ⟨c108, c111.1, c111.2⟩)
               | exact made_noK (fun e => c111 ⟨((madeK_6 c105).1 e).2.1, ((madeK_6 c105).1 e).2.2⟩)
               | exact made_noK (fun e => c108 ((madeK_6 c105).1 e).1)
              ·refine AL.go (AO.pickT rfl rfl rfl (AL.go (AO.assign rfl rfl (AL.nil (AK.seqN (AC.ret (AK.blkR ?_)))))))
               refine AK.seqR ?_
               first | refine AK.ret (L' := L) (F' := F) Tryz.results117 rfl subA (hT ?_) | refine AK.ret (L' := L) (F' := F) Tryz.results117 rfl subA (hF ?_)
               first
               | exact made_refs hkids (by omega) (by first | exact fun _ => c36 | exact fun h => absurd c32 h) (by first | exact fun h _ => absurd c42 h | exact fun _ h => absurd c46 h | exact fun _ _ => List.eq_nil_of_length_eq_zero (by omega)) ((madeK_6 c105).2 ⟨c108, c111.1, c111.2⟩)
               | exact made_noK (fun e => c111 ⟨((madeK_6 c105).1 e).2.1, ((madeK_6 c105).1 e).2.2⟩)
               | exact made_noK (fun e => c108 ((madeK_6 c105).1 e).1)
             ·refine AL.go (AO.move rfl rfl (AL.no rfl rfl rfl rfl (AL.no rfl rfl rfl rfl (AL.go (AO.pickF rfl rfl rfl (AL.go (AO.assign rfl rfl (AL.nil ?_))))))))
              refine AK.seqN (AC.ret (AK.blkR (AK.seqR ?_)))
              first | refine AK.ret (L' := L) (F' := F) Tryz.results117 rfl subA (hT ?_) | refine AK.ret (L' := L) (F' := F) Tryz.results117 rfl subA (hF ?_)
              first
              | exact made_refs hkids (by omega) (by first | exact fun _ => c36 | exact fun h => absurd c32 h) (by first | exact fun h _ => absurd c42 h | exact fun _ h => absurd c46 h | exact fun _ _ => List.eq_nil_of_length_eq_zero (by omega)) ((madeK_6 c105).2 ⟨c108, c111.1, c111.2⟩)
              | exact made_noK (fun e => c111 ⟨((madeK_6 c105).1 e).2.1, ((madeK_6 c105).1 e).2.2⟩)
              | exact made_noK (fun e => c108 ((madeK_6 c105).1 e).1)
            ·refine AL.go (AO.assign rfl rfl (AL.nil (AK.seqN (AC.condF rfl (AC.seq (AC.region ?_))))))
             refine AL.go (AO.eql rfl rfl rfl (fun c114 => ?_) (fun c114 => ?_))
             ·refine AL.go (AO.assign rfl rfl (AL.nil (AK.seqN (AC.condT rfl (AC.seq (AC.region ?_))))))
              refine AL.go (AO.move rfl rfl ?_)
              refine AL.go (AO.loadBA rfl rfl ?_)
              refine AL.go (AO.call rfl rfl (relems_c l t ht hkids memA memA memA (fun c117 => ?_) (fun c117 => ?_)))
              ·refine AL.go (AO.assign rfl rfl (AL.nil (AK.seqN (AC.ret (AK.blkR (AK.seqR ?_))))))
               first | refine AK.ret (L' := L) (F' := F) Tryz.results117 rfl subA (hT ?_) | refine AK.ret (L' := L) (F' := F) Tryz.results117 rfl subA (hF ?_)
               first
               | exact made_refs hkids (by omega) (by first | exact fun _ => c36 | exact fun h => absurd c32 h) (by first | exact fun h _ => absurd c42 h | exact fun _ h => absurd c46 h | exact fun _ _ => List.eq_nil_of_length_eq_zero (by omega)) ((madeK_7 c114).2 c117)
               | exact made_noK (fun e => c117 ((madeK_7 c114).1 e))
              ·refine AL.go (AO.assign rfl rfl (AL.nil (AK.seqN (AC.ret (AK.blkR (AK.seqR ?_))))))
               first | refine AK.ret (L' := L) (F' := F) Tryz.results117 rfl subA (hT ?_) | refine AK.ret (L' := L) (F' := F) Tryz.results117 rfl subA (hF ?_)
               first
               | exact made_refs hkids (by omega) (by first | exact fun _ => c36 | exact fun h => absurd c32 h) (by first | exact fun h _ => absurd c42 h | exact fun _ h => absurd c46 h | exact fun _ _ => List.eq_nil_of_length_eq_zero (by omega)) ((madeK_7 c114).2 c117)
               | exact made_noK (fun e => c117 ((madeK_7 c114).1 e))
             ·refine AL.go (AO.assign rfl rfl (AL.nil (AK.seqN (AC.condF rfl (AC.seq (AC.region ?_))))))
              refine AL.go (AO.eql rfl rfl rfl (fun c119 => ?_) (fun c119 => ?_))
              ·refine AL.go (AO.assign rfl rfl (AL.nil (AK.seqN (AC.condT rfl (AC.seq (AC.region ?_))))))
               refine AL.go (AO.field rfl rfl ?_)
               refine AL.go (AO.loadB rfl rfl ?_)
               refine AL.go (AO.eql rfl rfl rfl (fun c122 => ?_) (fun c122 => ?_))
               ·refine AL.go (AO.move rfl rfl (AL.yes rfl rfl (AO.field rfl rfl ?_)))
                refine AL.yes rfl rfl (AO.loadB rfl rfl ?_)
                refine AL.yes rfl rfl (AO.call rfl rfl (rnamed_c t.name (by omega) (fun c126 => ?_) (fun c126 => ?_)))
                ·refine AL.go (AO.pickT rfl rfl rfl (AL.go (AO.assign rfl rfl (AL.nil (AK.seqN (AC.ret (AK.blkR ?_)))))))
                 refine AK.seqR ?_
                 first | refine AK.ret (L' := L) (F' := F) Tryz.results117 rfl subA (hT ?_) | refine AK.ret (L' := L) (F' := F) Tryz.results117 rfl subA (hF ?_)
                 first
                 | exact made_refs hkids (by omega) (by first | exact fun _ => c36 | exact fun h => absurd c32 h) (by first | exact fun h _ => absurd c42 h | exact fun _ h => absurd c46 h | exact fun _ _ => List.eq_nil_of_length_eq_zero (by omega)) ((madeK_8 c119).2 ⟨c122, c126⟩)
                 | exact made_noK (fun e => c126 ((madeK_8 c119).1 e).2)
                 | exact made_noK (fun e => c122 ((madeK_8 c119).1 e).1)
                ·refine AL.go (AO.pickT rfl rfl rfl (AL.go (AO.assign rfl rfl (AL.nil (AK.seqN (AC.ret (AK.blkR ?_)))))))
                 refine AK.seqR ?_
                 first | refine AK.ret (L' := L) (F' := F) Tryz.results117 rfl subA (hT ?_) | refine AK.ret (L' := L) (F' := F) Tryz.results117 rfl subA (hF ?_)
                 first
                 | exact made_refs hkids (by omega) (by first | exact fun _ => c36 | exact fun h => absurd c32 h) (by first | exact fun h _ => absurd c42 h | exact fun _ h => absurd c46 h | exact fun _ _ => List.eq_nil_of_length_eq_zero (by omega)) ((madeK_8 c119).2 ⟨c122, c126⟩)
                 | exact made_noK (fun e => c126 ((madeK_8 c119).1 e).2)
                 | exact made_noK (fun e => c122 ((madeK_8 c119).1 e).1)
               ·refine AL.go (AO.move rfl rfl (AL.no rfl rfl rfl rfl (AL.no rfl rfl rfl rfl (AL.no rfl rfl rfl rfl (AL.go (AO.pickF rfl rfl rfl (AL.go (AO.assign rfl rfl ?_))))))))
                refine AL.nil (AK.seqN (AC.ret (AK.blkR (AK.seqR ?_))))
                first | refine AK.ret (L' := L) (F' := F) Tryz.results117 rfl subA (hT ?_) | refine AK.ret (L' := L) (F' := F) Tryz.results117 rfl subA (hF ?_)
                first
                | exact made_refs hkids (by omega) (by first | exact fun _ => c36 | exact fun h => absurd c32 h) (by first | exact fun h _ => absurd c42 h | exact fun _ h => absurd c46 h | exact fun _ _ => List.eq_nil_of_length_eq_zero (by omega)) ((madeK_8 c119).2 ⟨c122, c126⟩)
                | exact made_noK (fun e => c126 ((madeK_8 c119).1 e).2)
                | exact made_noK (fun e => c122 ((madeK_8 c119).1 e).1)
              ·refine AL.go (AO.assign rfl rfl (AL.nil (AK.seqN (AC.condF rfl (AC.seq (AC.region ?_))))))
               refine AL.go (AO.eql rfl rfl rfl (fun c129 => ?_) (fun c129 => ?_))
               ·refine AL.go (AO.assign rfl rfl (AL.nil (AK.seqN (AC.condT rfl (AC.seq (AC.region ?_))))))
                refine AL.go (AO.field rfl rfl ?_)
                refine AL.go (AO.loadB rfl rfl ?_)
                refine AL.go (AO.geq rfl rfl rfl (fun c132 => ?_) (fun c132 => ?_))
                ·refine AL.go (AO.move rfl rfl (AL.yes rfl rfl (AO.field rfl rfl ?_)))
                 refine AL.yes rfl rfl (AO.loadB rfl rfl ?_)
                 refine AL.yes rfl rfl (AO.lss rfl rfl rfl (fun c136 => ?_) (fun c136 => ?_))
                 ·refine AL.go (AO.pickT rfl rfl rfl (AL.go (AO.move rfl rfl (AL.yes rfl rfl (AO.move rfl rfl ?_)))))
                  refine AL.yes rfl rfl (AO.eql rfl rfl rfl (fun c140 => ?_) (fun c140 => ?_))
                  ·refine AL.go (AO.pickT rfl rfl rfl (AL.go (AO.assign rfl rfl (AL.nil (AK.seqN (AC.ret (AK.blkR ?_)))))))
                   refine AK.seqR ?_
                   first | refine AK.ret (L' := L) (F' := F) Tryz.results117 rfl subA (hT ?_) | refine AK.ret (L' := L) (F' := F) Tryz.results117 rfl subA (hF ?_)
                   first
                   | exact made_refs hkids (by omega) (by first | exact fun _ => c36 | exact fun h => absurd c32 h) (by first | exact fun h _ => absurd c42 h | exact fun _ h => absurd c46 h | exact fun _ _ => List.eq_nil_of_length_eq_zero (by omega)) ((madeK_9 c129).2 (by omega))
                   | (refine made_noK (fun e => ?_); have e := (madeK_9 c129).1 e; omega)
                  ·refine AL.go (AO.pickT rfl rfl rfl (AL.go (AO.assign rfl rfl (AL.nil (AK.seqN (AC.ret (AK.blkR ?_)))))))
                   refine AK.seqR ?_
                   first | refine AK.ret (L' := L) (F' := F) Tryz.results117 rfl subA (hT ?_) | refine AK.ret (L' := L) (F' := F) Tryz.results117 rfl subA (hF ?_)
                   first
                   | exact made_refs hkids (by omega) (by first | exact fun _ => c36 | exact fun h => absurd c32 h) (by first | exact fun h _ => absurd c42 h | exact fun _ h => absurd c46 h | exact fun _ _ => List.eq_nil_of_length_eq_zero (by omega)) ((madeK_9 c129).2 (by omega))
                   | (refine made_noK (fun e => ?_); have e := (madeK_9 c129).1 e; omega)
                 ·refine AL.go (AO.pickT rfl rfl rfl (AL.go (AO.move rfl rfl (AL.no rfl rfl rfl rfl (AL.no rfl rfl rfl rfl (AL.go (AO.pickF rfl rfl rfl (AL.go (AO.assign rfl rfl ?_)))))))))
                  refine AL.nil (AK.seqN (AC.ret (AK.blkR (AK.seqR ?_))))
                  first | refine AK.ret (L' := L) (F' := F) Tryz.results117 rfl subA (hT ?_) | refine AK.ret (L' := L) (F' := F) Tryz.results117 rfl subA (hF ?_)
                  first
                  | exact made_refs hkids (by omega) (by first | exact fun _ => c36 | exact fun h => absurd c32 h) (by first | exact fun h _ => absurd c42 h | exact fun _ h => absurd c46 h | exact fun _ _ => List.eq_nil_of_length_eq_zero (by omega)) ((madeK_9 c129).2 (by omega))
                  | (refine made_noK (fun e => ?_); have e := (madeK_9 c129).1 e; omega)
                ·refine AL.go (AO.move rfl rfl (AL.no rfl rfl rfl rfl (AL.no rfl rfl rfl rfl (AL.no rfl rfl rfl rfl (AL.go (AO.pickF rfl rfl rfl (AL.go (AO.move rfl rfl ?_))))))))
                 refine AL.no rfl rfl rfl rfl (AL.no rfl rfl rfl rfl (AL.go (AO.pickF rfl rfl rfl (AL.go (AO.assign rfl rfl (AL.nil (AK.seqN ?_)))))))
                 refine AC.ret (AK.blkR (AK.seqR ?_))
                 first | refine AK.ret (L' := L) (F' := F) Tryz.results117 rfl subA (hT ?_) | refine AK.ret (L' := L) (F' := F) Tryz.results117 rfl subA (hF ?_)
                 first
                 | exact made_refs hkids (by omega) (by first | exact fun _ => c36 | exact fun h => absurd c32 h) (by first | exact fun h _ => absurd c42 h | exact fun _ h => absurd c46 h | exact fun _ _ => List.eq_nil_of_length_eq_zero (by omega)) ((madeK_9 c129).2 (by omega))
                 | (refine made_noK (fun e => ?_); have e := (madeK_9 c129).1 e; omega)
               ·refine AL.go (AO.assign rfl rfl (AL.nil (AK.seqN (AC.condF rfl (AC.skip (AK.blkN ?_))))))
                refine AK.seqN (AC.seq (AC.region (AL.go (AO.assign rfl rfl (AL.nil (AK.seqN ?_))))))
                refine AC.ret ?_
                first | refine AK.ret (L' := L) (F' := F) Tryz.results117 rfl subA (hT ?_) | refine AK.ret (L' := L) (F' := F) Tryz.results117 rfl subA (hF ?_)
                first
                | exact made_long (by omega)
                | exact made_kid hql (by omega)
                | exact made_noname c32 c36
                | exact made_nowords c42 c46 (by omega)
                | exact made_noK (madeK_no c58 c59 c68 c82 c91 c105 c114 c119 c129)
     ·refine AL.yes rfl rfl (AO.move rfl rfl (AL.no rfl rfl rfl rfl (AL.no rfl rfl rfl rfl (AL.no rfl rfl rfl rfl (AL.yes rfl rfl (AO.pickF rfl rfl rfl (AL.yes rfl rfl (AO.move rfl rfl ?_))))))))
      refine AL.no rfl rfl rfl rfl (AL.no rfl rfl rfl rfl (AL.no rfl rfl rfl rfl (AL.no rfl rfl rfl rfl (AL.yes rfl rfl (AO.pickF rfl rfl rfl (AL.go (AO.pickF rfl rfl rfl ?_)))))))
      refine AL.nil (AK.seqN (AC.condF rfl (AC.skip (AK.seqN (AC.seq ?_)))))
      refine AC.seq (AC.region (AL.go (AO.field rfl rfl ?_)))
      refine AL.go (AO.loadB rfl rfl ?_)
      refine AL.nil (AK.seqN (AC.block (AC.seq (AC.seq (AC.region ?_)))))
      refine AL.go (AO.eql rfl rfl rfl (fun c58 => ?_) (fun c58 => ?_))
      ·refine AL.go (AO.assign rfl rfl (AL.nil (AK.seqN (AC.condT rfl (AC.skip (AK.seqN ?_))))))
       refine AC.condT rfl (AC.seq (AC.region (AL.go (AO.field rfl rfl ?_))))
       refine AL.go (AO.loadB rfl rfl ?_)
       refine AL.go (AO.eql rfl rfl rfl (fun c62 => ?_) (fun c62 => ?_))
       ·refine AL.go (AO.move rfl rfl (AL.yes rfl rfl (AO.move rfl rfl ?_)))
        refine AL.yes rfl rfl (AO.eql rfl rfl rfl (fun c65 => ?_) (fun c65 => ?_))
        ·refine AL.go (AO.pickT rfl rfl rfl (AL.go (AO.assign rfl rfl (AL.nil (AK.seqN (AC.ret (AK.blkR ?_)))))))
         refine AK.seqR ?_
         first | refine AK.ret (L' := L) (F' := F) Tryz.results117 rfl subA (hT ?_) | refine AK.ret (L' := L) (F' := F) Tryz.results117 rfl subA (hF ?_)
         first
         | exact made_refs hkids (by omega) (by first | exact fun _ => c36 | exact fun h => absurd c32 h) (by first | exact fun h _ => absurd c42 h | exact fun _ h => absurd c46 h | exact fun _ _ => List.eq_nil_of_length_eq_zero (by omega)) ((madeK_1 c58).2 (by omega))
         | (refine made_noK (fun e => ?_); have e := (madeK_1 c58).1 e; omega)
        ·refine AL.go (AO.pickT rfl rfl rfl (AL.go (AO.assign rfl rfl (AL.nil (AK.seqN (AC.ret (AK.blkR ?_)))))))
         refine AK.seqR ?_
         first | refine AK.ret (L' := L) (F' := F) Tryz.results117 rfl subA (hT ?_) | refine AK.ret (L' := L) (F' := F) Tryz.results117 rfl subA (hF ?_)
         first
         | exact made_refs hkids (by omega) (by first | exact fun _ => c36 | exact fun h => absurd c32 h) (by first | exact fun h _ => absurd c42 h | exact fun _ h => absurd c46 h | exact fun _ _ => List.eq_nil_of_length_eq_zero (by omega)) ((madeK_1 c58).2 (by omega))
         | (refine made_noK (fun e => ?_); have e := (madeK_1 c58).1 e; omega)
       ·refine AL.go (AO.move rfl rfl (AL.no rfl rfl rfl rfl (AL.no rfl rfl rfl rfl (AL.go (AO.pickF rfl rfl rfl (AL.go (AO.assign rfl rfl (AL.nil ?_))))))))
        refine AK.seqN (AC.ret (AK.blkR (AK.seqR ?_)))
        first | refine AK.ret (L' := L) (F' := F) Tryz.results117 rfl subA (hT ?_) | refine AK.ret (L' := L) (F' := F) Tryz.results117 rfl subA (hF ?_)
        first
        | exact made_refs hkids (by omega) (by first | exact fun _ => c36 | exact fun h => absurd c32 h) (by first | exact fun h _ => absurd c42 h | exact fun _ h => absurd c46 h | exact fun _ _ => List.eq_nil_of_length_eq_zero (by omega)) ((madeK_1 c58).2 (by omega))
        | (refine made_noK (fun e => ?_); have e := (madeK_1 c58).1 e; omega)
      ·refine AL.go (AO.assign rfl rfl (AL.nil (AK.seqN (AC.condF rfl (AC.region ?_)))))
       refine AL.go (AO.eql rfl rfl rfl (fun c59 => ?_) (fun c59 => ?_))
       ·refine AL.go (AO.assign rfl rfl (AL.nil (AK.seqN (AC.condT rfl (AC.seq (AC.region ?_))))))
        refine AL.go (AO.field rfl rfl ?_)
        refine AL.go (AO.loadB rfl rfl ?_)
        refine AL.go (AO.eql rfl rfl rfl (fun c62 => ?_) (fun c62 => ?_))
        ·refine AL.go (AO.move rfl rfl (AL.yes rfl rfl (AO.move rfl rfl ?_)))
         refine AL.yes rfl rfl (AO.eql rfl rfl rfl (fun c65 => ?_) (fun c65 => ?_))
         ·refine AL.go (AO.pickT rfl rfl rfl (AL.go (AO.assign rfl rfl (AL.nil (AK.seqN (AC.ret (AK.blkR ?_)))))))
          refine AK.seqR ?_
          first | refine AK.ret (L' := L) (F' := F) Tryz.results117 rfl subA (hT ?_) | refine AK.ret (L' := L) (F' := F) Tryz.results117 rfl subA (hF ?_)
          first
          | exact made_refs hkids (by omega) (by first | exact fun _ => c36 | exact fun h => absurd c32 h) (by first | exact fun h _ => absurd c42 h | exact fun _ h => absurd c46 h | exact fun _ _ => List.eq_nil_of_length_eq_zero (by omega)) ((madeK_2 c59).2 (by omega))
          | (refine made_noK (fun e => ?_); have e := (madeK_2 c59).1 e; omega)
         ·refine AL.go (AO.pickT rfl rfl rfl (AL.go (AO.assign rfl rfl (AL.nil (AK.seqN (AC.ret (AK.blkR ?_)))))))
          refine AK.seqR ?_
          first | refine AK.ret (L' := L) (F' := F) Tryz.results117 rfl subA (hT ?_) | refine AK.ret (L' := L) (F' := F) Tryz.results117 rfl subA (hF ?_)
          first
          | exact made_refs hkids (by omega) (by first | exact fun _ => c36 | exact fun h => absurd c32 h) (by first | exact fun h _ => absurd c42 h | exact fun _ h => absurd c46 h | exact fun _ _ => List.eq_nil_of_length_eq_zero (by omega)) ((madeK_2 c59).2 (by omega))
          | (refine made_noK (fun e => ?_); have e := (madeK_2 c59).1 e; omega)
        ·refine AL.go (AO.move rfl rfl (AL.no rfl rfl rfl rfl (AL.no rfl rfl rfl rfl (AL.go (AO.pickF rfl rfl rfl (AL.go (AO.assign rfl rfl (AL.nil ?_))))))))
         refine AK.seqN (AC.ret (AK.blkR (AK.seqR ?_)))
         first | refine AK.ret (L' := L) (F' := F) Tryz.results117 rfl subA (hT ?_) | refine AK.ret (L' := L) (F' := F) Tryz.results117 rfl subA (hF ?_)
         first
         | exact made_refs hkids (by omega) (by first | exact fun _ => c36 | exact fun h => absurd c32 h) (by first | exact fun h _ => absurd c42 h | exact fun _ h => absurd c46 h | exact fun _ _ => List.eq_nil_of_length_eq_zero (by omega)) ((madeK_2 c59).2 (by omega))
         | (refine made_noK (fun e => ?_); have e := (madeK_2 c59).1 e; omega)
       ·refine AL.go (AO.assign rfl rfl (AL.nil (AK.seqN (AC.condF rfl (AC.seq (AC.region ?_))))))
        refine AL.go (AO.eql rfl rfl rfl (fun c68 => ?_) (fun c68 => ?_))
        ·refine AL.go (AO.assign rfl rfl (AL.nil (AK.seqN (AC.condT rfl (AC.seq (AC.region ?_))))))
         refine AL.go (AO.field rfl rfl ?_)
         refine AL.go (AO.loadB rfl rfl ?_)
         refine AL.go (AO.geq rfl rfl rfl (fun c71 => ?_) (fun c71 => ?_))
         ·refine AL.go (AO.move rfl rfl (AL.yes rfl rfl (AO.field rfl rfl ?_)))
          refine AL.yes rfl rfl (AO.loadB rfl rfl ?_)
          refine AL.yes rfl rfl (AO.leq rfl rfl rfl (fun c75 => ?_) (fun c75 => ?_))
          ·refine AL.go (AO.pickT rfl rfl rfl (AL.go (AO.move rfl rfl (AL.yes rfl rfl (AO.move rfl rfl ?_)))))
           refine AL.yes rfl rfl (AO.eql rfl rfl rfl (fun c79 => ?_) (fun c79 => ?_))
           ·refine AL.go (AO.pickT rfl rfl rfl (AL.go (AO.assign rfl rfl (AL.nil (AK.seqN (AC.ret (AK.blkR ?_)))))))
            refine AK.seqR ?_
            first | refine AK.ret (L' := L) (F' := F) Tryz.results117 rfl subA (hT ?_) | refine AK.ret (L' := L) (F' := F) Tryz.results117 rfl subA (hF ?_)
            first
            | exact made_refs hkids (by omega) (by first | exact fun _ => c36 | exact fun h => absurd c32 h) (by first | exact fun h _ => absurd c42 h | exact fun _ h => absurd c46 h | exact fun _ _ => List.eq_nil_of_length_eq_zero (by omega)) ((madeK_3 c68).2 (by omega))
            | (refine made_noK (fun e => ?_); have e := (madeK_3 c68).1 e; omega)
           ·refine AL.go (AO.pickT rfl rfl rfl (AL.go (AO.assign rfl rfl (AL.nil (AK.seqN (AC.ret (AK.blkR ?_)))))))
            refine AK.seqR ?_
            first | refine AK.ret (L' := L) (F' := F) Tryz.results117 rfl subA (hT ?_) | refine AK.ret (L' := L) (F' := F) Tryz.results117 rfl subA (hF ?_)
            first
            | exact made_refs hkids (by omega) (by first | exact fun _ => c36 | exact fun h => absurd c32 h) (by first | exact fun h _ => absurd c42 h | exact fun _ h => absurd c46 h | exact fun _ _ => List.eq_nil_of_length_eq_zero (by omega)) ((madeK_3 c68).2 (by omega))
            | (refine made_noK (fun e => ?_); have e := (madeK_3 c68).1 e; omega)
          ·refine AL.go (AO.pickT rfl rfl rfl (AL.go (AO.move rfl rfl (AL.no rfl rfl rfl rfl (AL.no rfl rfl rfl rfl (AL.go (AO.pickF rfl rfl rfl (AL.go (AO.assign rfl rfl ?_)))))))))
           refine AL.nil (AK.seqN (AC.ret (AK.blkR (AK.seqR ?_))))
           first | refine AK.ret (L' := L) (F' := F) Tryz.results117 rfl subA (hT ?_) | refine AK.ret (L' := L) (F' := F) Tryz.results117 rfl subA (hF ?_)
           first
           | exact made_refs hkids (by omega) (by first | exact fun _ => c36 | exact fun h => absurd c32 h) (by first | exact fun h _ => absurd c42 h | exact fun _ h => absurd c46 h | exact fun _ _ => List.eq_nil_of_length_eq_zero (by omega)) ((madeK_3 c68).2 (by omega))
           | (refine made_noK (fun e => ?_); have e := (madeK_3 c68).1 e; omega)
         ·refine AL.go (AO.move rfl rfl (AL.no rfl rfl rfl rfl (AL.no rfl rfl rfl rfl (AL.no rfl rfl rfl rfl (AL.go (AO.pickF rfl rfl rfl (AL.go (AO.move rfl rfl ?_))))))))
          refine AL.no rfl rfl rfl rfl (AL.no rfl rfl rfl rfl (AL.go (AO.pickF rfl rfl rfl (AL.go (AO.assign rfl rfl (AL.nil (AK.seqN ?_)))))))
          refine AC.ret (AK.blkR (AK.seqR ?_))
          first | refine AK.ret (L' := L) (F' := F) Tryz.results117 rfl subA (hT ?_) | refine AK.ret (L' := L) (F' := F) Tryz.results117 rfl subA (hF ?_)
          first
          | exact made_refs hkids (by omega) (by first | exact fun _ => c36 | exact fun h => absurd c32 h) (by first | exact fun h _ => absurd c42 h | exact fun _ h => absurd c46 h | exact fun _ _ => List.eq_nil_of_length_eq_zero (by omega)) ((madeK_3 c68).2 (by omega))
          | (refine made_noK (fun e => ?_); have e := (madeK_3 c68).1 e; omega)
        ·refine AL.go (AO.assign rfl rfl (AL.nil (AK.seqN (AC.condF rfl (AC.seq (AC.region ?_))))))
         refine AL.go (AO.eql rfl rfl rfl (fun c82 => ?_) (fun c82 => ?_))
         ·refine AL.go (AO.assign rfl rfl (AL.nil (AK.seqN (AC.condT rfl (AC.seq (AC.region ?_))))))
          refine AL.go (AO.field rfl rfl ?_)
          refine AL.go (AO.loadB rfl rfl ?_)
          refine AL.go (AO.eql rfl rfl rfl (fun c85 => ?_) (fun c85 => ?_))
          ·refine AL.go (AO.move rfl rfl (AL.yes rfl rfl (AO.move rfl rfl ?_)))
           refine AL.yes rfl rfl (AO.eql rfl rfl rfl (fun c88 => ?_) (fun c88 => ?_))
           ·refine AL.go (AO.pickT rfl rfl rfl (AL.go (AO.assign rfl rfl (AL.nil (AK.seqN (AC.ret (AK.blkR ?_)))))))
            refine AK.seqR ?_
            first | refine AK.ret (L' := L) (F' := F) Tryz.results117 rfl subA (hT ?_) | refine AK.ret (L' := L) (F' := F) Tryz.results117 rfl subA (hF ?_)
            first
            | exact made_refs hkids (by omega) (by first | exact fun _ => c36 | exact fun h => absurd c32 h) (by first | exact fun h _ => absurd c42 h | exact fun _ h => absurd c46 h | exact fun _ _ => List.eq_nil_of_length_eq_zero (by omega)) ((madeK_4 c82).2 (by omega))
            | (refine made_noK (fun e => ?_); have e := (madeK_4 c82).1 e; omega)
           ·refine AL.go (AO.pickT rfl rfl rfl (AL.go (AO.assign rfl rfl (AL.nil (AK.seqN (AC.ret (AK.blkR ?_)))))))
            refine AK.seqR ?_
            first | refine AK.ret (L' := L) (F' := F) Tryz.results117 rfl subA (hT ?_) | refine AK.ret (L' := L) (F' := F) Tryz.results117 rfl subA (hF ?_)
            first
            | exact made_refs hkids (by omega) (by first | exact fun _ => c36 | exact fun h => absurd c32 h) (by first | exact fun h _ => absurd c42 h | exact fun _ h => absurd c46 h | exact fun _ _ => List.eq_nil_of_length_eq_zero (by omega)) ((madeK_4 c82).2 (by omega))
            | (refine made_noK (fun e => ?_); have e := (madeK_4 c82).1 e; omega)
          ·refine AL.go (AO.move rfl rfl (AL.no rfl rfl rfl rfl (AL.no rfl rfl rfl rfl (AL.go (AO.pickF rfl rfl rfl (AL.go (AO.assign rfl rfl (AL.nil ?_))))))))
           refine AK.seqN (AC.ret (AK.blkR (AK.seqR ?_)))
           first | refine AK.ret (L' := L) (F' := F) Tryz.results117 rfl subA (hT ?_) | refine AK.ret (L' := L) (F' := F) Tryz.results117 rfl subA (hF ?_)
           first
           | exact made_refs hkids (by omega) (by first | exact fun _ => c36 | exact fun h => absurd c32 h) (by first | exact fun h _ => absurd c42 h | exact fun _ h => absurd c46 h | exact fun _ _ => List.eq_nil_of_length_eq_zero (by omega)) ((madeK_4 c82).2 (by omega))
           | (refine made_noK (fun e => ?_); have e := (madeK_4 c82).1 e; omega)
         ·refine AL.go (AO.assign rfl rfl (AL.nil (AK.seqN (AC.condF rfl (AC.seq (AC.region ?_))))))
          refine AL.go (AO.eql rfl rfl rfl (fun c91 => ?_) (fun c91 => ?_))
          ·refine AL.go (AO.assign rfl rfl (AL.nil (AK.seqN (AC.condT rfl (AC.seq (AC.region ?_))))))
           refine AL.go (AO.field rfl rfl ?_)
           refine AL.go (AO.loadB rfl rfl ?_)
           refine AL.go (AO.eql rfl rfl rfl (fun c94 => ?_) (fun c94 => ?_))
           ·refine AL.go (AO.move rfl rfl (AL.no rfl rfl rfl rfl (AL.no rfl rfl rfl rfl (AL.no rfl rfl rfl rfl (AL.no rfl rfl rfl rfl (AL.no rfl rfl rfl rfl ?_))))))
            refine AL.no rfl rfl rfl rfl (AL.no rfl rfl rfl rfl (AL.go (AO.pickT rfl rfl rfl (AL.go (AO.assign rfl rfl (AL.nil (AK.seqN ?_)))))))
            refine AC.ret (AK.blkR (AK.seqR ?_))
            first | refine AK.ret (L' := L) (F' := F) Tryz.results117 rfl subA (hT ?_) | refine AK.ret (L' := L) (F' := F) Tryz.results117 rfl subA (hF ?_)
            first
            | exact made_refs hkids (by omega) (by first | exact fun _ => c36 | exact fun h => absurd c32 h) (by first | exact fun h _ => absurd c42 h | exact fun _ h => absurd c46 h | exact fun _ _ => List.eq_nil_of_length_eq_zero (by omega)) ((madeK_5 c91).2 (by omega))
            | (refine made_noK (fun e => ?_); have e := (madeK_5 c91).1 e; omega)
           ·refine AL.go (AO.move rfl rfl (AL.yes rfl rfl (AO.field rfl rfl ?_)))
            refine AL.yes rfl rfl (AO.loadB rfl rfl ?_)
            refine AL.yes rfl rfl (AO.eql rfl rfl rfl (fun c98 => ?_) (fun c98 => ?_))
            ·refine AL.yes rfl rfl (AO.move rfl rfl (AL.yes rfl rfl (AO.move rfl rfl ?_)))
             refine AL.yes rfl rfl (AO.gtr rfl rfl rfl (fun c101 => ?_) (fun c101 => ?_))
             ·refine AL.yes rfl rfl (AO.pickT rfl rfl rfl (AL.go (AO.pickF rfl rfl rfl (AL.go (AO.assign rfl rfl (AL.nil (AK.seqN (AC.ret ?_))))))))
              refine AK.blkR (AK.seqR ?_)
              first | refine AK.ret (L' := L) (F' := F) Tryz.results117 rfl subA (hT ?_) | refine AK.ret (L' := L) (F' := F) Tryz.results117 rfl subA (hF ?_)
              first
              | exact made_refs hkids (by omega) (by first | exact fun _ => c36 | exact fun h => absurd c32 h) (by first | exact fun h _ => absurd c42 h | exact fun _ h => absurd c46 h | exact fun _ _ => List.eq_nil_of_length_eq_zero (by omega)) ((madeK_5 c91).2 (by omega))
              | (refine made_noK (fun e => ?_); have e := (madeK_5 c91).1 e; omega)
             ·refine AL.yes rfl rfl (AO.pickT rfl rfl rfl (AL.go (AO.pickF rfl rfl rfl (AL.go (AO.assign rfl rfl (AL.nil (AK.seqN (AC.ret ?_))))))))
              refine AK.blkR (AK.seqR ?_)
              first | refine AK.ret (L' := L) (F' := F) Tryz.results117 rfl subA (hT ?_) | refine AK.ret (L' := L) (F' := F) Tryz.results117 rfl subA (hF ?_)
              first
              | exact made_refs hkids (by omega) (by first | exact fun _ => c36 | exact fun h => absurd c32 h) (by first | exact fun h _ => absurd c42 h | exact fun _ h => absurd c46 h | exact fun _ _ => List.eq_nil_of_length_eq_zero (by omega)) ((madeK_5 c91).2 (by omega))
              | (refine made_noK (fun e => ?_); have e := (madeK_5 c91).1 e; omega)
            ·refine AL.yes rfl rfl (AO.move rfl rfl (AL.no rfl rfl rfl rfl (AL.no rfl rfl rfl rfl (AL.yes rfl rfl (AO.pickF rfl rfl rfl (AL.go (AO.pickF rfl rfl rfl (AL.go (AO.assign rfl rfl ?_)))))))))
             refine AL.nil (AK.seqN (AC.ret (AK.blkR (AK.seqR ?_))))
             first | refine AK.ret (L' := L) (F' := F) Tryz.results117 rfl subA (hT ?_) | refine AK.ret (L' := L) (F' := F) Tryz.results117 rfl subA (hF ?_)
             first
             | exact made_refs hkids (by omega) (by first | exact fun _ => c36 | exact fun h => absurd c32 h) (by first | exact fun h _ => absurd c42 h | exact fun _ h => absurd c46 h | exact fun _ _ => List.eq_nil_of_length_eq_zero (by omega)) ((madeK_5 c91).2 (by omega))
             | (refine made_noK (fun e => ?_); have e := (madeK_5 c91).1 e; omega)
          ·refine AL.go (AO.assign rfl rfl (AL.nil (AK.seqN (AC.condF rfl (AC.seq (AC.region ?_))))))
           refine AL.go (AO.eql rfl rfl rfl (fun c105 => ?_) (fun c105 => ?_))
           ·refine AL.go (AO.assign rfl rfl (AL.nil (AK.seqN (AC.condT rfl (AC.seq (AC.region ?_))))))
            refine AL.go (AO.field rfl rfl ?_)
            refine AL.go (AO.loadB rfl rfl ?_)
            refine AL.go (AO.eql rfl rfl rfl (fun c108 => ?_) (fun c108 => ?_))
            ·refine AL.go (AO.move rfl rfl ?_)
             refine AL.yes rfl rfl (AO.loadBA rfl rfl ?_)
             refine AL.yes rfl rfl (AO.call rfl rfl (rfields_c t ht memA memA (fun c111 => ?_) (fun c111 => ?_)))
             ·refine AL.go (AO.pickT rfl rfl rfl (AL.go (AO.assign rfl rfl (AL.nil (AK.seqN (AC.ret (AK.blkR ?_)))))))
              refine AK.seqR ?_
              first | refine AK.ret (L' := L) (F' := F) Tryz.results117 rfl subA (hT ?_) | refine AK.ret (L' := L) (F' := F) Tryz.results117 rfl subA (hF ?_)
              first
              | exact made_refs hkids (by omega) (by first | exact fun _ => c36 | exact fun h => absurd c32 h) (by first | exact fun h _ => absurd c42 h | exact fun _ h => absurd c46 h | exact fun _ _ => List.eq_nil_of_length_eq_zero (by omega)) ((madeK_6 c105).2 ⟨c108, c111.1, c111.2⟩)
              | exact made_noK (fun e => c111 ⟨((madeK_6 c105).1 e).2.1, ((madeK_6 c105).1 e).2.2⟩)
              | exact made_noK (fun e => c108 ((madeK_6 c105).1 e).1)
             ·refine AL.go (AO.pickT rfl rfl rfl (AL.go (AO.assign rfl rfl (AL.nil (AK.seqN (AC.ret (AK.blkR ?_)))))))
              refine AK.seqR ?_
              first | refine AK.ret (L' := L) (F' := F) Tryz.results117 rfl subA (hT ?_) | refine AK.ret (L' := L) (F' := F) Tryz.results117 rfl subA (hF ?_)
              first
              | exact made_refs hkids (by omega) (by first | exact fun _ => c36 | exact fun h => absurd c32 h) (by first | exact fun h _ => absurd c42 h | exact fun _ h => absurd c46 h | exact fun _ _ => List.eq_nil_of_length_eq_zero (by omega)) ((madeK_6 c105).2 ⟨c108, c111.1, c111.2⟩)
              | exact made_noK (fun e => c111 ⟨((madeK_6 c105).1 e).2.1, ((madeK_6 c105).1 e).2.2⟩)
              | exact made_noK (fun e => c108 ((madeK_6 c105).1 e).1)
            ·refine AL.go (AO.move rfl rfl (AL.no rfl rfl rfl rfl (AL.no rfl rfl rfl rfl (AL.go (AO.pickF rfl rfl rfl (AL.go (AO.assign rfl rfl (AL.nil ?_))))))))
             refine AK.seqN (AC.ret (AK.blkR (AK.seqR ?_)))
             first | refine AK.ret (L' := L) (F' := F) Tryz.results117 rfl subA (hT ?_) | refine AK.ret (L' := L) (F' := F) Tryz.results117 rfl subA (hF ?_)
             first
             | exact made_refs hkids (by omega) (by first | exact fun _ => c36 | exact fun h => absurd c32 h) (by first | exact fun h _ => absurd c42 h | exact fun _ h => absurd c46 h | exact fun _ _ => List.eq_nil_of_length_eq_zero (by omega)) ((madeK_6 c105).2 ⟨c108, c111.1, c111.2⟩)
             | exact made_noK (fun e => c111 ⟨((madeK_6 c105).1 e).2.1, ((madeK_6 c105).1 e).2.2⟩)
             | exact made_noK (fun e => c108 ((madeK_6 c105).1 e).1)
           ·refine AL.go (AO.assign rfl rfl (AL.nil (AK.seqN (AC.condF rfl (AC.seq (AC.region ?_))))))
            refine AL.go (AO.eql rfl rfl rfl (fun c114 => ?_) (fun c114 => ?_))
            ·refine AL.go (AO.assign rfl rfl (AL.nil (AK.seqN (AC.condT rfl (AC.seq (AC.region ?_))))))
             refine AL.go (AO.move rfl rfl ?_)
             refine AL.go (AO.loadBA rfl rfl ?_)
             refine AL.go (AO.call rfl rfl (relems_c l t ht hkids memA memA memA (fun c117 => ?_) (fun c117 => ?_)))
             ·refine AL.go (AO.assign rfl rfl (AL.nil (AK.seqN (AC.ret (AK.blkR (AK.seqR ?_))))))
              first | refine AK.ret (L' := L) (F' := F) Tryz.results117 rfl subA (hT ?_) | refine AK.ret (L' := L) (F' := F) Tryz.results117 rfl subA (hF ?_)
              first
              | exact made_refs hkids (by omega) (by first | exact fun _ => c36 | exact fun h => absurd c32 h) (by first | exact fun h _ => absurd c42 h | exact fun _ h => absurd c46 h | exact fun _ _ => List.eq_nil_of_length_eq_zero (by omega)) ((madeK_7 c114).2 c117)
              | exact made_noK (fun e => c117 ((madeK_7 c114).1 e))
             ·refine AL.go (AO.assign rfl rfl (AL.nil (AK.seqN (AC.ret (AK.blkR (AK.seqR ?_))))))
              first | refine AK.ret (L' := L) (F' := F) Tryz.results117 rfl subA (hT ?_) | refine AK.ret (L' := L) (F' := F) Tryz.results117 rfl subA (hF ?_)
              first
              | exact made_refs hkids (by omega) (by first | exact fun _ => c36 | exact fun h => absurd c32 h) (by first | exact fun h _ => absurd c42 h | exact fun _ h => absurd c46 h | exact fun _ _ => List.eq_nil_of_length_eq_zero (by omega)) ((madeK_7 c114).2 c117)
              | exact made_noK (fun e => c117 ((madeK_7 c114).1 e))
            ·refine AL.go (AO.assign rfl rfl (AL.nil (AK.seqN (AC.condF rfl (AC.seq (AC.region ?_))))))
             refine AL.go (AO.eql rfl rfl rfl (fun c119 => ?_) (fun c119 => ?_))
             ·refine AL.go (AO.assign rfl rfl (AL.nil (AK.seqN (AC.condT rfl (AC.seq (AC.region ?_))))))
              refine AL.go (AO.field rfl rfl ?_)
              refine AL.go (AO.loadB rfl rfl ?_)
              refine AL.go (AO.eql rfl rfl rfl (fun c122 => ?_) (fun c122 => ?_))
              ·refine AL.go (AO.move rfl rfl (AL.yes rfl rfl (AO.field rfl rfl ?_)))
               refine AL.yes rfl rfl (AO.loadB rfl rfl ?_)
               refine AL.yes rfl rfl (AO.call rfl rfl (rnamed_c t.name (by omega) (fun c126 => ?_) (fun c126 => ?_)))
               ·refine AL.go (AO.pickT rfl rfl rfl (AL.go (AO.assign rfl rfl (AL.nil (AK.seqN (AC.ret (AK.blkR ?_)))))))
                refine AK.seqR ?_
                first | refine AK.ret (L' := L) (F' := F) Tryz.results117 rfl subA (hT ?_) | refine AK.ret (L' := L) (F' := F) Tryz.results117 rfl subA (hF ?_)
                first
                | exact made_refs hkids (by omega) (by first | exact fun _ => c36 | exact fun h => absurd c32 h) (by first | exact fun h _ => absurd c42 h | exact fun _ h => absurd c46 h | exact fun _ _ => List.eq_nil_of_length_eq_zero (by omega)) ((madeK_8 c119).2 ⟨c122, c126⟩)
                | exact made_noK (fun e => c126 ((madeK_8 c119).1 e).2)
                | exact made_noK (fun e => c122 ((madeK_8 c119).1 e).1)
               ·refine AL.go (AO.pickT rfl rfl rfl (AL.go (AO.assign rfl rfl (AL.nil (AK.seqN (AC.ret (AK.blkR ?_)))))))
                refine AK.seqR ?_
                first | refine AK.ret (L' := L) (F' := F) Tryz.results117 rfl subA (hT ?_) | refine AK.ret (L' := L) (F' := F) Tryz.results117 rfl subA (hF ?_)
                first
                | exact made_refs hkids (by omega) (by first | exact fun _ => c36 | exact fun h => absurd c32 h) (by first | exact fun h _ => absurd c42 h | exact fun _ h => absurd c46 h | exact fun _ _ => List.eq_nil_of_length_eq_zero (by omega)) ((madeK_8 c119).2 ⟨c122, c126⟩)
                | exact made_noK (fun e => c126 ((madeK_8 c119).1 e).2)
                | exact made_noK (fun e => c122 ((madeK_8 c119).1 e).1)
              ·refine AL.go (AO.move rfl rfl (AL.no rfl rfl rfl rfl (AL.no rfl rfl rfl rfl (AL.no rfl rfl rfl rfl (AL.go (AO.pickF rfl rfl rfl (AL.go (AO.assign rfl rfl ?_))))))))
               refine AL.nil (AK.seqN (AC.ret (AK.blkR (AK.seqR ?_))))
               first | refine AK.ret (L' := L) (F' := F) Tryz.results117 rfl subA (hT ?_) | refine AK.ret (L' := L) (F' := F) Tryz.results117 rfl subA (hF ?_)
               first
               | exact made_refs hkids (by omega) (by first | exact fun _ => c36 | exact fun h => absurd c32 h) (by first | exact fun h _ => absurd c42 h | exact fun _ h => absurd c46 h | exact fun _ _ => List.eq_nil_of_length_eq_zero (by omega)) ((madeK_8 c119).2 ⟨c122, c126⟩)
               | exact made_noK (fun e => c126 ((madeK_8 c119).1 e).2)
               | exact made_noK (fun e => c122 ((madeK_8 c119).1 e).1)
             ·refine AL.go (AO.assign rfl rfl (AL.nil (AK.seqN (AC.condF rfl (AC.seq (AC.region ?_))))))
              refine AL.go (AO.eql rfl rfl rfl (fun c129 => ?_) (fun c129 => ?_))
              ·refine AL.go (AO.assign rfl rfl (AL.nil (AK.seqN (AC.condT rfl (AC.seq (AC.region ?_))))))
               refine AL.go (AO.field rfl rfl ?_)
               refine AL.go (AO.loadB rfl rfl ?_)
               refine AL.go (AO.geq rfl rfl rfl (fun c132 => ?_) (fun c132 => ?_))
               ·refine AL.go (AO.move rfl rfl (AL.yes rfl rfl (AO.field rfl rfl ?_)))
                refine AL.yes rfl rfl (AO.loadB rfl rfl ?_)
                refine AL.yes rfl rfl (AO.lss rfl rfl rfl (fun c136 => ?_) (fun c136 => ?_))
                ·refine AL.go (AO.pickT rfl rfl rfl (AL.go (AO.move rfl rfl (AL.yes rfl rfl (AO.move rfl rfl ?_)))))
                 refine AL.yes rfl rfl (AO.eql rfl rfl rfl (fun c140 => ?_) (fun c140 => ?_))
                 ·refine AL.go (AO.pickT rfl rfl rfl (AL.go (AO.assign rfl rfl (AL.nil (AK.seqN (AC.ret (AK.blkR ?_)))))))
                  refine AK.seqR ?_
                  first | refine AK.ret (L' := L) (F' := F) Tryz.results117 rfl subA (hT ?_) | refine AK.ret (L' := L) (F' := F) Tryz.results117 rfl subA (hF ?_)
                  first
                  | exact made_refs hkids (by omega) (by first | exact fun _ => c36 | exact fun h => absurd c32 h) (by first | exact fun h _ => absurd c42 h | exact fun _ h => absurd c46 h | exact fun _ _ => List.eq_nil_of_length_eq_zero (by omega)) ((madeK_9 c129).2 (by omega))
                  | (refine made_noK (fun e => ?_); have e := (madeK_9 c129).1 e; omega)
                 ·refine AL.go (AO.pickT rfl rfl rfl (AL.go (AO.assign rfl rfl (AL.nil (AK.seqN (AC.ret (AK.blkR ?_)))))))
                  refine AK.seqR ?_
                  first | refine AK.ret (L' := L) (F' := F) Tryz.results117 rfl subA (hT ?_) | refine AK.ret (L' := L) (F' := F) Tryz.results117 rfl subA (hF ?_)
                  first
                  | exact made_refs hkids (by omega) (by first | exact fun _ => c36 | exact fun h => absurd c32 h) (by first | exact fun h _ => absurd c42 h | exact fun _ h => absurd c46 h | exact fun _ _ => List.eq_nil_of_length_eq_zero (by omega)) ((madeK_9 c129).2 (by omega))
                  | (refine made_noK (fun e => ?_); have e := (madeK_9 c129).1 e; omega)
                ·refine AL.go (AO.pickT rfl rfl rfl (AL.go (AO.move rfl rfl (AL.no rfl rfl rfl rfl (AL.no rfl rfl rfl rfl (AL.go (AO.pickF rfl rfl rfl (AL.go (AO.assign rfl rfl ?_)))))))))
                 refine AL.nil (AK.seqN (AC.ret (AK.blkR (AK.seqR ?_))))
                 first | refine AK.ret (L' := L) (F' := F) Tryz.results117 rfl subA (hT ?_) | refine AK.ret (L' := L) (F' := F) Tryz.results117 rfl subA (hF ?_)
                 first
                 | exact made_refs hkids (by omega) (by first | exact fun _ => c36 | exact fun h => absurd c32 h) (by first | exact fun h _ => absurd c42 h | exact fun _ h => absurd c46 h | exact fun _ _ => List.eq_nil_of_length_eq_zero (by omega)) ((madeK_9 c129).2 (by omega))
                 | (refine made_noK (fun e => ?_); have e := (madeK_9 c129).1 e; omega)
               ·refine AL.go (AO.move rfl rfl (AL.no rfl rfl rfl rfl (AL.no rfl rfl rfl rfl (AL.no rfl rfl rfl rfl (AL.go (AO.pickF rfl rfl rfl (AL.go (AO.move rfl rfl ?_))))))))
                refine AL.no rfl rfl rfl rfl (AL.no rfl rfl rfl rfl (AL.go (AO.pickF rfl rfl rfl (AL.go (AO.assign rfl rfl (AL.nil (AK.seqN ?_)))))))
                refine AC.ret (AK.blkR (AK.seqR ?_))
                first | refine AK.ret (L' := L) (F' := F) Tryz.results117 rfl subA (hT ?_) | refine AK.ret (L' := L) (F' := F) Tryz.results117 rfl subA (hF ?_)
                first
                | exact made_refs hkids (by omega) (by first | exact fun _ => c36 | exact fun h => absurd c32 h) (by first | exact fun h _ => absurd c42 h | exact fun _ h => absurd c46 h | exact fun _ _ => List.eq_nil_of_length_eq_zero (by omega)) ((madeK_9 c129).2 (by omega))
                | (refine made_noK (fun e => ?_); have e := (madeK_9 c129).1 e; omega)
              ·refine AL.go (AO.assign rfl rfl (AL.nil (AK.seqN (AC.condF rfl (AC.skip (AK.blkN ?_))))))
               refine AK.seqN (AC.seq (AC.region (AL.go (AO.assign rfl rfl (AL.nil (AK.seqN ?_))))))
               refine AC.ret ?_
               first | refine AK.ret (L' := L) (F' := F) Tryz.results117 rfl subA (hT ?_) | refine AK.ret (L' := L) (F' := F) Tryz.results117 rfl subA (hF ?_)
               first
               | exact made_long (by omega)
               | exact made_kid hql (by omega)
               | exact made_noname c32 c36
               | exact made_nowords c42 c46 (by omega)
               | exact made_noK (madeK_no c58 c59 c68 c82 c91 c105 c114 c119 c129)
theorem rat_c (l : List Ty) (t : Ty) {a1 a2 a3 : Option Addr} {k1 c1 k2 c2 k3 c3 : Nat} (m1 : fW t a1 k1 c1 ∈ F) (m2 : fK t a2 k2 c2 ∈ F) (m3 : fL l a3 k3 c3 ∈ F)
    (h : ∀ i, atP l t i → R (.int .i64 i) L F) : ACalls Tryz.prog W0 118 #[.slice a3 k3 c3, vTy t a1 k1 c1 a2 k2 c2] L F R := by
  refine ACalls.body Tryz.func118 rfl Tryz.ntmps118 rfl ?_
  refine AC.seq (AC.region (AL.go (AO.box rfl rfl (fun b3 => ?_))))
  refine AL.go (AO.assign rfl rfl (AL.nil (AK.seqN (AC.seq (AC.seq (AC.region ?_))))))
  refine AL.go (AO.move rfl rfl ?_)
  refine AL.go (AO.len rfl rfl (fun hl8 => ?_) (hm := by repeat (first | exact mem0 | assumption | refine memS ?_)))
  refine AL.go (AO.move rfl rfl (AL.nil (AK.seqN (AC.block ?_))))
  refine AC.loopC (fun (q : Nat) => q ≤ l.length ∧ ∀ j (hj : j < l.length), j < q → l[j] ≠ t) (fun q => [(3, .pointer (some ⟨b3, 0, none⟩)), (7, .slice a3 k3 c3), (8, .int .i64 l.length), (9, .int .i64 (q : Int))]) (fun q => l.length - q) 0 ⟨by omega, by omega⟩ srA ?_
  rintro q ⟨hq, hok⟩
  refine AC.seq (AC.region ?_)
  refine AL.go (AO.lss rfl rfl rfl (fun c10 => ?_) (fun c10 => ?_))
  ·refine AL.nil (AK.seqN (AC.seq (AC.condT rfl (AC.skip (AK.seqN ?_)))))
   refine AC.seq (AC.block (AC.seq (AC.region (AL.go (AO.move rfl rfl ?_)))))
   have hql : q < l.length := by omega
   refine AL.go (AO.indexAddr rfl rfl rfl rfl memA hql (fun _ _ => ?_))
   refine AL.go (AO.loadFA rfl rfl ?_)
   intro a13 k13 z13 d13 e13 f13
   refine AL.go (AO.alloc rfl (fun b6 => ?_))
   refine AL.go (AO.assign rfl rfl ?_)
   refine AL.go (AO.storeBA rfl rfl rfl rfl ?_)
   refine AL.nil (AK.seqN (AC.seq (AC.region ?_)))
   refine AL.go (AO.loadBA rfl rfl ?_)
   refine AL.go (AO.loadBA rfl rfl ?_)
   refine AL.go (AO.call rfl rfl (ref_Like_c l[q] t (fun c16 => ?_) (fun c16 => ?_) memA memA memA memA))
   ·refine AL.nil (AK.seqN (AC.condT rfl (AC.seq (AC.region (AL.go (AO.move rfl rfl ?_))))))
    refine AL.go (AO.assign rfl rfl (AL.nil (AK.seqN (AC.ret (AK.blkR (AK.seqR ?_))))))
    refine AK.seqR (AK.blkR (AK.seqR ?_))
    first | exact AK.ret (L' := L) (F' := F) Tryz.results118 rfl subA (h _ (Or.inr ⟨q, hql, rfl, c16, hok⟩)) | exact AK.ret (L' := L) (F' := F) Tryz.results118 rfl subA (h _ (Or.inl ⟨rfl, at_no (fun j hj => hok j hj (by omega))⟩))
   ·refine AL.nil (AK.seqN (AC.condF rfl (AC.skip (AK.blkN (AK.seqN ?_)))))
    refine AC.region (AL.go (AO.add rfl rfl rfl (by omega) (by omega) (AL.go (AO.move rfl rfl (AL.nil ?_)))))
    refine AK.next (q + 1) ⟨by omega, ?_⟩ (by omega) srA (Sub.drop.trans subF)
    intro j hj hjq
    rcases Nat.lt_succ_iff_lt_or_eq.1 hjq with k9 | rfl
    · exact hok j hj k9
    · exact c16
  ·refine AL.nil (AK.seqN (AC.seq (AC.condF rfl (AC.exit (AK.seqX ?_)))))
   refine AK.seqX (AK.blkX (AK.seqN (AC.seq (AC.region (AL.go (AO.assign rfl rfl ?_))))))
   refine AL.nil (AK.seqN (AC.ret ?_))
   first | exact AK.ret (L' := L) (F' := F) Tryz.results118 rfl subA (h _ (Or.inr ⟨q, hql, rfl, c16, hok⟩)) | exact AK.ret (L' := L) (F' := F) Tryz.results118 rfl subA (h _ (Or.inl ⟨rfl, at_no (fun j hj => hok j hj (by omega))⟩))
theorem rnames_c (h : ∀ b, R (.slice (some ⟨b, 0, none⟩) 20 20) L (.slc (.slice (some ⟨b, 0, none⟩) 20 20) 1 (startNames.map eS) :: F)) : ACalls Tryz.prog W0 108 #[] L F R := by
  refine ACalls.body Tryz.func108 rfl Tryz.ntmps108 rfl ?_
  refine AC.seq (AC.region (AL.go (AO.assign rfl rfl (AL.nil (AK.seqN (AC.seq ?_))))))
  refine AC.region ?_
  refine AL.go (AO.buildSlice rfl rfl rfl rfl rfl (fun b4 => ?_))
  refine AT.sub (Sub.trans (Sub.lit (i := 0) (enc := eS) (sz := 1) startNames rfl (cells_S startNames) (fun _ => rfl) rfl (by decide)) Sub.drop) ?_
  refine AL.go (AO.assign rfl rfl (AL.nil (AK.seqN (AC.ret ?_))))
  exact AK.ret Tryz.results108 rfl (Sub.refl _ _) (h _)
theorem rstart_c (h : ∀ a k c, R (.slice a k c) L (fL startL a k c :: F)) : ACalls Tryz.prog W0 50 #[] L F R := by
  refine ACalls.body Tryz.func50 rfl Tryz.ntmps50 rfl ?_
  refine AC.seq (AC.region (AL.go (AO.assign rfl rfl (AL.nil (AK.seqN (AC.seq ?_))))))
  refine AC.region ?_
  refine AL.go (AO.buildSlice0 rfl (fun b4 => ?_))
  refine AT.sub (Sub.trans (Sub.toOwn (i := 0) (k := 0) (sz := 5) (enc := eTy) [] rfl .nil (fun _ => rfl) rfl (by decide)) (Sub.nilF (sz := 1))) ?_
  refine AL.go (AO.assign rfl rfl (AL.nil (AK.seqN (AC.seq (AC.seq (AC.region ?_))))))
  refine AL.go (AO.call rfl rfl (rnames_c (fun b5 => ?_)))
  refine AL.go (AO.len rfl rfl (fun hl6 => ?_) (hm := by repeat (first | exact mem0 | assumption | refine memS ?_)))
  refine AL.go (AO.move rfl rfl (AL.nil (AK.seqN (AC.block ?_))))
  refine AC.loop (fun (i : Nat × Option Addr × Nat × Nat) => i.1 ≤ startNames.length) (fun i => [(1, .slice i.2.1 i.2.2.1 i.2.2.2), (5, .slice (some ⟨b5, 0, none⟩) 20 20), (6, .int .i64 startNames.length), (7, .int .i64 (i.1 : Int))]) (fun i => Res.own (.slice i.2.1 i.2.2.1 i.2.2.2) 29 5 (((startNames.take i.1).map basicT).map eTy) :: L) (fun _ => _) (fun i => startNames.length - i.1) (0, some ⟨b4, 0, none⟩, 0, 0) (by simp) srA (Sub.refl _ _) ?_
  rintro ⟨q, a1, k1, c1⟩ hq
  simp only at hq ⊢
  refine AC.seq (AC.region ?_)
  refine AL.go (AO.lss rfl rfl rfl (fun c8 => ?_) (fun c8 => ?_))
  ·refine AL.nil (AK.seqN (AC.seq (AC.condT rfl (AC.skip (AK.seqN ?_)))))
   refine AC.seq (AC.block (AC.seq (AC.region ?_)))
   have hql : q < startNames.length := by omega
   have hnl := names_len
   have htl : ((startNames.take q).map basicT).length = q := by simp; omega
   refine AL.go (AO.indexAddr rfl rfl rfl rfl memA hql (fun _ _ => ?_))
   refine AL.go (AO.loadF rfl rfl ?_)
   intros
   refine AL.go (AO.assign rfl rfl (AL.nil (AK.seqN (AC.region (AL.go (AO.move rfl rfl (AL.go (AO.move rfl rfl ?_))))))))
   refine AL.go (AO.build rfl rfl rfl ?_)
   refine AL.go (AO.buildSlice rfl rfl rfl rfl rfl (fun b13 => ?_))
   refine AL.go (AO.append (i := 0) (enc := eTy) (lst := (startNames.take q).map basicT) [basicT startNames[q]] rfl rfl rfl rfl (.val (.val (.val (.slc (.slc .nil memA) memA)))) rfl rfl (fun _ => rfl) (by rw [htl]; simp [maxLen]; omega) (by rw [htl]; omega) (fun a14 k14 c14 => ?_))
   rw [basic_step hql]
   refine AL.go (AO.assign rfl rfl (AL.nil (AK.blkN (AK.seqN (AC.region (AL.go (AO.add rfl rfl rfl (by omega) (by omega) ?_)))))))
   refine AL.go (AO.move rfl rfl (AL.nil ?_))
   refine AK.next (q + 1, a14, k14, c14) (by simp only; omega) (by simp only; omega) srA subF
  ·refine AL.nil (AK.seqN (AC.seq (AC.condF rfl (AC.exit (AK.seqX ?_)))))
   refine AK.seqX (AK.blkX (AK.seqN (AC.seq (AC.region ?_))))
   refine AL.go (AO.move rfl rfl ?_)
   have hall : startNames.take q = startNames := List.take_of_length_le (by omega)
   rw [hall]
   refine AL.go (AO.build rfl rfl rfl ?_)
   refine AL.go (AO.build rfl rfl rfl ?_)
   refine AL.go (AO.buildSlice rfl rfl rfl rfl rfl (fun b19 => ?_))
   refine AL.go (AO.append (i := 0) (enc := eTy) (lst := startNames.map basicT) [⟨7, [], 0, [], []⟩, ⟨7, [], 1, [], []⟩] rfl rfl rfl rfl (.val (.val (.val (.slc (.slc (.val (.val (.val (.slc (.slc .nil memA) memA)))) memA) memA)))) rfl rfl (fun _ => rfl) (by decide) (by decide) (fun a20 k20 c20 => ?_))
   refine AL.go (AO.assign rfl rfl (AL.nil (AK.seqN (AC.seq (AC.region (AL.go (AO.move rfl rfl ?_)))))))
   refine AL.go (AO.assign rfl rfl (AL.nil (AK.seqN (AC.ret ?_))))
   refine AK.ret (L' := L) (F' := fL startL a20 k20 c20 :: F) Tryz.results50 rfl ?_ (h _ _ _)
   exact (Sub.commit (i := 0) rfl).trans (Sub.drop.trans (Sub.headF (fun x hx => by repeat (first | exact hx | refine List.mem_cons_of_mem _ ?_))))
theorem rright_c (l : List Ty) (hok : ∀ t ∈ l, TyOk t) {a : Option Addr} {k c : Nat} (m1 : fL l a k c ∈ F) (hT : rightP l → R (.bool true) L F) (hF : ¬ rightP l → R (.bool false) L F) : ACalls Tryz.prog W0 63 #[.slice a k c] L F R := by
  refine ACalls.body Tryz.func63 rfl Tryz.ntmps63 rfl ?_
  refine AC.seq (AC.region (AL.go (AO.assign rfl rfl (AL.nil (AK.seqN (AC.seq ?_))))))
  refine AC.region ?_
  refine AL.go (AO.call rfl rfl (rstart_c (fun a8 k8 c8 => ?_)))
  have hsl := start_len
  refine AL.go (AO.assign rfl rfl (AL.nil (AK.seqN (AC.seq (AC.seq (AC.region ?_))))))
  refine AL.go (AO.move rfl rfl ?_)
  refine AL.go (AO.len rfl rfl (fun hl8 => ?_) (hm := by repeat (first | exact mem0 | assumption | refine memS ?_)))
  refine AL.go (AO.move rfl rfl ?_)
  refine AL.go (AO.len rfl rfl (fun hl10 => ?_) (hm := by repeat (first | exact mem0 | assumption | refine memS ?_)))
  refine AL.go (AO.lss rfl rfl rfl (fun c11 => ?_) (fun c11 => ?_))
  ·refine AL.go (AO.move rfl rfl (AL.no rfl rfl rfl rfl (AL.no rfl rfl rfl rfl (AL.no rfl rfl rfl rfl (AL.go (AO.pickT rfl rfl rfl (AL.nil ?_)))))))
   refine AK.seqN (AC.condT rfl (AC.seq (AC.region (AL.go (AO.assign rfl rfl (AL.nil ?_))))))
   refine AK.seqN (AC.ret (AK.seqR ?_))
   first | refine AK.ret (L' := L) (F' := F) Tryz.results63 rfl subA (hT ?_) | refine AK.ret (L' := L) (F' := F) Tryz.results63 rfl subA (hF ?_)
   first
   | exact fun e => absurd e.2.1 (by omega)
   | exact fun e => absurd e.1 (by omega)
   | exact fun e => row_unlike e hql hq8 c33
   | exact fun e => row_nomade e hql (by omega) c39
   | exact fun e => right_once e q hql (at_in c46 (by omega))
   | exact ⟨by omega, by omega, fun i hi => hrow i hi (by omega)⟩
  ·refine AL.go (AO.move rfl rfl (AL.yes rfl rfl (AO.move rfl rfl ?_)))
   refine AL.yes rfl rfl (AO.len rfl rfl (fun hl14 => ?_) (hm := by repeat (first | exact mem0 | assumption | refine memS ?_)))
   refine AL.yes rfl rfl (AO.gtr rfl rfl rfl (fun c15 => ?_) (fun c15 => ?_))
   ·refine AL.go (AO.pickF rfl rfl rfl (AL.nil (AK.seqN (AC.condT rfl (AC.seq (AC.region ?_))))))
    refine AL.go (AO.assign rfl rfl (AL.nil (AK.seqN (AC.ret (AK.seqR ?_)))))
    first | refine AK.ret (L' := L) (F' := F) Tryz.results63 rfl subA (hT ?_) | refine AK.ret (L' := L) (F' := F) Tryz.results63 rfl subA (hF ?_)
    first
    | exact fun e => absurd e.2.1 (by omega)
    | exact fun e => absurd e.1 (by omega)
    | exact fun e => row_unlike e hql hq8 c33
    | exact fun e => row_nomade e hql (by omega) c39
    | exact fun e => right_once e q hql (at_in c46 (by omega))
    | exact ⟨by omega, by omega, fun i hi => hrow i hi (by omega)⟩
   ·refine AL.go (AO.pickF rfl rfl rfl (AL.nil (AK.seqN (AC.condF rfl (AC.skip (AK.seqN ?_))))))
    refine AC.seq (AC.seq (AC.region (AL.go (AO.move rfl rfl ?_))))
    refine AL.go (AO.len rfl rfl (fun hl18 => ?_) (hm := by repeat (first | exact mem0 | assumption | refine memS ?_)))
    refine AL.go (AO.move rfl rfl (AL.nil (AK.seqN (AC.block ?_))))
    refine AC.loopC (fun (q : Nat) => q ≤ l.length ∧ ∀ j (hj : j < l.length), j < q → rowAt l j hj) (fun q => [(0, .slice a k c), (3, .slice a8 k8 c8), (17, .slice a k c), (18, .int .i64 l.length), (19, .int .i64 (q : Int))]) (fun q => l.length - q) 0 ⟨by omega, by omega⟩ srA ?_
    rintro q ⟨hq, hrow⟩
    refine AC.seq (AC.region ?_)
    refine AL.go (AO.lss rfl rfl rfl (fun c20 => ?_) (fun c20 => ?_))
    ·refine AL.nil (AK.seqN (AC.seq (AC.condT rfl (AC.skip (AK.seqN ?_)))))
     refine AC.seq (AC.block (AC.seq (AC.region (AL.go (AO.move rfl rfl ?_)))))
     have hql : q < l.length := by omega
     refine AL.go (AO.indexAddr rfl rfl rfl rfl memA hql (fun _ _ => ?_))
     refine AL.go (AO.loadFA rfl rfl ?_)
     intro a26 k26 z26 d26 e26 f26
     refine AL.go (AO.alloc rfl (fun b5 => ?_))
     refine AL.go (AO.assign rfl rfl ?_)
     refine AL.go (AO.storeBA rfl rfl rfl rfl ?_)
     refine AL.nil (AK.seqN (AC.seq (AC.region (AL.go (AO.move rfl rfl (AL.go (AO.move rfl rfl ?_)))))))
     refine AL.go (AO.len rfl rfl (fun hl26 => ?_) (hm := by repeat (first | exact mem0 | assumption | refine memS ?_)))
     refine AL.go (AO.lss rfl rfl rfl (fun c27 => ?_) (fun c27 => ?_))
     ·refine AL.nil (AK.seqN (AC.condT rfl (AC.seq ?_)))
      refine AC.draw (fun _ => false) [(b5, _, _)] bxA rfl (fun hx hX => ?_)
      have hl8 := (len_of_fact (hX (fL startL a8 k8 c8) memA)).1
      have hq8 : q < startL.length := by omega
      obtain ⟨p1, o1, rfl, at1⟩ := row_of_fact (hX (fL startL a8 k8 c8) memA) hq8
      obtain ⟨w1, x1, y1, w2, x2, y2, hv1, hw1, hw2⟩ := ty_cells at1
      refine AH.fact hw1 memA (AH.fact hw2 memA ?_)
      refine AH.takeS (i := 0) rfl (Y.loadBA rfl lmA (by rfl)) (by kernel_rfl) (by kernel_rfl) rfl rfl rfl ?_
      refine AH.takeW (i := 1) rfl (Y.move rfl) (by kernel_rfl) rfl rfl ?_
      refine AH.takeW (i := 2) rfl (Y.move rfl) (by kernel_rfl) rfl rfl ?_
      refine AH.takeW (i := 3) rfl (Y.indexAddr rfl rfl rfl (by omega)) (by kernel_rfl) rfl rfl ?_
      refine AH.takeS (i := 4) rfl (Y.loadFA rfl rfl hv1) (by kernel_rfl) (by kernel_rfl) rfl rfl rfl ?_
      refine AH.one (i := 5) (by kernel_rfl) rfl rfl (fun _ => ?_)
      refine AO.call rfl rfl (ref_Like_c l[q] startL[q] (fun c33 => ?_) (fun c33 => ?_) memA memA memA memA)
      all_goals refine AT.held bxA memB ?_
      ·refine AH.takeW (i := 6) rfl (Y.not rfl) (by kernel_rfl) rfl rfl ?_
       refine AH.done (by kernel_rfl) ?_
       refine AK.seqN (AC.condF rfl (AC.skip (AK.blkN (AK.seqN (AC.region ?_)))))
       refine AL.go (AO.add rfl rfl rfl (by omega) (by omega) (AL.go (AO.move rfl rfl (AL.nil ?_))))
       first
       | refine AK.next (q + 1) ⟨by omega, rows_step hrow hql (row_like hql hq8 c33)⟩ (by omega) srA (Sub.drop.trans subF)
       | refine AK.next (q + 1) ⟨by omega, rows_step hrow hql (row_made hql (by omega) c39 (at_out c46 (by omega)))⟩ (by omega) srA (Sub.drop.trans subF)
      ·refine AH.takeW (i := 6) rfl (Y.not rfl) (by kernel_rfl) rfl rfl ?_
       refine AH.done (by kernel_rfl) ?_
       refine AK.seqN (AC.condT rfl (AC.seq (AC.region (AL.go (AO.assign rfl rfl (AL.nil ?_))))))
       refine AK.seqN (AC.ret (AK.blkR (AK.seqR (AK.seqR (AK.blkR ?_)))))
       refine AK.seqR ?_
       first | refine AK.ret (L' := L) (F' := F) Tryz.results63 rfl subA (hT ?_) | refine AK.ret (L' := L) (F' := F) Tryz.results63 rfl subA (hF ?_)
       first
       | exact fun e => absurd e.2.1 (by omega)
       | exact fun e => absurd e.1 (by omega)
       | exact fun e => row_unlike e hql hq8 c33
       | exact fun e => row_nomade e hql (by omega) c39
       | exact fun e => right_once e q hql (at_in c46 (by omega))
       | exact ⟨by omega, by omega, fun i hi => hrow i hi (by omega)⟩
     ·refine AL.nil (AK.seqN (AC.condF rfl (AC.seq ?_)))
      refine AC.draw (fun _ => false) [(b5, _, _)] bxA rfl (fun hx hX => ?_)
      have hll := (len_of_fact (hX (fL l a k c) memA)).1
      have hlc := (len_of_fact (hX (fL l a k c) memA)).2
      refine AH.weak (Sub.part (enc := eTy) (lst := l) 0 q c (show fL l a k c ∈ _ from memA) (by omega) (by omega) (by omega) (by omega)) ?_
      refine AH.takeW (i := 0) rfl (Y.move rfl) (by kernel_rfl) rfl rfl ?_
      refine AH.takeW (i := 1) rfl (Y.move rfl) (by kernel_rfl) rfl rfl ?_
      refine AH.takeW (i := 2) rfl (Y.sliceH rfl rfl rfl (by omega)) (by kernel_rfl) rfl rfl ?_
      refine AH.takeS (i := 3) rfl (Y.loadBA rfl lmA (by rfl)) (by kernel_rfl) (by kernel_rfl) rfl rfl rfl ?_
      refine AH.one (i := 4) (by kernel_rfl) rfl rfl (fun _ => ?_)
      refine AO.call rfl rfl (rmade_c (l.take q) l[q] (hok _ (List.getElem_mem hql)) memA memA memA (fun c39 => ?_) (fun c39 => ?_))
      all_goals refine AT.held bxA memB ?_
      ·refine AH.takeW (i := 5) rfl (Y.not rfl) (by kernel_rfl) rfl rfl ?_
       refine AH.takeW (i := 6) rfl (Y.move rfl) (by kernel_rfl) rfl rfl ?_
       refine AH.takeW (i := 7) rfl (Y.move rfl) (by kernel_rfl) rfl rfl ?_
       refine AH.takeW (i := 8) rfl (Y.move rfl) (by kernel_rfl) rfl rfl ?_
       refine AH.takeW (i := 9) rfl (Y.sliceH rfl rfl rfl (by omega)) (by kernel_rfl) rfl rfl ?_
       refine AH.takeS (i := 10) rfl (Y.loadBA rfl lmA (by rfl)) (by kernel_rfl) (by kernel_rfl) rfl rfl rfl ?_
       refine AH.one (i := 11) (by kernel_rfl) rfl rfl (fun _ => ?_)
       refine AO.call rfl rfl (rat_c (l.take q) l[q] memA memA memA (fun i46 c46 => ?_))
       refine AT.held bxA memB ?_
       refine AH.takeB (i := 12) rfl (Y.geq rfl rfl) (by kernel_rfl) rfl rfl (fun c47 => ?_) (fun c47 => ?_)
       ·replace c47 := of_decide_eq_true c47
        refine AH.takeW (i := 13) rfl (Y.pickF rfl rfl) (by kernel_rfl) rfl rfl ?_
        refine AH.done (by kernel_rfl) ?_
        refine AK.seqN (AC.condT rfl (AC.seq (AC.region (AL.go (AO.assign rfl rfl (AL.nil ?_))))))
        refine AK.seqN (AC.ret (AK.blkR (AK.seqR (AK.seqR (AK.blkR ?_)))))
        refine AK.seqR ?_
        first | refine AK.ret (L' := L) (F' := F) Tryz.results63 rfl subA (hT ?_) | refine AK.ret (L' := L) (F' := F) Tryz.results63 rfl subA (hF ?_)
        first
        | exact fun e => absurd e.2.1 (by omega)
        | exact fun e => absurd e.1 (by omega)
        | exact fun e => row_unlike e hql hq8 c33
        | exact fun e => row_nomade e hql (by omega) c39
        | exact fun e => right_once e q hql (at_in c46 (by omega))
        | exact ⟨by omega, by omega, fun i hi => hrow i hi (by omega)⟩
       ·replace c47 := of_decide_eq_false c47
        refine AH.takeW (i := 13) rfl (Y.pickF rfl rfl) (by kernel_rfl) rfl rfl ?_
        refine AH.done (by kernel_rfl) ?_
        refine AK.seqN (AC.condF rfl (AC.skip (AK.blkN (AK.seqN (AC.region ?_)))))
        refine AL.go (AO.add rfl rfl rfl (by omega) (by omega) (AL.go (AO.move rfl rfl (AL.nil ?_))))
        first
        | refine AK.next (q + 1) ⟨by omega, rows_step hrow hql (row_like hql hq8 c33)⟩ (by omega) srA (Sub.drop.trans subF)
        | refine AK.next (q + 1) ⟨by omega, rows_step hrow hql (row_made hql (by omega) c39 (at_out c46 (by omega)))⟩ (by omega) srA (Sub.drop.trans subF)
      ·refine AH.takeW (i := 5) rfl (Y.not rfl) (by kernel_rfl) rfl rfl ?_
       refine AH.takeW (i := 6) rfl (Y.move rfl) (by kernel_rfl) rfl rfl ?_
       refine AH.skip (i := 7) rfl (by kernel_rfl) rfl rfl ?_
       refine AH.skip (i := 8) rfl (by kernel_rfl) rfl rfl ?_
       refine AH.skip (i := 9) rfl (by kernel_rfl) rfl rfl ?_
       refine AH.skip (i := 10) rfl (by kernel_rfl) rfl rfl ?_
       refine AH.skip (i := 11) rfl (by kernel_rfl) rfl rfl ?_
       refine AH.skip (i := 12) rfl (by kernel_rfl) rfl rfl ?_
       refine AH.takeW (i := 13) rfl (Y.pickT rfl rfl) (by kernel_rfl) rfl rfl ?_
       refine AH.done (by kernel_rfl) ?_
       refine AK.seqN (AC.condT rfl (AC.seq (AC.region (AL.go (AO.assign rfl rfl (AL.nil ?_))))))
       refine AK.seqN (AC.ret (AK.blkR (AK.seqR (AK.seqR (AK.blkR ?_)))))
       refine AK.seqR ?_
       first | refine AK.ret (L' := L) (F' := F) Tryz.results63 rfl subA (hT ?_) | refine AK.ret (L' := L) (F' := F) Tryz.results63 rfl subA (hF ?_)
       first
       | exact fun e => absurd e.2.1 (by omega)
       | exact fun e => absurd e.1 (by omega)
       | exact fun e => row_unlike e hql hq8 c33
       | exact fun e => row_nomade e hql (by omega) c39
       | exact fun e => right_once e q hql (at_in c46 (by omega))
       | exact ⟨by omega, by omega, fun i hi => hrow i hi (by omega)⟩
    ·refine AL.nil (AK.seqN (AC.seq (AC.condF rfl (AC.exit (AK.seqX ?_)))))
     refine AK.seqX (AK.blkX (AK.seqN (AC.seq (AC.region (AL.go (AO.assign rfl rfl ?_))))))
     refine AL.nil (AK.seqN (AC.ret ?_))
     first | refine AK.ret (L' := L) (F' := F) Tryz.results63 rfl subA (hT ?_) | refine AK.ret (L' := L) (F' := F) Tryz.results63 rfl subA (hF ?_)
     first
     | exact fun e => absurd e.2.1 (by omega)
     | exact fun e => absurd e.1 (by omega)
     | exact fun e => row_unlike e hql hq8 c33
     | exact fun e => row_nomade e hql (by omega) c39
     | exact fun e => right_once e q hql (at_in c46 (by omega))
     | exact ⟨by omega, by omega, fun i hi => hrow i hi (by omega)⟩
end
end Go.Sy
