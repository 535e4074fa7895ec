/- The document's words of interfaces, and names with a point: the walks. -/
import Derived.Test.YthbngbiodamndaaDoorTyA
namespace Go.Sy
open Go Go.Proofs Go.RowKit

theorem cutD_at {c : UInt8} : ∀ {s : List UInt8} {i : Nat} (hi : i < s.length) (_ : s[i] = c) (_ : ∀ j (hj : j < s.length), j < i → s[j] ≠ c), cutD c s = (s.take i, s.drop (i + 1), true)
  | [], i, hi, _, _ => by simp at hi
  | b :: s, 0, hi, h, _ => by
    simp only [List.getElem_cons_zero] at h
    simp [cutD, h]
  | b :: s, i + 1, hi, h, hb => by
    have hb0 := hb 0 (by simp) (by omega)
    simp only [List.getElem_cons_zero] at hb0
    have ih := cutD_at (s := s) (i := i) (by simpa using hi) (by simpa using h) (fun j hj hji => by have := hb (j + 1) (by simpa using hj) (by omega); simpa using this)
    simp [cutD, hb0, ih]
theorem cutD_none {c : UInt8} : ∀ {s : List UInt8} (_ : ∀ j (hj : j < s.length), s[j] ≠ c), (cutD c s).2.2 = false
  | [], _ => rfl
  | b :: s, hb => by
    have hb0 := hb 0 (by simp)
    simp only [List.getElem_cons_zero] at hb0
    have ih := cutD_none (s := s) (fun j hj => by have := hb (j + 1) (by simpa using hj); simpa using this)
    simp [cutD, hb0, ih]
theorem named_at {s : List UInt8} {i : Nat} (hi : i < s.length) (h : (s[i].toNat : Int) = 46) (hb : ∀ j (hj : j < s.length), j < i → (s[j].toNat : Int) ≠ 46) : namedP s ↔ isName (s.take i) = true ∧ isName (s.drop (i + 1)) = true := by
  have h46 : (46 : UInt8).toNat = 46 := rfl
  unfold namedP
  rw [cutD_at hi (c := 46) (UInt8.toNat_inj.1 (by omega)) (fun j hj hji e => hb j hj hji (by rw [e]; rfl))]
  simp
theorem named_none {s : List UInt8} (hb : ∀ j (hj : j < s.length), (s[j].toNat : Int) ≠ 46) : ¬ namedP s := by
  unfold namedP
  rw [cutD_none (c := 46) (fun j hj e => hb j hj (by rw [e]; rfl))]
  simp

attribute [local irreducible] AC AT AO AK AH ACalls Sub Res.cells Res.obj Res.nix Res.own Res.map Exit.then Exit.inBlock bodyPost Code.wp Next Post Kont
section
variable {W0 : World} {L : List Res} {F : List Fact} {R : Value → List Res → List Fact → Prop}
set_option maxRecDepth 100000
set_option maxHeartbeats 4000000
theorem rnamed_c (s : List UInt8) (hs : s.length < 4294967281) (hT : namedP s → R (.bool true) L F) (hF : ¬ namedP s → R (.bool false) L F) : ACalls Tryd.prog W0 50 #[S s] L F R := by
  refine ACalls.body Tryd.func50 rfl Tryd.ntmps50 rfl ?_
  refine AC.seq (AC.region (AL.go (AO.assign rfl rfl (AL.nil (AK.seqN (AC.seq ?_))))))
  refine AC.seq (AC.region (AL.go (AO.assign rfl rfl (AL.nil (AK.seqN (AC.block ?_))))))
  refine AC.loop (fun k => k ≤ s.length ∧ ∀ j (hj : j < s.length), j < k → (s[j].toNat : Int) ≠ 46) (fun k => [(0, S s), (3, .int .i64 (k : Int))]) (fun _ => L) (fun _ => F) (fun k => s.length - k) 0 ⟨by omega, by omega⟩ (by repeat (first | exact SubR.nil | refine SubR.cons rfl ?_)) (Sub.refl _ _) ?_
  rintro k ⟨hk, hok⟩
  refine AC.seq (AC.seq (AC.region (AL.go (AO.move rfl rfl (AL.go (AO.move rfl rfl (AL.go (AO.lenS rfl rfl ?_))))))))
  refine AL.go (AO.lss rfl rfl rfl (fun c7 => ?_) (fun c7 => ?_))
  · refine AL.nil (AK.seqN (AC.condT rfl (AC.skip (AK.seqN (AC.seq ?_)))))
    refine AC.block (AC.seq (AC.region (AL.go (AO.move rfl rfl (AL.go (AO.move rfl rfl ?_))))))
    have hkl : k < s.length := by omega
    have hl1 : (s.take k).length ≤ s.length := by simp only [List.length_take]; omega
    have hl2 : (s.drop (k + 1)).length ≤ s.length := by simp only [List.length_drop]; omega
    refine AL.go (AO.indexS rfl rfl rfl rfl hkl ?_)
    refine AL.go (AO.eql rfl rfl rfl (fun c13 => ?_) (fun c13 => ?_))
    · refine AL.nil (AK.seqN (AC.condT rfl (AC.seq (AC.region (AL.go (AO.move rfl rfl ?_))))))
      refine AL.go (AO.move rfl rfl ?_)
      refine AL.go (AO.sliceSH (j' := k) rfl rfl rfl rfl (by omega) ?_)
      refine AL.go (AO.call rfl rfl (rname_c (s.take k) (by omega) (fun c17 => ?_) (fun c17 => ?_)))
      · refine AL.go (AO.move rfl rfl (AL.yes rfl rfl (AO.move rfl rfl (AL.yes rfl rfl (AO.move rfl rfl (AL.yes rfl rfl (AO.add rfl rfl rfl (by omega) (by omega) ?_)))))))
        refine AL.yes rfl rfl (AO.sliceSL (i' := k + 1) rfl rfl rfl (by omega) (by omega) ?_)
        refine AL.yes rfl rfl (AO.call rfl rfl (rname_c (s.drop (k + 1)) (by omega) (fun c23 => ?_) (fun c23 => ?_)))
        · refine AL.go (AO.pickT rfl rfl rfl (AL.go (AO.assign rfl rfl (AL.nil (AK.seqN (AC.ret (AK.blkR ?_)))))))
          refine AK.seqR (AK.seqR (AK.blkR (AK.seqR ?_)))
          first | refine AK.ret Tryd.results50 rfl (Sub.refl _ _) (hT ?_) | refine AK.ret Tryd.results50 rfl (Sub.refl _ _) (hF ?_)
          first
          | exact (named_at hkl c13 hok).2 ⟨c17, c23⟩
          | (rw [named_at hkl c13 hok]; exact fun e => absurd e.2 (by rw [c23]; decide))
          | (rw [named_at hkl c13 hok]; exact fun e => absurd e.1 (by rw [c17]; decide))
          | exact named_none (fun j hj => hok j hj (by omega))
        · refine AL.go (AO.pickT rfl rfl rfl (AL.go (AO.assign rfl rfl (AL.nil (AK.seqN (AC.ret (AK.blkR ?_)))))))
          refine AK.seqR (AK.seqR (AK.blkR (AK.seqR ?_)))
          first | refine AK.ret Tryd.results50 rfl (Sub.refl _ _) (hT ?_) | refine AK.ret Tryd.results50 rfl (Sub.refl _ _) (hF ?_)
          first
          | exact (named_at hkl c13 hok).2 ⟨c17, c23⟩
          | (rw [named_at hkl c13 hok]; exact fun e => absurd e.2 (by rw [c23]; decide))
          | (rw [named_at hkl c13 hok]; exact fun e => absurd e.1 (by rw [c17]; decide))
          | exact named_none (fun j hj => hok j hj (by omega))
      · refine AL.go (AO.move rfl rfl (AL.no rfl rfl rfl rfl (AL.no rfl rfl rfl rfl (AL.no rfl rfl rfl rfl (AL.no rfl rfl rfl rfl (AL.no rfl rfl rfl rfl ?_))))))
        refine AL.go (AO.pickF rfl rfl rfl (AL.go (AO.assign rfl rfl (AL.nil (AK.seqN (AC.ret (AK.blkR ?_)))))))
        refine AK.seqR (AK.seqR (AK.blkR (AK.seqR ?_)))
        first | refine AK.ret Tryd.results50 rfl (Sub.refl _ _) (hT ?_) | refine AK.ret Tryd.results50 rfl (Sub.refl _ _) (hF ?_)
        first
        | exact (named_at hkl c13 hok).2 ⟨c17, c23⟩
        | (rw [named_at hkl c13 hok]; exact fun e => absurd e.2 (by rw [c23]; decide))
        | (rw [named_at hkl c13 hok]; exact fun e => absurd e.1 (by rw [c17]; decide))
        | exact named_none (fun j hj => hok j hj (by omega))
    · refine AL.nil (AK.seqN (AC.condF rfl (AC.skip (AK.blkN (AK.seqN ?_)))))
      refine AC.region (AL.go (AO.move rfl rfl (AL.go (AO.add rfl rfl rfl (by omega) (by omega) (AL.go (AO.assign rfl rfl (AL.nil ?_)))))))
      refine AK.next (k + 1) ⟨by omega, ?_⟩ (by omega) (by repeat (first | exact SubR.nil | refine SubR.cons rfl ?_)) (Sub.refl _ _)
      intro j hj hjk
      rcases Nat.lt_succ_iff_lt_or_eq.1 hjk with h | rfl
      · exact hok j hj h
      · exact c13
  · refine AL.nil (AK.seqN (AC.condF rfl (AC.exit (AK.seqX (AK.seqX ?_)))))
    refine AK.blkX (AK.seqN (AC.seq (AC.region (AL.go (AO.assign rfl rfl (AL.nil ?_))))))
    refine AK.seqN (AC.ret ?_)
    first | refine AK.ret Tryd.results50 rfl (Sub.refl _ _) (hT ?_) | refine AK.ret Tryd.results50 rfl (Sub.refl _ _) (hF ?_)
    first
    | exact (named_at hkl c13 hok).2 ⟨c17, c23⟩
    | (rw [named_at hkl c13 hok]; exact fun e => absurd e.2 (by rw [c23]; decide))
    | (rw [named_at hkl c13 hok]; exact fun e => absurd e.1 (by rw [c17]; decide))
    | exact named_none (fun j hj => hok j hj (by omega))
theorem relems_c (l : List Ty) (t : Ty) (ht : TyOk t) (hk : kidsP l t) {a1 a2 a3 : Option Addr} {k1 c1 k2 c2 k3 c3 : Nat} (m1 : fW t a1 k1 c1 ∈ F) (m2 : fK t a2 k2 c2 ∈ F) (m3 : fL l a3 k3 c3 ∈ F)
    (hT : elemsP l t → R (.bool true) L F) (hF : ¬ elemsP l t → R (.bool false) L F) : ACalls Tryd.prog W0 49 #[.slice a3 k3 c3, vTy t a1 k1 c1 a2 k2 c2] L F R := by
  refine ACalls.body Tryd.func49 rfl Tryd.ntmps49 rfl ?_
  refine AC.seq (AC.region (AL.go (AO.box rfl rfl (fun b3 => ?_))))
  refine AL.go (AO.assign rfl rfl (AL.nil (AK.seqN (AC.seq (AC.seq (AC.region ?_))))))
  refine AL.go (AO.field rfl rfl ?_)
  refine AL.go (AO.loadB rfl rfl ?_)
  refine AL.go (AO.len rfl rfl (fun hl10 => ?_) (hm := by repeat (first | exact mem0 | assumption | refine memS ?_)))
  refine AL.go (AO.field rfl rfl ?_)
  refine AL.go (AO.loadB rfl rfl ?_)
  refine AL.go (AO.len rfl rfl (fun hl13 => ?_) (hm := by repeat (first | exact mem0 | assumption | refine memS ?_)))
  refine AL.go (AO.neq rfl rfl rfl (fun c14 => ?_) (fun c14 => ?_))
  · refine AL.go (AO.move rfl rfl (AL.no rfl rfl rfl rfl (AL.no rfl rfl rfl rfl (AL.no rfl rfl rfl rfl (AL.go (AO.pickT rfl rfl rfl (AL.go (AO.move rfl rfl ?_))))))))
    refine AL.no rfl rfl rfl rfl (AL.no rfl rfl rfl rfl (AL.no rfl rfl rfl rfl (AL.go (AO.pickT rfl rfl rfl (AL.nil (AK.seqN ?_))))))
    refine AC.condT rfl (AC.seq (AC.region (AL.go (AO.assign rfl rfl (AL.nil (AK.seqN ?_))))))
    refine AC.ret (AK.seqR ?_)
    first | refine AK.ret (L' := L) (F' := F) Tryd.results49 rfl (by repeat (first | exact Sub.refl _ _ | refine Sub.trans Sub.drop ?_ | refine Sub.trans Sub.dropF ?_)) (hT ?_) | refine AK.ret (L' := L) (F' := F) Tryd.results49 rfl (by repeat (first | exact Sub.refl _ _ | refine Sub.trans Sub.drop ?_ | refine Sub.trans Sub.dropF ?_)) (hF ?_)
    first
    | exact ⟨by omega, by omega, by omega, fun i hi => hok i hi (by omega)⟩
    | exact fun e => absurd e.1 (by omega)
    | exact fun e => absurd e.2.1 (by omega)
    | exact fun e => absurd e.2.2.1 (by omega)
    | (intro e
       have he := e.2.2.2 q hql
       unfold elemAtP at he
       rw [hK, hKid, hKidP, hPrev] at he
       rcases he with ⟨h1, h2, h3, h4, h5, h6⟩ | ⟨h1, h2, h3, h4⟩
       first | exact c39 h1 | exact h3 c49 | exact h4 c57 | (have := h6 (by omega) c76; omega) | omega
       first | exact h1 c39 | exact absurd h2 (by rw [c89]; decide) | exact (h4 (by omega)).1 c108 | exact c97 h3 | exact absurd (h4 (by omega)).2 (by rw [c117]; decide) | omega)
  · refine AL.go (AO.move rfl rfl (AL.yes rfl rfl (AO.field rfl rfl ?_)))
    refine AL.yes rfl rfl (AO.loadB rfl rfl ?_)
    refine AL.yes rfl rfl (AO.lss rfl rfl rfl (fun c18 => ?_) (fun c18 => ?_))
    · refine AL.go (AO.pickF rfl rfl rfl (AL.go (AO.move rfl rfl (AL.no rfl rfl rfl rfl (AL.no rfl rfl rfl rfl (AL.no rfl rfl rfl rfl (AL.go (AO.pickT rfl rfl rfl ?_))))))))
      refine AL.nil (AK.seqN (AC.condT rfl (AC.seq (AC.region (AL.go (AO.assign rfl rfl ?_))))))
      refine AL.nil (AK.seqN (AC.ret (AK.seqR ?_)))
      first | refine AK.ret (L' := L) (F' := F) Tryd.results49 rfl (by repeat (first | exact Sub.refl _ _ | refine Sub.trans Sub.drop ?_ | refine Sub.trans Sub.dropF ?_)) (hT ?_) | refine AK.ret (L' := L) (F' := F) Tryd.results49 rfl (by repeat (first | exact Sub.refl _ _ | refine Sub.trans Sub.drop ?_ | refine Sub.trans Sub.dropF ?_)) (hF ?_)
      first
      | exact ⟨by omega, by omega, by omega, fun i hi => hok i hi (by omega)⟩
      | exact fun e => absurd e.1 (by omega)
      | exact fun e => absurd e.2.1 (by omega)
      | exact fun e => absurd e.2.2.1 (by omega)
      | (intro e
         have he := e.2.2.2 q hql
         unfold elemAtP at he
         rw [hK, hKid, hKidP, hPrev] at he
         rcases he with ⟨h1, h2, h3, h4, h5, h6⟩ | ⟨h1, h2, h3, h4⟩
         first | exact c39 h1 | exact h3 c49 | exact h4 c57 | (have := h6 (by omega) c76; omega) | omega
         first | exact h1 c39 | exact absurd h2 (by rw [c89]; decide) | exact (h4 (by omega)).1 c108 | exact c97 h3 | exact absurd (h4 (by omega)).2 (by rw [c117]; decide) | omega)
    · refine AL.go (AO.pickF rfl rfl rfl (AL.go (AO.move rfl rfl (AL.yes rfl rfl (AO.field rfl rfl ?_)))))
      refine AL.yes rfl rfl (AO.loadB rfl rfl ?_)
      refine AL.yes rfl rfl (AO.gtr rfl rfl rfl (fun c23 => ?_) (fun c23 => ?_))
      · refine AL.go (AO.pickF rfl rfl rfl (AL.nil (AK.seqN (AC.condT rfl (AC.seq (AC.region ?_))))))
        refine AL.go (AO.assign rfl rfl (AL.nil (AK.seqN (AC.ret (AK.seqR ?_)))))
        first | refine AK.ret (L' := L) (F' := F) Tryd.results49 rfl (by repeat (first | exact Sub.refl _ _ | refine Sub.trans Sub.drop ?_ | refine Sub.trans Sub.dropF ?_)) (hT ?_) | refine AK.ret (L' := L) (F' := F) Tryd.results49 rfl (by repeat (first | exact Sub.refl _ _ | refine Sub.trans Sub.drop ?_ | refine Sub.trans Sub.dropF ?_)) (hF ?_)
        first
        | exact ⟨by omega, by omega, by omega, fun i hi => hok i hi (by omega)⟩
        | exact fun e => absurd e.1 (by omega)
        | exact fun e => absurd e.2.1 (by omega)
        | exact fun e => absurd e.2.2.1 (by omega)
        | (intro e
           have he := e.2.2.2 q hql
           unfold elemAtP at he
           rw [hK, hKid, hKidP, hPrev] at he
           rcases he with ⟨h1, h2, h3, h4, h5, h6⟩ | ⟨h1, h2, h3, h4⟩
           first | exact c39 h1 | exact h3 c49 | exact h4 c57 | (have := h6 (by omega) c76; omega) | omega
           first | exact h1 c39 | exact absurd h2 (by rw [c89]; decide) | exact (h4 (by omega)).1 c108 | exact c97 h3 | exact absurd (h4 (by omega)).2 (by rw [c117]; decide) | omega)
      · refine AL.go (AO.pickF rfl rfl rfl (AL.nil (AK.seqN (AC.condF rfl (AC.skip (AK.seqN ?_))))))
        refine AC.seq (AC.seq (AC.region (AL.go (AO.field rfl rfl ?_))))
        refine AL.go (AO.loadB rfl rfl ?_)
        refine AL.go (AO.len rfl rfl (fun hl27 => ?_) (hm := by repeat (first | exact mem0 | assumption | refine memS ?_)))
        refine AL.go (AO.move rfl rfl (AL.nil (AK.seqN (AC.block ?_))))
        refine AC.loopC (fun (q : Nat) => q ≤ t.words.length ∧ ∀ j (hj : j < t.words.length), j < q → elemAtP l t j hj) (fun q => [(0, .slice a3 k3 c3), (3, .pointer (some ⟨b3, 0, none⟩)), (26, .slice a1 k1 c1), (27, .int .i64 t.words.length), (28, .int .i64 (q : Int))]) (fun q => t.words.length - q) 0 ⟨by omega, by omega⟩ (by repeat (first | exact SubR.nil | refine SubR.cons rfl ?_)) ?_
        rintro q ⟨hq, hok⟩
        refine AC.seq (AC.region ?_)
        refine AL.go (AO.lss rfl rfl rfl (fun c29 => ?_) (fun c29 => ?_))
        · refine AL.nil (AK.seqN (AC.seq (AC.condT rfl (AC.skip (AK.seqN ?_)))))
          refine AC.seq (AC.block (AC.seq (AC.region (AL.go (AO.move rfl rfl ?_)))))
          have hql : q < t.words.length := by omega
          have hwl := ht.word _ (List.getElem_mem hql)
          have hqk : q < t.kids.length := by omega
          obtain ⟨hkn, hkl⟩ := kid_nat hk hqk
          have hKid := kid_get hqk
          have hK : kindAt l (kidAt t q) = l[t.kids[q].toNat].kind := by rw [hKid]; exact kind_get hkn hkl
          have hKidP := kid_get (t := t) (i := q - 1) (by omega)
          have hPrev := word_get (ws := t.words) (i := q - 1) (by omega)
          refine AL.go (AO.indexAddr rfl rfl rfl rfl (by repeat (first | exact mem0 | assumption | refine memS ?_)) hql (fun _ _ => ?_))
          refine AL.go (AO.loadF rfl rfl ?_)
          intros
          refine AL.go (AO.assign rfl rfl (AL.go (AO.assign rfl rfl (AL.nil (AK.seqN (AC.seq (AC.region ?_)))))))
          refine AL.go (AO.field rfl rfl ?_)
          refine AL.go (AO.loadB rfl rfl ?_)
          refine AL.go (AO.move rfl rfl ?_)
          refine AL.go (AO.indexAddr rfl rfl rfl rfl (by repeat (first | exact mem0 | assumption | refine memS ?_)) hqk (fun _ _ => ?_))
          refine AL.go (AO.loadF rfl rfl ?_)
          intros
          refine AL.go (AO.assign rfl rfl (AL.nil (AK.seqN (AC.seq (AC.seq (AC.region ?_))))))
          refine AL.go (AO.move rfl rfl ?_)
          refine AL.go (AO.call rfl rfl (rmark_c t.words[q] (fun c39 => ?_) (fun c39 => ?_)))
          · refine AL.nil (AK.seqN (AC.condT rfl (AC.seq (AC.seq (AC.region ?_)))))
            refine AL.go (AO.field rfl rfl ?_)
            refine AL.go (AO.loadB rfl rfl ?_)
            refine AL.go (AO.lss rfl rfl rfl (fun c42 => ?_) (fun c42 => ?_))
            · refine AL.go (AO.move rfl rfl (AL.no rfl rfl rfl rfl (AL.no rfl rfl rfl rfl (AL.no rfl rfl rfl rfl (AL.no rfl rfl rfl rfl (AL.no rfl rfl rfl rfl ?_))))))
              refine AL.no rfl rfl rfl rfl (AL.go (AO.pickT rfl rfl rfl (AL.go (AO.move rfl rfl (AL.no rfl rfl rfl rfl (AL.no rfl rfl rfl rfl (AL.no rfl rfl rfl rfl ?_)))))))
              refine AL.no rfl rfl rfl rfl (AL.no rfl rfl rfl rfl (AL.no rfl rfl rfl rfl (AL.go (AO.pickT rfl rfl rfl (AL.go (AO.move rfl rfl (AL.no rfl rfl rfl rfl ?_)))))))
              refine AL.no rfl rfl rfl rfl (AL.no rfl rfl rfl rfl (AL.no rfl rfl rfl rfl (AL.no rfl rfl rfl rfl (AL.no rfl rfl rfl rfl (AL.go (AO.pickT rfl rfl rfl ?_))))))
              refine AL.nil (AK.seqN (AC.condT rfl (AC.seq (AC.region (AL.go (AO.assign rfl rfl ?_))))))
              refine AL.nil (AK.seqN (AC.ret (AK.seqR (AK.seqR (AK.blkR ?_)))))
              refine AK.seqR (AK.seqR (AK.blkR (AK.seqR ?_)))
              first | refine AK.ret (L' := L) (F' := F) Tryd.results49 rfl (by repeat (first | exact Sub.refl _ _ | refine Sub.trans Sub.drop ?_ | refine Sub.trans Sub.dropF ?_)) (hT ?_) | refine AK.ret (L' := L) (F' := F) Tryd.results49 rfl (by repeat (first | exact Sub.refl _ _ | refine Sub.trans Sub.drop ?_ | refine Sub.trans Sub.dropF ?_)) (hF ?_)
              first
              | exact ⟨by omega, by omega, by omega, fun i hi => hok i hi (by omega)⟩
              | exact fun e => absurd e.1 (by omega)
              | exact fun e => absurd e.2.1 (by omega)
              | exact fun e => absurd e.2.2.1 (by omega)
              | (intro e
                 have he := e.2.2.2 q hql
                 unfold elemAtP at he
                 rw [hK, hKid, hKidP, hPrev] at he
                 rcases he with ⟨h1, h2, h3, h4, h5, h6⟩ | ⟨h1, h2, h3, h4⟩
                 first | exact c39 h1 | exact h3 c49 | exact h4 c57 | (have := h6 (by omega) c76; omega) | omega
                 first | exact h1 c39 | exact absurd h2 (by rw [c89]; decide) | exact (h4 (by omega)).1 c108 | exact c97 h3 | exact absurd (h4 (by omega)).2 (by rw [c117]; decide) | omega)
            · refine AL.go (AO.move rfl rfl (AL.yes rfl rfl (AO.move rfl rfl (AL.yes rfl rfl (AO.move rfl rfl ?_)))))
              refine AL.yes rfl rfl (AO.indexAddr (k := t.kids[q].toNat) rfl rfl rfl hkn (by repeat (first | exact mem0 | assumption | refine memS ?_)) hkl (fun _ _ => ?_))
              refine AL.yes rfl rfl (AO.fieldAt rfl rfl (fun _ => ?_))
              refine AL.yes rfl rfl (AO.loadF rfl rfl ?_)
              intros
              refine AL.yes rfl rfl (AO.eql rfl rfl rfl (fun c49 => ?_) (fun c49 => ?_))
              · refine AL.go (AO.pickF rfl rfl rfl (AL.go (AO.move rfl rfl (AL.no rfl rfl rfl rfl (AL.no rfl rfl rfl rfl (AL.no rfl rfl rfl rfl (AL.no rfl rfl rfl rfl ?_)))))))
                refine AL.no rfl rfl rfl rfl (AL.no rfl rfl rfl rfl (AL.go (AO.pickT rfl rfl rfl (AL.go (AO.move rfl rfl (AL.no rfl rfl rfl rfl (AL.no rfl rfl rfl rfl ?_)))))))
                refine AL.no rfl rfl rfl rfl (AL.no rfl rfl rfl rfl (AL.no rfl rfl rfl rfl (AL.no rfl rfl rfl rfl (AL.go (AO.pickT rfl rfl rfl (AL.nil ?_))))))
                refine AK.seqN (AC.condT rfl (AC.seq (AC.region (AL.go (AO.assign rfl rfl (AL.nil ?_))))))
                refine AK.seqN (AC.ret (AK.seqR (AK.seqR (AK.blkR (AK.seqR ?_)))))
                refine AK.seqR (AK.blkR (AK.seqR ?_))
                first | refine AK.ret (L' := L) (F' := F) Tryd.results49 rfl (by repeat (first | exact Sub.refl _ _ | refine Sub.trans Sub.drop ?_ | refine Sub.trans Sub.dropF ?_)) (hT ?_) | refine AK.ret (L' := L) (F' := F) Tryd.results49 rfl (by repeat (first | exact Sub.refl _ _ | refine Sub.trans Sub.drop ?_ | refine Sub.trans Sub.dropF ?_)) (hF ?_)
                first
                | exact ⟨by omega, by omega, by omega, fun i hi => hok i hi (by omega)⟩
                | exact fun e => absurd e.1 (by omega)
                | exact fun e => absurd e.2.1 (by omega)
                | exact fun e => absurd e.2.2.1 (by omega)
                | (intro e
                   have he := e.2.2.2 q hql
                   unfold elemAtP at he
                   rw [hK, hKid, hKidP, hPrev] at he
                   rcases he with ⟨h1, h2, h3, h4, h5, h6⟩ | ⟨h1, h2, h3, h4⟩
                   first | exact c39 h1 | exact h3 c49 | exact h4 c57 | (have := h6 (by omega) c76; omega) | omega
                   first | exact h1 c39 | exact absurd h2 (by rw [c89]; decide) | exact (h4 (by omega)).1 c108 | exact c97 h3 | exact absurd (h4 (by omega)).2 (by rw [c117]; decide) | omega)
              · refine AL.go (AO.pickF rfl rfl rfl (AL.go (AO.move rfl rfl (AL.yes rfl rfl (AO.move rfl rfl (AL.yes rfl rfl (AO.move rfl rfl ?_)))))))
                refine AL.yes rfl rfl (AO.indexAddr (k := t.kids[q].toNat) rfl rfl rfl hkn (by repeat (first | exact mem0 | assumption | refine memS ?_)) hkl (fun _ _ => ?_))
                refine AL.yes rfl rfl (AO.fieldAt rfl rfl (fun _ => ?_))
                refine AL.yes rfl rfl (AO.loadF rfl rfl ?_)
                intros
                refine AL.yes rfl rfl (AO.eql rfl rfl rfl (fun c57 => ?_) (fun c57 => ?_))
                · refine AL.go (AO.pickF rfl rfl rfl (AL.go (AO.move rfl rfl (AL.no rfl rfl rfl rfl (AL.no rfl rfl rfl rfl (AL.no rfl rfl rfl rfl (AL.no rfl rfl rfl rfl ?_)))))))
                  refine AL.no rfl rfl rfl rfl (AL.no rfl rfl rfl rfl (AL.go (AO.pickT rfl rfl rfl (AL.nil (AK.seqN (AC.condT rfl ?_))))))
                  refine AC.seq (AC.region (AL.go (AO.assign rfl rfl (AL.nil (AK.seqN (AC.ret ?_))))))
                  refine AK.seqR (AK.seqR (AK.blkR (AK.seqR (AK.seqR (AK.blkR ?_)))))
                  refine AK.seqR ?_
                  first | refine AK.ret (L' := L) (F' := F) Tryd.results49 rfl (by repeat (first | exact Sub.refl _ _ | refine Sub.trans Sub.drop ?_ | refine Sub.trans Sub.dropF ?_)) (hT ?_) | refine AK.ret (L' := L) (F' := F) Tryd.results49 rfl (by repeat (first | exact Sub.refl _ _ | refine Sub.trans Sub.drop ?_ | refine Sub.trans Sub.dropF ?_)) (hF ?_)
                  first
                  | exact ⟨by omega, by omega, by omega, fun i hi => hok i hi (by omega)⟩
                  | exact fun e => absurd e.1 (by omega)
                  | exact fun e => absurd e.2.1 (by omega)
                  | exact fun e => absurd e.2.2.1 (by omega)
                  | (intro e
                     have he := e.2.2.2 q hql
                     unfold elemAtP at he
                     rw [hK, hKid, hKidP, hPrev] at he
                     rcases he with ⟨h1, h2, h3, h4, h5, h6⟩ | ⟨h1, h2, h3, h4⟩
                     first | exact c39 h1 | exact h3 c49 | exact h4 c57 | (have := h6 (by omega) c76; omega) | omega
                     first | exact h1 c39 | exact absurd h2 (by rw [c89]; decide) | exact (h4 (by omega)).1 c108 | exact c97 h3 | exact absurd (h4 (by omega)).2 (by rw [c117]; decide) | omega)
                · refine AL.go (AO.pickF rfl rfl rfl (AL.go (AO.move rfl rfl (AL.yes rfl rfl (AO.move rfl rfl ?_)))))
                  refine AL.yes rfl rfl (AO.geq rfl rfl rfl (fun c61 => ?_) (fun c61 => ?_))
                  · refine AL.yes rfl rfl (AO.move rfl rfl (AL.yes rfl rfl (AO.move rfl rfl ?_)))
                    refine AL.yes rfl rfl (AO.leq rfl rfl rfl (fun c64 => ?_) (fun c64 => ?_))
                    · refine AL.yes rfl rfl (AO.pickT rfl rfl rfl (AL.go (AO.pickF rfl rfl rfl (AL.nil (AK.seqN (AC.condT rfl (AC.seq ?_)))))))
                      refine AC.region (AL.go (AO.assign rfl rfl (AL.nil (AK.seqN (AC.ret (AK.seqR ?_))))))
                      refine AK.seqR (AK.blkR (AK.seqR (AK.seqR (AK.blkR (AK.seqR ?_)))))
                      first | refine AK.ret (L' := L) (F' := F) Tryd.results49 rfl (by repeat (first | exact Sub.refl _ _ | refine Sub.trans Sub.drop ?_ | refine Sub.trans Sub.dropF ?_)) (hT ?_) | refine AK.ret (L' := L) (F' := F) Tryd.results49 rfl (by repeat (first | exact Sub.refl _ _ | refine Sub.trans Sub.drop ?_ | refine Sub.trans Sub.dropF ?_)) (hF ?_)
                      first
                      | exact ⟨by omega, by omega, by omega, fun i hi => hok i hi (by omega)⟩
                      | exact fun e => absurd e.1 (by omega)
                      | exact fun e => absurd e.2.1 (by omega)
                      | exact fun e => absurd e.2.2.1 (by omega)
                      | (intro e
                         have he := e.2.2.2 q hql
                         unfold elemAtP at he
                         rw [hK, hKid, hKidP, hPrev] at he
                         rcases he with ⟨h1, h2, h3, h4, h5, h6⟩ | ⟨h1, h2, h3, h4⟩
                         first | exact c39 h1 | exact h3 c49 | exact h4 c57 | (have := h6 (by omega) c76; omega) | omega
                         first | exact h1 c39 | exact absurd h2 (by rw [c89]; decide) | exact (h4 (by omega)).1 c108 | exact c97 h3 | exact absurd (h4 (by omega)).2 (by rw [c117]; decide) | omega)
                    · refine AL.yes rfl rfl (AO.pickT rfl rfl rfl (AL.go (AO.pickF rfl rfl rfl (AL.nil (AK.seqN (AC.condF rfl (AC.skip ?_)))))))
                      refine AK.seqN (AC.seq (AC.seq (AC.region (AL.go (AO.move rfl rfl ?_)))))
                      refine AL.go (AO.gtr rfl rfl rfl (fun c68 => ?_) (fun c68 => ?_))
                      · refine AL.go (AO.move rfl rfl (AL.yes rfl rfl (AO.field rfl rfl ?_)))
                        refine AL.yes rfl rfl (AO.loadB rfl rfl ?_)
                        refine AL.yes rfl rfl (AO.move rfl rfl (AL.yes rfl rfl (AO.sub rfl rfl rfl (by omega) (by omega) ?_)))
                        refine AL.yes rfl rfl (AO.indexAddr (k := q - 1) rfl rfl rfl (by omega) (by repeat (first | exact mem0 | assumption | refine memS ?_)) (by omega) (fun _ _ => ?_))
                        refine AL.yes rfl rfl (AO.loadF rfl rfl ?_)
                        intros
                        refine AL.yes rfl rfl (AO.call rfl rfl (rmark_c t.words[q - 1] (fun c76 => ?_) (fun c76 => ?_)))
                        · refine AL.go (AO.pickT rfl rfl rfl (AL.go (AO.move rfl rfl (AL.yes rfl rfl (AO.field rfl rfl ?_)))))
                          refine AL.yes rfl rfl (AO.loadB rfl rfl ?_)
                          refine AL.yes rfl rfl (AO.move rfl rfl (AL.yes rfl rfl (AO.sub rfl rfl rfl (by omega) (by omega) ?_)))
                          refine AL.yes rfl rfl (AO.indexAddr (k := q - 1) rfl rfl rfl (by omega) (by repeat (first | exact mem0 | assumption | refine memS ?_)) (by omega) (fun _ _ => ?_))
                          refine AL.yes rfl rfl (AO.loadF rfl rfl ?_)
                          intros
                          refine AL.yes rfl rfl (AO.move rfl rfl ?_)
                          refine AL.yes rfl rfl (AO.geq rfl rfl rfl (fun c86 => ?_) (fun c86 => ?_))
                          · refine AL.go (AO.pickT rfl rfl rfl (AL.nil (AK.seqN (AC.condT rfl (AC.seq (AC.region ?_))))))
                            refine AL.go (AO.assign rfl rfl (AL.nil (AK.seqN (AC.ret (AK.seqR (AK.seqR ?_))))))
                            refine AK.blkR (AK.seqR (AK.seqR (AK.blkR (AK.seqR ?_))))
                            first | refine AK.ret (L' := L) (F' := F) Tryd.results49 rfl (by repeat (first | exact Sub.refl _ _ | refine Sub.trans Sub.drop ?_ | refine Sub.trans Sub.dropF ?_)) (hT ?_) | refine AK.ret (L' := L) (F' := F) Tryd.results49 rfl (by repeat (first | exact Sub.refl _ _ | refine Sub.trans Sub.drop ?_ | refine Sub.trans Sub.dropF ?_)) (hF ?_)
                            first
                            | exact ⟨by omega, by omega, by omega, fun i hi => hok i hi (by omega)⟩
                            | exact fun e => absurd e.1 (by omega)
                            | exact fun e => absurd e.2.1 (by omega)
                            | exact fun e => absurd e.2.2.1 (by omega)
                            | (intro e
                               have he := e.2.2.2 q hql
                               unfold elemAtP at he
                               rw [hK, hKid, hKidP, hPrev] at he
                               rcases he with ⟨h1, h2, h3, h4, h5, h6⟩ | ⟨h1, h2, h3, h4⟩
                               first | exact c39 h1 | exact h3 c49 | exact h4 c57 | (have := h6 (by omega) c76; omega) | omega
                               first | exact h1 c39 | exact absurd h2 (by rw [c89]; decide) | exact (h4 (by omega)).1 c108 | exact c97 h3 | exact absurd (h4 (by omega)).2 (by rw [c117]; decide) | omega)
                          · refine AL.go (AO.pickT rfl rfl rfl (AL.nil (AK.seqN (AC.condF rfl (AC.skip (AK.seqN ?_))))))
                            refine AC.exit (AK.seqX (AK.blkX (AK.seqN (AC.region (AL.go (AO.add rfl rfl rfl (by omega) (by omega) ?_))))))
                            refine AL.go (AO.move rfl rfl (AL.nil ?_))
                            refine AK.next (q + 1) ⟨by omega, ?_⟩ (by omega) (by repeat (first | exact SubR.nil | refine SubR.cons rfl ?_)) (by first | exact Sub.refl _ _ | exact Sub.dropF | exact Sub.drop.trans Sub.dropF | repeat (first | exact Sub.refl _ _ | refine Sub.trans Sub.dropF ?_))
                            intro j hj hjq
                            rcases Nat.lt_succ_iff_lt_or_eq.1 hjq with k9 | rfl
                            · exact hok j hj k9
                            · unfold elemAtP
                              rw [hK, hKid, hKidP, hPrev]
                              first
                              | exact Or.inl ⟨c39, by omega, c49, c57, by omega, fun _ _ => by omega⟩
                              | exact Or.inl ⟨c39, by omega, c49, c57, by omega, fun _ h1 => absurd h1 c76⟩
                              | exact Or.inl ⟨c39, by omega, c49, c57, by omega, fun h0 _ => absurd h0 (by omega)⟩
                              | exact Or.inr ⟨c39, c89, c97, fun _ => ⟨c108, c117⟩⟩
                              | exact Or.inr ⟨c39, c89, c97, fun h0 => absurd h0 (by omega)⟩
                        · refine AL.go (AO.pickT rfl rfl rfl (AL.go (AO.move rfl rfl (AL.no rfl rfl rfl rfl (AL.no rfl rfl rfl rfl (AL.no rfl rfl rfl rfl (AL.no rfl rfl rfl rfl ?_)))))))
                          refine AL.no rfl rfl rfl rfl (AL.no rfl rfl rfl rfl (AL.no rfl rfl rfl rfl (AL.no rfl rfl rfl rfl (AL.go (AO.pickF rfl rfl rfl (AL.nil ?_))))))
                          refine AK.seqN (AC.condF rfl (AC.skip (AK.seqN (AC.exit (AK.seqX ?_)))))
                          refine AK.blkX (AK.seqN (AC.region (AL.go (AO.add rfl rfl rfl (by omega) (by omega) (AL.go (AO.move rfl rfl (AL.nil ?_)))))))
                          refine AK.next (q + 1) ⟨by omega, ?_⟩ (by omega) (by repeat (first | exact SubR.nil | refine SubR.cons rfl ?_)) (by first | exact Sub.refl _ _ | exact Sub.dropF | exact Sub.drop.trans Sub.dropF | repeat (first | exact Sub.refl _ _ | refine Sub.trans Sub.dropF ?_))
                          intro j hj hjq
                          rcases Nat.lt_succ_iff_lt_or_eq.1 hjq with k9 | rfl
                          · exact hok j hj k9
                          · unfold elemAtP
                            rw [hK, hKid, hKidP, hPrev]
                            first
                            | exact Or.inl ⟨c39, by omega, c49, c57, by omega, fun _ _ => by omega⟩
                            | exact Or.inl ⟨c39, by omega, c49, c57, by omega, fun _ h1 => absurd h1 c76⟩
                            | exact Or.inl ⟨c39, by omega, c49, c57, by omega, fun h0 _ => absurd h0 (by omega)⟩
                            | exact Or.inr ⟨c39, c89, c97, fun _ => ⟨c108, c117⟩⟩
                            | exact Or.inr ⟨c39, c89, c97, fun h0 => absurd h0 (by omega)⟩
                      · refine AL.go (AO.move rfl rfl (AL.no rfl rfl rfl rfl (AL.no rfl rfl rfl rfl (AL.no rfl rfl rfl rfl (AL.no rfl rfl rfl rfl (AL.no rfl rfl rfl rfl ?_))))))
                        refine AL.no rfl rfl rfl rfl (AL.no rfl rfl rfl rfl (AL.go (AO.pickF rfl rfl rfl (AL.go (AO.move rfl rfl (AL.no rfl rfl rfl rfl (AL.no rfl rfl rfl rfl ?_)))))))
                        refine AL.no rfl rfl rfl rfl (AL.no rfl rfl rfl rfl (AL.no rfl rfl rfl rfl (AL.no rfl rfl rfl rfl (AL.no rfl rfl rfl rfl (AL.no rfl rfl rfl rfl ?_)))))
                        refine AL.go (AO.pickF rfl rfl rfl (AL.nil (AK.seqN (AC.condF rfl (AC.skip (AK.seqN ?_))))))
                        refine AC.exit (AK.seqX (AK.blkX (AK.seqN (AC.region (AL.go (AO.add rfl rfl rfl (by omega) (by omega) ?_))))))
                        refine AL.go (AO.move rfl rfl (AL.nil ?_))
                        refine AK.next (q + 1) ⟨by omega, ?_⟩ (by omega) (by repeat (first | exact SubR.nil | refine SubR.cons rfl ?_)) (by first | exact Sub.refl _ _ | exact Sub.dropF | exact Sub.drop.trans Sub.dropF | repeat (first | exact Sub.refl _ _ | refine Sub.trans Sub.dropF ?_))
                        intro j hj hjq
                        rcases Nat.lt_succ_iff_lt_or_eq.1 hjq with k9 | rfl
                        · exact hok j hj k9
                        · unfold elemAtP
                          rw [hK, hKid, hKidP, hPrev]
                          first
                          | exact Or.inl ⟨c39, by omega, c49, c57, by omega, fun _ _ => by omega⟩
                          | exact Or.inl ⟨c39, by omega, c49, c57, by omega, fun _ h1 => absurd h1 c76⟩
                          | exact Or.inl ⟨c39, by omega, c49, c57, by omega, fun h0 _ => absurd h0 (by omega)⟩
                          | exact Or.inr ⟨c39, c89, c97, fun _ => ⟨c108, c117⟩⟩
                          | exact Or.inr ⟨c39, c89, c97, fun h0 => absurd h0 (by omega)⟩
                  · refine AL.yes rfl rfl (AO.move rfl rfl (AL.no rfl rfl rfl rfl (AL.no rfl rfl rfl rfl (AL.yes rfl rfl (AO.pickF rfl rfl rfl (AL.go (AO.pickF rfl rfl rfl (AL.nil ?_))))))))
                    refine AK.seqN (AC.condF rfl (AC.skip (AK.seqN (AC.seq (AC.seq ?_)))))
                    refine AC.region (AL.go (AO.move rfl rfl ?_))
                    refine AL.go (AO.gtr rfl rfl rfl (fun c68 => ?_) (fun c68 => ?_))
                    · refine AL.go (AO.move rfl rfl (AL.yes rfl rfl (AO.field rfl rfl ?_)))
                      refine AL.yes rfl rfl (AO.loadB rfl rfl ?_)
                      refine AL.yes rfl rfl (AO.move rfl rfl (AL.yes rfl rfl (AO.sub rfl rfl rfl (by omega) (by omega) ?_)))
                      refine AL.yes rfl rfl (AO.indexAddr (k := q - 1) rfl rfl rfl (by omega) (by repeat (first | exact mem0 | assumption | refine memS ?_)) (by omega) (fun _ _ => ?_))
                      refine AL.yes rfl rfl (AO.loadF rfl rfl ?_)
                      intros
                      refine AL.yes rfl rfl (AO.call rfl rfl (rmark_c t.words[q - 1] (fun c76 => ?_) (fun c76 => ?_)))
                      · refine AL.go (AO.pickT rfl rfl rfl (AL.go (AO.move rfl rfl (AL.yes rfl rfl (AO.field rfl rfl ?_)))))
                        refine AL.yes rfl rfl (AO.loadB rfl rfl ?_)
                        refine AL.yes rfl rfl (AO.move rfl rfl (AL.yes rfl rfl (AO.sub rfl rfl rfl (by omega) (by omega) ?_)))
                        refine AL.yes rfl rfl (AO.indexAddr (k := q - 1) rfl rfl rfl (by omega) (by repeat (first | exact mem0 | assumption | refine memS ?_)) (by omega) (fun _ _ => ?_))
                        refine AL.yes rfl rfl (AO.loadF rfl rfl ?_)
                        intros
                        refine AL.yes rfl rfl (AO.move rfl rfl ?_)
                        refine AL.yes rfl rfl (AO.geq rfl rfl rfl (fun c86 => ?_) (fun c86 => ?_))
                        · refine AL.go (AO.pickT rfl rfl rfl (AL.nil (AK.seqN (AC.condT rfl (AC.seq (AC.region ?_))))))
                          refine AL.go (AO.assign rfl rfl (AL.nil (AK.seqN (AC.ret (AK.seqR (AK.seqR ?_))))))
                          refine AK.blkR (AK.seqR (AK.seqR (AK.blkR (AK.seqR ?_))))
                          first | refine AK.ret (L' := L) (F' := F) Tryd.results49 rfl (by repeat (first | exact Sub.refl _ _ | refine Sub.trans Sub.drop ?_ | refine Sub.trans Sub.dropF ?_)) (hT ?_) | refine AK.ret (L' := L) (F' := F) Tryd.results49 rfl (by repeat (first | exact Sub.refl _ _ | refine Sub.trans Sub.drop ?_ | refine Sub.trans Sub.dropF ?_)) (hF ?_)
                          first
                          | exact ⟨by omega, by omega, by omega, fun i hi => hok i hi (by omega)⟩
                          | exact fun e => absurd e.1 (by omega)
                          | exact fun e => absurd e.2.1 (by omega)
                          | exact fun e => absurd e.2.2.1 (by omega)
                          | (intro e
                             have he := e.2.2.2 q hql
                             unfold elemAtP at he
                             rw [hK, hKid, hKidP, hPrev] at he
                             rcases he with ⟨h1, h2, h3, h4, h5, h6⟩ | ⟨h1, h2, h3, h4⟩
                             first | exact c39 h1 | exact h3 c49 | exact h4 c57 | (have := h6 (by omega) c76; omega) | omega
                             first | exact h1 c39 | exact absurd h2 (by rw [c89]; decide) | exact (h4 (by omega)).1 c108 | exact c97 h3 | exact absurd (h4 (by omega)).2 (by rw [c117]; decide) | omega)
                        · refine AL.go (AO.pickT rfl rfl rfl (AL.nil (AK.seqN (AC.condF rfl (AC.skip (AK.seqN ?_))))))
                          refine AC.exit (AK.seqX (AK.blkX (AK.seqN (AC.region (AL.go (AO.add rfl rfl rfl (by omega) (by omega) ?_))))))
                          refine AL.go (AO.move rfl rfl (AL.nil ?_))
                          refine AK.next (q + 1) ⟨by omega, ?_⟩ (by omega) (by repeat (first | exact SubR.nil | refine SubR.cons rfl ?_)) (by first | exact Sub.refl _ _ | exact Sub.dropF | exact Sub.drop.trans Sub.dropF | repeat (first | exact Sub.refl _ _ | refine Sub.trans Sub.dropF ?_))
                          intro j hj hjq
                          rcases Nat.lt_succ_iff_lt_or_eq.1 hjq with k9 | rfl
                          · exact hok j hj k9
                          · unfold elemAtP
                            rw [hK, hKid, hKidP, hPrev]
                            first
                            | exact Or.inl ⟨c39, by omega, c49, c57, by omega, fun _ _ => by omega⟩
                            | exact Or.inl ⟨c39, by omega, c49, c57, by omega, fun _ h1 => absurd h1 c76⟩
                            | exact Or.inl ⟨c39, by omega, c49, c57, by omega, fun h0 _ => absurd h0 (by omega)⟩
                            | exact Or.inr ⟨c39, c89, c97, fun _ => ⟨c108, c117⟩⟩
                            | exact Or.inr ⟨c39, c89, c97, fun h0 => absurd h0 (by omega)⟩
                      · refine AL.go (AO.pickT rfl rfl rfl (AL.go (AO.move rfl rfl (AL.no rfl rfl rfl rfl (AL.no rfl rfl rfl rfl (AL.no rfl rfl rfl rfl (AL.no rfl rfl rfl rfl ?_)))))))
                        refine AL.no rfl rfl rfl rfl (AL.no rfl rfl rfl rfl (AL.no rfl rfl rfl rfl (AL.no rfl rfl rfl rfl (AL.go (AO.pickF rfl rfl rfl (AL.nil ?_))))))
                        refine AK.seqN (AC.condF rfl (AC.skip (AK.seqN (AC.exit (AK.seqX ?_)))))
                        refine AK.blkX (AK.seqN (AC.region (AL.go (AO.add rfl rfl rfl (by omega) (by omega) (AL.go (AO.move rfl rfl (AL.nil ?_)))))))
                        refine AK.next (q + 1) ⟨by omega, ?_⟩ (by omega) (by repeat (first | exact SubR.nil | refine SubR.cons rfl ?_)) (by first | exact Sub.refl _ _ | exact Sub.dropF | exact Sub.drop.trans Sub.dropF | repeat (first | exact Sub.refl _ _ | refine Sub.trans Sub.dropF ?_))
                        intro j hj hjq
                        rcases Nat.lt_succ_iff_lt_or_eq.1 hjq with k9 | rfl
                        · exact hok j hj k9
                        · unfold elemAtP
                          rw [hK, hKid, hKidP, hPrev]
                          first
                          | exact Or.inl ⟨c39, by omega, c49, c57, by omega, fun _ _ => by omega⟩
                          | exact Or.inl ⟨c39, by omega, c49, c57, by omega, fun _ h1 => absurd h1 c76⟩
                          | exact Or.inl ⟨c39, by omega, c49, c57, by omega, fun h0 _ => absurd h0 (by omega)⟩
                          | exact Or.inr ⟨c39, c89, c97, fun _ => ⟨c108, c117⟩⟩
                          | exact Or.inr ⟨c39, c89, c97, fun h0 => absurd h0 (by omega)⟩
                    · refine AL.go (AO.move rfl rfl (AL.no rfl rfl rfl rfl (AL.no rfl rfl rfl rfl (AL.no rfl rfl rfl rfl (AL.no rfl rfl rfl rfl (AL.no rfl rfl rfl rfl ?_))))))
                      refine AL.no rfl rfl rfl rfl (AL.no rfl rfl rfl rfl (AL.go (AO.pickF rfl rfl rfl (AL.go (AO.move rfl rfl (AL.no rfl rfl rfl rfl (AL.no rfl rfl rfl rfl ?_)))))))
                      refine AL.no rfl rfl rfl rfl (AL.no rfl rfl rfl rfl (AL.no rfl rfl rfl rfl (AL.no rfl rfl rfl rfl (AL.no rfl rfl rfl rfl (AL.no rfl rfl rfl rfl ?_)))))
                      refine AL.go (AO.pickF rfl rfl rfl (AL.nil (AK.seqN (AC.condF rfl (AC.skip (AK.seqN ?_))))))
                      refine AC.exit (AK.seqX (AK.blkX (AK.seqN (AC.region (AL.go (AO.add rfl rfl rfl (by omega) (by omega) ?_))))))
                      refine AL.go (AO.move rfl rfl (AL.nil ?_))
                      refine AK.next (q + 1) ⟨by omega, ?_⟩ (by omega) (by repeat (first | exact SubR.nil | refine SubR.cons rfl ?_)) (by first | exact Sub.refl _ _ | exact Sub.dropF | exact Sub.drop.trans Sub.dropF | repeat (first | exact Sub.refl _ _ | refine Sub.trans Sub.dropF ?_))
                      intro j hj hjq
                      rcases Nat.lt_succ_iff_lt_or_eq.1 hjq with k9 | rfl
                      · exact hok j hj k9
                      · unfold elemAtP
                        rw [hK, hKid, hKidP, hPrev]
                        first
                        | exact Or.inl ⟨c39, by omega, c49, c57, by omega, fun _ _ => by omega⟩
                        | exact Or.inl ⟨c39, by omega, c49, c57, by omega, fun _ h1 => absurd h1 c76⟩
                        | exact Or.inl ⟨c39, by omega, c49, c57, by omega, fun h0 _ => absurd h0 (by omega)⟩
                        | exact Or.inr ⟨c39, c89, c97, fun _ => ⟨c108, c117⟩⟩
                        | exact Or.inr ⟨c39, c89, c97, fun h0 => absurd h0 (by omega)⟩
          · refine AL.nil (AK.seqN (AC.condF rfl (AC.skip (AK.seqN (AC.seq ?_)))))
            refine AC.seq (AC.region (AL.go (AO.move rfl rfl ?_)))
            refine AL.go (AO.call rfl rfl (rname_c t.words[q] (by omega) (fun c89 => ?_) (fun c89 => ?_)))
            · refine AL.go (AO.not rfl rfl (AL.go (AO.move rfl rfl (AL.yes rfl rfl (AO.move rfl rfl (AL.yes rfl rfl (AO.move rfl rfl ?_)))))))
              refine AL.yes rfl rfl (AO.indexAddr (k := t.kids[q].toNat) rfl rfl rfl hkn (by repeat (first | exact mem0 | assumption | refine memS ?_)) hkl (fun _ _ => ?_))
              refine AL.yes rfl rfl (AO.fieldAt rfl rfl (fun _ => ?_))
              refine AL.yes rfl rfl (AO.loadF rfl rfl ?_)
              intros
              refine AL.yes rfl rfl (AO.neq rfl rfl rfl (fun c97 => ?_) (fun c97 => ?_))
              · refine AL.go (AO.pickF rfl rfl rfl (AL.nil (AK.seqN (AC.condT rfl (AC.seq (AC.region ?_))))))
                refine AL.go (AO.assign rfl rfl (AL.nil (AK.seqN (AC.ret (AK.seqR (AK.blkR ?_))))))
                refine AK.seqR (AK.seqR (AK.blkR (AK.seqR ?_)))
                first | refine AK.ret (L' := L) (F' := F) Tryd.results49 rfl (by repeat (first | exact Sub.refl _ _ | refine Sub.trans Sub.drop ?_ | refine Sub.trans Sub.dropF ?_)) (hT ?_) | refine AK.ret (L' := L) (F' := F) Tryd.results49 rfl (by repeat (first | exact Sub.refl _ _ | refine Sub.trans Sub.drop ?_ | refine Sub.trans Sub.dropF ?_)) (hF ?_)
                first
                | exact ⟨by omega, by omega, by omega, fun i hi => hok i hi (by omega)⟩
                | exact fun e => absurd e.1 (by omega)
                | exact fun e => absurd e.2.1 (by omega)
                | exact fun e => absurd e.2.2.1 (by omega)
                | (intro e
                   have he := e.2.2.2 q hql
                   unfold elemAtP at he
                   rw [hK, hKid, hKidP, hPrev] at he
                   rcases he with ⟨h1, h2, h3, h4, h5, h6⟩ | ⟨h1, h2, h3, h4⟩
                   first | exact c39 h1 | exact h3 c49 | exact h4 c57 | (have := h6 (by omega) c76; omega) | omega
                   first | exact h1 c39 | exact absurd h2 (by rw [c89]; decide) | exact (h4 (by omega)).1 c108 | exact c97 h3 | exact absurd (h4 (by omega)).2 (by rw [c117]; decide) | omega)
              · refine AL.go (AO.pickF rfl rfl rfl (AL.nil (AK.seqN (AC.condF rfl (AC.skip (AK.seqN ?_))))))
                refine AC.seq (AC.region (AL.go (AO.move rfl rfl ?_)))
                refine AL.go (AO.gtr rfl rfl rfl (fun c100 => ?_) (fun c100 => ?_))
                · refine AL.go (AO.move rfl rfl (AL.yes rfl rfl (AO.field rfl rfl ?_)))
                  refine AL.yes rfl rfl (AO.loadB rfl rfl ?_)
                  refine AL.yes rfl rfl (AO.move rfl rfl (AL.yes rfl rfl (AO.sub rfl rfl rfl (by omega) (by omega) ?_)))
                  refine AL.yes rfl rfl (AO.indexAddr (k := q - 1) rfl rfl rfl (by omega) (by repeat (first | exact mem0 | assumption | refine memS ?_)) (by omega) (fun _ _ => ?_))
                  refine AL.yes rfl rfl (AO.loadF rfl rfl ?_)
                  intros
                  refine AL.yes rfl rfl (AO.call rfl rfl (rmark_c t.words[q - 1] (fun c108 => ?_) (fun c108 => ?_)))
                  · refine AL.yes rfl rfl (AO.move rfl rfl (AL.no rfl rfl rfl rfl (AL.no rfl rfl rfl rfl (AL.no rfl rfl rfl rfl (AL.no rfl rfl rfl rfl (AL.no rfl rfl rfl rfl ?_))))))
                    refine AL.no rfl rfl rfl rfl (AL.no rfl rfl rfl rfl (AL.no rfl rfl rfl rfl (AL.yes rfl rfl (AO.pickT rfl rfl rfl (AL.go (AO.pickT rfl rfl rfl (AL.nil ?_)))))))
                    refine AK.seqN (AC.condT rfl (AC.seq (AC.region (AL.go (AO.assign rfl rfl (AL.nil ?_))))))
                    refine AK.seqN (AC.ret (AK.blkR (AK.seqR (AK.seqR (AK.blkR ?_)))))
                    refine AK.seqR ?_
                    first | refine AK.ret (L' := L) (F' := F) Tryd.results49 rfl (by repeat (first | exact Sub.refl _ _ | refine Sub.trans Sub.drop ?_ | refine Sub.trans Sub.dropF ?_)) (hT ?_) | refine AK.ret (L' := L) (F' := F) Tryd.results49 rfl (by repeat (first | exact Sub.refl _ _ | refine Sub.trans Sub.drop ?_ | refine Sub.trans Sub.dropF ?_)) (hF ?_)
                    first
                    | exact ⟨by omega, by omega, by omega, fun i hi => hok i hi (by omega)⟩
                    | exact fun e => absurd e.1 (by omega)
                    | exact fun e => absurd e.2.1 (by omega)
                    | exact fun e => absurd e.2.2.1 (by omega)
                    | (intro e
                       have he := e.2.2.2 q hql
                       unfold elemAtP at he
                       rw [hK, hKid, hKidP, hPrev] at he
                       rcases he with ⟨h1, h2, h3, h4, h5, h6⟩ | ⟨h1, h2, h3, h4⟩
                       first | exact c39 h1 | exact h3 c49 | exact h4 c57 | (have := h6 (by omega) c76; omega) | omega
                       first | exact h1 c39 | exact absurd h2 (by rw [c89]; decide) | exact (h4 (by omega)).1 c108 | exact c97 h3 | exact absurd (h4 (by omega)).2 (by rw [c117]; decide) | omega)
                  · refine AL.yes rfl rfl (AO.move rfl rfl (AL.yes rfl rfl (AO.field rfl rfl ?_)))
                    refine AL.yes rfl rfl (AO.loadB rfl rfl ?_)
                    refine AL.yes rfl rfl (AO.move rfl rfl (AL.yes rfl rfl (AO.sub rfl rfl rfl (by omega) (by omega) ?_)))
                    refine AL.yes rfl rfl (AO.indexAddr (k := q - 1) rfl rfl rfl (by omega) (by repeat (first | exact mem0 | assumption | refine memS ?_)) (by omega) (fun _ _ => ?_))
                    refine AL.yes rfl rfl (AO.loadF rfl rfl ?_)
                    intros
                    refine AL.yes rfl rfl (AO.move rfl rfl ?_)
                    refine AL.yes rfl rfl (AO.geqS rfl rfl rfl (fun c117 => ?_) (fun c117 => ?_))
                    · refine AL.yes rfl rfl (AO.pickF rfl rfl rfl (AL.go (AO.pickT rfl rfl rfl (AL.nil (AK.seqN (AC.condT rfl (AC.seq ?_)))))))
                      refine AC.region (AL.go (AO.assign rfl rfl (AL.nil (AK.seqN (AC.ret (AK.blkR ?_))))))
                      refine AK.seqR (AK.seqR (AK.blkR (AK.seqR ?_)))
                      first | refine AK.ret (L' := L) (F' := F) Tryd.results49 rfl (by repeat (first | exact Sub.refl _ _ | refine Sub.trans Sub.drop ?_ | refine Sub.trans Sub.dropF ?_)) (hT ?_) | refine AK.ret (L' := L) (F' := F) Tryd.results49 rfl (by repeat (first | exact Sub.refl _ _ | refine Sub.trans Sub.drop ?_ | refine Sub.trans Sub.dropF ?_)) (hF ?_)
                      first
                      | exact ⟨by omega, by omega, by omega, fun i hi => hok i hi (by omega)⟩
                      | exact fun e => absurd e.1 (by omega)
                      | exact fun e => absurd e.2.1 (by omega)
                      | exact fun e => absurd e.2.2.1 (by omega)
                      | (intro e
                         have he := e.2.2.2 q hql
                         unfold elemAtP at he
                         rw [hK, hKid, hKidP, hPrev] at he
                         rcases he with ⟨h1, h2, h3, h4, h5, h6⟩ | ⟨h1, h2, h3, h4⟩
                         first | exact c39 h1 | exact h3 c49 | exact h4 c57 | (have := h6 (by omega) c76; omega) | omega
                         first | exact h1 c39 | exact absurd h2 (by rw [c89]; decide) | exact (h4 (by omega)).1 c108 | exact c97 h3 | exact absurd (h4 (by omega)).2 (by rw [c117]; decide) | omega)
                    · refine AL.yes rfl rfl (AO.pickF rfl rfl rfl (AL.go (AO.pickT rfl rfl rfl (AL.nil (AK.seqN (AC.condF rfl (AC.skip ?_)))))))
                      refine AK.blkN (AK.seqN (AC.region (AL.go (AO.add rfl rfl rfl (by omega) (by omega) (AL.go (AO.move rfl rfl (AL.nil ?_)))))))
                      refine AK.next (q + 1) ⟨by omega, ?_⟩ (by omega) (by repeat (first | exact SubR.nil | refine SubR.cons rfl ?_)) (by first | exact Sub.refl _ _ | exact Sub.dropF | exact Sub.drop.trans Sub.dropF | repeat (first | exact Sub.refl _ _ | refine Sub.trans Sub.dropF ?_))
                      intro j hj hjq
                      rcases Nat.lt_succ_iff_lt_or_eq.1 hjq with k9 | rfl
                      · exact hok j hj k9
                      · unfold elemAtP
                        rw [hK, hKid, hKidP, hPrev]
                        first
                        | exact Or.inl ⟨c39, by omega, c49, c57, by omega, fun _ _ => by omega⟩
                        | exact Or.inl ⟨c39, by omega, c49, c57, by omega, fun _ h1 => absurd h1 c76⟩
                        | exact Or.inl ⟨c39, by omega, c49, c57, by omega, fun h0 _ => absurd h0 (by omega)⟩
                        | exact Or.inr ⟨c39, c89, c97, fun _ => ⟨c108, c117⟩⟩
                        | exact Or.inr ⟨c39, c89, c97, fun h0 => absurd h0 (by omega)⟩
                · refine AL.go (AO.move rfl rfl (AL.no rfl rfl rfl rfl (AL.no rfl rfl rfl rfl (AL.no rfl rfl rfl rfl (AL.no rfl rfl rfl rfl (AL.no rfl rfl rfl rfl ?_))))))
                  refine AL.no rfl rfl rfl rfl (AL.no rfl rfl rfl rfl (AL.no rfl rfl rfl rfl (AL.no rfl rfl rfl rfl (AL.no rfl rfl rfl rfl (AL.no rfl rfl rfl rfl ?_)))))
                  refine AL.no rfl rfl rfl rfl (AL.no rfl rfl rfl rfl (AL.no rfl rfl rfl rfl (AL.no rfl rfl rfl rfl (AL.no rfl rfl rfl rfl (AL.no rfl rfl rfl rfl ?_)))))
                  refine AL.go (AO.pickF rfl rfl rfl (AL.nil (AK.seqN (AC.condF rfl (AC.skip (AK.blkN ?_))))))
                  refine AK.seqN (AC.region (AL.go (AO.add rfl rfl rfl (by omega) (by omega) (AL.go (AO.move rfl rfl (AL.nil ?_))))))
                  refine AK.next (q + 1) ⟨by omega, ?_⟩ (by omega) (by repeat (first | exact SubR.nil | refine SubR.cons rfl ?_)) (by first | exact Sub.refl _ _ | exact Sub.dropF | exact Sub.drop.trans Sub.dropF | repeat (first | exact Sub.refl _ _ | refine Sub.trans Sub.dropF ?_))
                  intro j hj hjq
                  rcases Nat.lt_succ_iff_lt_or_eq.1 hjq with k9 | rfl
                  · exact hok j hj k9
                  · unfold elemAtP
                    rw [hK, hKid, hKidP, hPrev]
                    first
                    | exact Or.inl ⟨c39, by omega, c49, c57, by omega, fun _ _ => by omega⟩
                    | exact Or.inl ⟨c39, by omega, c49, c57, by omega, fun _ h1 => absurd h1 c76⟩
                    | exact Or.inl ⟨c39, by omega, c49, c57, by omega, fun h0 _ => absurd h0 (by omega)⟩
                    | exact Or.inr ⟨c39, c89, c97, fun _ => ⟨c108, c117⟩⟩
                    | exact Or.inr ⟨c39, c89, c97, fun h0 => absurd h0 (by omega)⟩
            · refine AL.go (AO.not rfl rfl (AL.go (AO.move rfl rfl (AL.no rfl rfl rfl rfl (AL.no rfl rfl rfl rfl (AL.no rfl rfl rfl rfl (AL.no rfl rfl rfl rfl ?_)))))))
              refine AL.no rfl rfl rfl rfl (AL.no rfl rfl rfl rfl (AL.go (AO.pickT rfl rfl rfl (AL.nil (AK.seqN (AC.condT rfl ?_))))))
              refine AC.seq (AC.region (AL.go (AO.assign rfl rfl (AL.nil (AK.seqN (AC.ret ?_))))))
              refine AK.seqR (AK.blkR (AK.seqR (AK.seqR (AK.blkR (AK.seqR ?_)))))
              first | refine AK.ret (L' := L) (F' := F) Tryd.results49 rfl (by repeat (first | exact Sub.refl _ _ | refine Sub.trans Sub.drop ?_ | refine Sub.trans Sub.dropF ?_)) (hT ?_) | refine AK.ret (L' := L) (F' := F) Tryd.results49 rfl (by repeat (first | exact Sub.refl _ _ | refine Sub.trans Sub.drop ?_ | refine Sub.trans Sub.dropF ?_)) (hF ?_)
              first
              | exact ⟨by omega, by omega, by omega, fun i hi => hok i hi (by omega)⟩
              | exact fun e => absurd e.1 (by omega)
              | exact fun e => absurd e.2.1 (by omega)
              | exact fun e => absurd e.2.2.1 (by omega)
              | (intro e
                 have he := e.2.2.2 q hql
                 unfold elemAtP at he
                 rw [hK, hKid, hKidP, hPrev] at he
                 rcases he with ⟨h1, h2, h3, h4, h5, h6⟩ | ⟨h1, h2, h3, h4⟩
                 first | exact c39 h1 | exact h3 c49 | exact h4 c57 | (have := h6 (by omega) c76; omega) | omega
                 first | exact h1 c39 | exact absurd h2 (by rw [c89]; decide) | exact (h4 (by omega)).1 c108 | exact c97 h3 | exact absurd (h4 (by omega)).2 (by rw [c117]; decide) | omega)
        · refine AL.nil (AK.seqN (AC.seq (AC.condF rfl (AC.exit (AK.seqX ?_)))))
          refine AK.seqX (AK.blkX (AK.seqN (AC.seq (AC.region (AL.go (AO.assign rfl rfl ?_))))))
          refine AL.nil (AK.seqN (AC.ret ?_))
          first | refine AK.ret (L' := L) (F' := F) Tryd.results49 rfl (by repeat (first | exact Sub.refl _ _ | refine Sub.trans Sub.drop ?_ | refine Sub.trans Sub.dropF ?_)) (hT ?_) | refine AK.ret (L' := L) (F' := F) Tryd.results49 rfl (by repeat (first | exact Sub.refl _ _ | refine Sub.trans Sub.drop ?_ | refine Sub.trans Sub.dropF ?_)) (hF ?_)
          first
          | exact ⟨by omega, by omega, by omega, fun i hi => hok i hi (by omega)⟩
          | exact fun e => absurd e.1 (by omega)
          | exact fun e => absurd e.2.1 (by omega)
          | exact fun e => absurd e.2.2.1 (by omega)
          | (intro e
             have he := e.2.2.2 q hql
             unfold elemAtP at he
             rw [hK, hKid, hKidP, hPrev] at he
             rcases he with ⟨h1, h2, h3, h4, h5, h6⟩ | ⟨h1, h2, h3, h4⟩
             first | exact c39 h1 | exact h3 c49 | exact h4 c57 | (have := h6 (by omega) c76; omega) | omega
             first | exact h1 c39 | exact absurd h2 (by rw [c89]; decide) | exact (h4 (by omega)).1 c108 | exact c97 h3 | exact absurd (h4 (by omega)).2 (by rw [c117]; decide) | omega)
end
end Go.Sy
