/- The text of an interface: the walk. -/
import Derived.Test.YthbngbiodamndaaDoorTyU
namespace Go.Sy
open Go Go.Proofs Go.RowKit

theorem zip_len {t : Ty} (hw : t.words.length = t.kids.length) : (zipT t).length = t.words.length := by unfold zipT; rw [List.length_zip]; omega
theorem zip_get {t : Ty} {q : Nat} (hq : q < t.words.length) (hk : q < t.kids.length) (hz : q < (zipT t).length) : (zipT t)[q] = (t.words[q], t.kids[q]) := by simp [zipT]
theorem fm_some {α β : Type} {f : α → Option β} {zs : List α} {q : Nat} (hq : q < zs.length) {y : β} (h : f zs[q] = some y) : (zs.take q).filterMap f ++ [y] = (zs.take (q + 1)).filterMap f := by
  rw [List.take_succ_eq_append_getElem hq, List.filterMap_append, List.filterMap_cons, h]; rfl
theorem fm_none {α β : Type} {f : α → Option β} {zs : List α} {q : Nat} (hq : q < zs.length) (h : f zs[q] = none) : (zs.take q).filterMap f = (zs.take (q + 1)).filterMap f := by
  rw [List.take_succ_eq_append_getElem hq, List.filterMap_append, List.filterMap_cons, h]; simp
theorem fm_len {α β : Type} {f : α → Option β} (zs : List α) (q : Nat) : ((zs.take q).filterMap f).length ≤ zs.length := by
  have h1 := List.length_filterMap_le f (zs.take q)
  rw [List.length_take] at h1; omega
theorem sig_len {T : Int → List UInt8} {t : Ty} (hT : ∀ x ∈ t.kids, (T x).length ≤ 4001) (hfew : t.kids.length ≤ 16) (hs : t.n = 0 ∨ 0 < t.kids.length) : (sigT T t).length ≤ 150000 := by
  have hT' : ∀ s ∈ t.kids.map T, s.length ≤ 4001 := fun s hs => by obtain ⟨x, hx, rfl⟩ := List.mem_map.1 hs; exact hT x hx
  have hjn1 := gjoin_len [44, 32] _ hT'
  have hjn2 := gjoin_len [44, 32] ((t.kids.map T).take (t.kids.length - 1)) (fun s hs => hT' s (List.mem_of_mem_take hs))
  rw [List.length_map] at hjn1
  have e1 := Nat.mul_le_mul_left (4001 + [44, 32].length) hfew
  have e2 := Nat.mul_le_mul_left (4001 + [44, 32].length) (show ((t.kids.map T).take (t.kids.length - 1)).length ≤ 16 by rw [List.length_take]; omega)
  simp only [List.length_cons, List.length_nil] at e1 e2 hjn1 hjn2
  unfold sigT
  split
  · simp only [List.length_append, List.length_cons, List.length_nil]; omega
  · have := hT _ (kid_mem (t := t) (i := t.kids.length - 1) (by omega))
    simp only [List.length_append, List.length_cons, List.length_nil]; omega
theorem term_len {T : Int → List UInt8} {t : Ty} (hT : ∀ x ∈ t.kids, (T x).length ≤ 4001) {zs : List (List UInt8 × Int)} (hz : ∀ z ∈ zs, z ∈ zipT t) : ∀ s ∈ zs.filterMap (termK T), s.length ≤ 4002 := by
  intro s hs
  obtain ⟨z, hm, e⟩ := List.mem_filterMap.1 hs
  have := hT _ (zip_kid (hz z hm))
  unfold termK at e
  split at e
  · injection e with e; subst e; omega
  · split at e
    · injection e with e; subst e; simp only [List.length_append, List.length_cons, List.length_nil]; omega
    · cases e
theorem decl_len {T : Int → List UInt8} {l : List Ty} {t : Ty} (hw : ∀ w ∈ t.words, w.length ≤ 40) (hs : ∀ z ∈ zipT t, ¬ markP z.1 → (sigT T (rowT l z.2)).length ≤ 150000) {zs : List (List UInt8 × Int)} (hz : ∀ z ∈ zs, z ∈ zipT t) : ∀ s ∈ zs.filterMap (declK T l), s.length ≤ 150040 := by
  intro s hm
  obtain ⟨z, hzm, e⟩ := List.mem_filterMap.1 hm
  unfold declK at e
  split at e
  · cases e
  · rename_i hn
    injection e with e
    subst e
    have h1 := hw _ (List.of_mem_zip (hz z hzm)).1
    have h2 := hs z (hz z hzm) hn
    rw [List.length_append]; omega
theorem head_len (t : Ty) : (headT t).length ≤ 1 ∧ ∀ s ∈ headT t, s.length ≤ 10 := by
  unfold headT; split <;> simp

theorem parts_a {T : Int → List UInt8} {l : List Ty} {t : Ty} (h : (0 : Int) < ((zipT t).filterMap (termK T)).length) : headT t ++ (zipT t).filterMap (declK T l) ++ [Lib.join ((zipT t).filterMap (termK T)) [32, 124, 32]] = partsT T l t := by
  have : (zipT t).filterMap (termK T) ≠ [] := fun e => by rw [e] at h; exact absurd h (by decide)
  unfold partsT tailT; rw [if_pos this]
theorem parts_b {T : Int → List UInt8} {l : List Ty} {t : Ty} (h : (((zipT t).filterMap (termK T)).length : Int) ≤ 0) (h2 : 2 ≤ t.n) : headT t ++ (zipT t).filterMap (declK T l) ++ [[110, 111, 110, 101]] = partsT T l t := by
  have : (zipT t).filterMap (termK T) = [] := List.eq_nil_of_length_eq_zero (by omega)
  unfold partsT tailT; rw [if_neg (fun e => e this), if_pos h2]
theorem parts_c {T : Int → List UInt8} {l : List Ty} {t : Ty} (h : (((zipT t).filterMap (termK T)).length : Int) ≤ 0) (h2 : t.n < 2) : headT t ++ (zipT t).filterMap (declK T l) = partsT T l t := by
  have : (zipT t).filterMap (termK T) = [] := List.eq_nil_of_length_eq_zero (by omega)
  unfold partsT tailT; rw [if_neg (fun e => e this), if_neg (by omega), List.append_nil]
theorem tail_len {T : Int → List UInt8} {t : Ty} (hT : ∀ x ∈ t.kids, (T x).length ≤ 4001) (hz : (zipT t).length ≤ 16) : (Lib.join ((zipT t).filterMap (termK T)) [32, 124, 32]).length ≤ 70000 ∧ (tailT T t).length ≤ 1 ∧ ∀ s ∈ tailT T t, s.length ≤ 70000 := by
  have h1 := gjoin_len [32, 124, 32] _ (term_len (T := T) (t := t) (zs := zipT t) hT (fun z hz => hz))
  have h2 := List.length_filterMap_le (termK T) (zipT t)
  have e1 := Nat.mul_le_mul_left (4002 + [32, 124, 32].length) (Nat.le_trans h2 hz)
  simp only [List.length_cons, List.length_nil] at e1 h1
  refine ⟨by omega, ?_, ?_⟩
  · unfold tailT; repeat' split
    all_goals simp
  · intro s hs
    unfold tailT at hs
    split at hs
    · have : s = Lib.join ((zipT t).filterMap (termK T)) [32, 124, 32] := by simpa using hs
      rw [this]; omega
    · split at hs
      · have : s = [110, 111, 110, 101] := by simpa using hs
        rw [this]; decide
      · simp at hs

attribute [local irreducible] AC AT AO AK AH ACalls Sub Res.cells Res.obj Res.nix Res.own Res.map Exit.then Exit.inBlock bodyPost Code.wp Next Post Kont
section
variable {W0 : World} {L : List Res} {F : List Fact} {R : Value → List Res → List Fact → Prop}
set_option maxRecDepth 100000
set_option maxHeartbeats 8000000
theorem welems_c (l : List Ty) (hright : rightP l) (T : Int → List UInt8) (hT4 : ∀ x : Int, 0 ≤ x → x < l.length → (T x).length ≤ 4001) {a : Option Addr} {k c bw bm n : Nat} (hn : n < l.length) (ih : TextC W0 l T a k c bw bm n) (t : Ty) (htx : TxOk l n t) (h7 : t.kind = 7) (hword : ∀ w ∈ t.words, w.length ≤ 40)
    {a1 a2 : Option Addr} {k1 c1 k2 c2 i j : Nat} {m : Int → Option (List UInt8)} (mL : fL l a k c ∈ F) (m1 : fW t a1 k1 c1 ∈ F) (m2 : fK t a2 k2 c2 ∈ F)
    (hi : L[i]? = some (Res.cells bw #[.slice a k c, .map (some bm)] 66)) (hj : L[j]? = some (Res.map bm vI S m)) (hij : i ≠ j) (hm : MapOk T m)
    (h : ∀ m', MapOk T m' → R (S (ifaceT T l t)) (L.set j (Res.map bm vI S m')) F) : ACalls Tryd.prog W0 54 #[.pointer (some ⟨bw, 0, none⟩), vTy t a1 k1 c1 a2 k2 c2] L F R := by
  have hml : 1000000000 ≤ maxLen := by decide
  have hjl := has_lt hj
  have hwk := htx.wk (.inr h7)
  have hfew := htx.few
  have hn7 := htx.n7 h7
  have hzl := zip_len hwk
  have hTk : ∀ x ∈ t.kids, (T x).length ≤ 4001 := fun x hm => hT4 x (htx.kids x hm).1 (by have := (htx.kids x hm).2; omega)
  have hrow : ∀ z ∈ zipT t, ∃ r : Nat, z.2 = (r : Int) ∧ r < n ∧ ∃ hr : r < l.length, rowT l z.2 = l[r] := fun z hz => by
    have hb := htx.kids _ (zip_kid hz)
    obtain ⟨r, er⟩ : ∃ r : Nat, z.2 = (r : Int) := ⟨z.2.toNat, by omega⟩
    refine ⟨r, er, by omega, by omega, ?_⟩
    rw [er]; exact row_at (by omega)
  have hsig : ∀ z ∈ zipT t, ¬ markP z.1 → (sigT T (rowT l z.2)).length ≤ 150000 := fun z hz hmk => by
    obtain ⟨r, e, hrn, hr, er⟩ := hrow z hz
    have h5 := htx.fn h7 z hz hmk
    have hxr := tx_of_right hright hr
    rw [er] at h5 ⊢
    exact sig_len (fun x hm => hT4 x (hxr.kids x hm).1 (by have := (hxr.kids x hm).2; omega)) hxr.few (hxr.sig h5)
  have hdl := fun q => decl_len (T := T) (l := l) (zs := (zipT t).take q) hword hsig (fun z hz => List.mem_of_mem_take hz)
  have htl := fun q => term_len (T := T) (t := t) (zs := (zipT t).take q) hTk (fun z hz => List.mem_of_mem_take hz)
  have hhl := head_len t
  have hdn := fun q => fm_len (f := declK T l) (zipT t) q
  have htn := fun q => fm_len (f := termK T) (zipT t) q
  refine ACalls.body Tryd.func54 rfl Tryd.ntmps54 rfl ?_
  refine AC.seq (AC.region (AL.go (AO.box rfl rfl (fun b3 => ?_))))
  refine AL.go (AO.assign rfl rfl (AL.nil (AK.seqN (AC.seq (AC.region (AL.go (AO.assign rfl rfl ?_)))))))
  refine AL.go (AO.assign rfl rfl (AL.nil (AK.seqN (AC.seq (AC.seq (AC.region ?_))))))
  refine AL.go (AO.field rfl rfl ?_)
  refine AT.sub (Sub.ownNil (e := 9) (sz := 1)) ?_
  refine AL.go (AO.loadB rfl rfl ?_)
  refine AL.go (AO.and1 rfl rfl (by omega) (by omega) rfl ?_)
  refine AL.go (AO.eql rfl rfl rfl (fun c12 => ?_) (fun c12 => ?_))
  · refine AL.nil (AK.seqN (AC.condT rfl (AC.region (AL.go (AO.move rfl rfl ?_)))))
    refine AL.go (AO.buildSlice rfl rfl rfl rfl rfl (fun b14 => ?_))
    refine AL.go (AO.append (i := 0) (enc := eS) (lst := []) [[99, 111, 109, 112, 97, 114, 97, 98, 108, 101]] rfl rfl rfl rfl (.val .nil) rfl rfl (fun _ => rfl) (by decide) (by decide) (fun a15 k15 c15 => ?_))
    refine AL.go (AO.assign rfl rfl (AL.nil (AK.seqN (AC.seq (AC.seq (AC.region ?_))))))
    refine AL.go (AO.field rfl rfl ?_)
    refine AL.go (AO.loadB rfl rfl ?_)
    refine AL.go (AO.len rfl rfl (fun hl18 => ?_) (hm := by repeat (first | exact mem0 | assumption | refine memS ?_)))
    refine AL.go (AO.move rfl rfl (AL.nil (AK.seqN (AC.block ?_))))
    first
    | refine AC.loop (fun (x : Nat × (Option Addr × Nat × Nat) × (Option Addr × Nat × Nat) × (Int → Option (List UInt8))) => x.1 ≤ t.words.length ∧ MapOk T x.2.2.2) (fun x => [(0, .pointer (some ⟨bw, 0, none⟩)), (3, .pointer (some ⟨b3, 0, none⟩)), (5, .slice x.2.1.1 x.2.1.2.1 x.2.1.2.2), (6, .slice x.2.2.1.1 x.2.2.1.2.1 x.2.2.1.2.2), (17, .slice a1 k1 c1), (18, .int .i64 t.words.length), (19, .int .i64 (x.1 : Int))]) (fun x => Res.own (.slice x.2.2.1.1 x.2.2.1.2.1 x.2.2.1.2.2) 9 1 ((((zipT t).take x.1).filterMap (termK T)).map eS) :: Res.own (.slice x.2.1.1 x.2.1.2.1 x.2.1.2.2) 9 1 ((headT t ++ ((zipT t).take x.1).filterMap (declK T l)).map eS) :: Res.cells b3 #[.int .i64 t.kind, S t.name, .int .i64 t.n, .slice a1 k1 c1, .slice a2 k2 c2] 31 :: L.set j (Res.map bm vI S x.2.2.2)) (fun _ => F) (fun x => t.words.length - x.1) (0, (a15, k15, c15), (none, 0, 0), m) ⟨Nat.zero_le _, hm⟩ (by repeat (first | exact SubR.nil | refine SubR.cons rfl ?_)) (by rw [show headT t = [[99, 111, 109, 112, 97, 114, 97, 98, 108, 101]] by unfold headT; rw [if_pos (by omega)]]; simp only [List.take_zero, List.filterMap_nil, List.append_nil, List.map_nil, set_same hj]; exact Sub.ownNil) ?_
    | refine AC.loop (fun (x : Nat × (Option Addr × Nat × Nat) × (Option Addr × Nat × Nat) × (Int → Option (List UInt8))) => x.1 ≤ t.words.length ∧ MapOk T x.2.2.2) (fun x => [(0, .pointer (some ⟨bw, 0, none⟩)), (3, .pointer (some ⟨b3, 0, none⟩)), (5, .slice x.2.1.1 x.2.1.2.1 x.2.1.2.2), (6, .slice x.2.2.1.1 x.2.2.1.2.1 x.2.2.1.2.2), (17, .slice a1 k1 c1), (18, .int .i64 t.words.length), (19, .int .i64 (x.1 : Int))]) (fun x => Res.own (.slice x.2.2.1.1 x.2.2.1.2.1 x.2.2.1.2.2) 9 1 ((((zipT t).take x.1).filterMap (termK T)).map eS) :: Res.own (.slice x.2.1.1 x.2.1.2.1 x.2.1.2.2) 9 1 ((headT t ++ ((zipT t).take x.1).filterMap (declK T l)).map eS) :: Res.cells b3 #[.int .i64 t.kind, S t.name, .int .i64 t.n, .slice a1 k1 c1, .slice a2 k2 c2] 31 :: L.set j (Res.map bm vI S x.2.2.2)) (fun _ => F) (fun x => t.words.length - x.1) (0, (none, 0, 0), (none, 0, 0), m) ⟨Nat.zero_le _, hm⟩ (by repeat (first | exact SubR.nil | refine SubR.cons rfl ?_)) (by rw [show headT t = [] by unfold headT; rw [if_neg (by omega)]]; simp only [List.take_zero, List.filterMap_nil, List.append_nil, List.map_nil, set_same hj]; exact Sub.ownNil) ?_
    rintro ⟨q, ⟨ao, ko, co⟩, ⟨at9, kt, ct⟩, m3⟩ ⟨hq, hm3⟩
    simp only at hq hm3 ⊢
    have hi3 : (L.set j (Res.map bm vI S m3))[i]? = some (Res.cells bw #[.slice a k c, .map (some bm)] 66) := set_at hi hij
    have hj3 : (L.set j (Res.map bm vI S m3))[j]? = some (Res.map bm vI S m3) := List.getElem?_set_self hjl
    refine AC.seq (AC.region ?_)
    refine AL.go (AO.lss rfl rfl rfl (fun c20 => ?_) (fun c20 => ?_))
    · refine AL.nil (AK.seqN (AC.seq (AC.condT rfl (AC.skip (AK.seqN ?_)))))
      refine AC.seq (AC.block (AC.seq (AC.region (AL.go (AO.move rfl rfl ?_)))))
      have hql : q < t.words.length := by omega
      have hqk : q < t.kids.length := by omega
      have hqz : q < (zipT t).length := by omega
      have hzg := zip_get hql hqk hqz
      have hb := htx.kids _ (List.getElem_mem hqk)
      have hw4 := hword _ (List.getElem_mem hql)
      have hT1 := hTk _ (List.getElem_mem hqk)
      refine AL.go (AO.indexAddr rfl rfl rfl rfl (show fW t _ _ _ ∈ _ from (by repeat (first | exact mem0 | assumption | refine memS ?_))) hql (fun _ _ => ?_))
      refine AL.go (AO.loadF rfl rfl ?_)
      intros
      refine AL.go (AO.assign rfl rfl (AL.go (AO.assign rfl rfl (AL.nil (AK.seqN (AC.seq (AC.region ?_)))))))
      refine AL.go (AO.move rfl rfl (AL.nil (AK.seqN (AC.block (AC.seq (AC.region ?_))))))
      refine AL.go (AO.eqlS rfl rfl rfl (fun c44 => ?_) (fun c44 => ?_))
      · refine AL.go (AO.assign rfl rfl (AL.nil (AK.seqN (AC.condT rfl (AC.region (AL.go (AO.move rfl rfl ?_)))))))
        refine AL.go (AO.move rfl rfl (AL.go (AO.field rfl rfl ?_)))
        refine AL.go (AO.loadB rfl rfl ?_)
        refine AL.go (AO.move rfl rfl ?_)
        refine AL.go (AO.indexAddr rfl rfl rfl rfl (show fK t _ _ _ ∈ _ from (by repeat (first | exact mem0 | assumption | refine memS ?_))) hqk (fun _ _ => ?_))
        refine AL.go (AO.loadF rfl rfl ?_)
        intros
        refine AL.go (AO.call rfl rfl (ih t.kids[q] hb.1 hb.2 _ _ _ (i + 3) (j + 3) m3 (by repeat (first | exact mem0 | assumption | refine memS ?_)) hi3 hj3 (by omega) hm3 (fun m52 hm52 => ?_)))
        simp only [List.set_cons_succ, List.set_set]
        refine AL.go (AO.buildSlice rfl rfl rfl rfl rfl (fun b53 => ?_))
        refine AL.go (AO.append (i := 0) (enc := eS) (lst := ((zipT t).take q).filterMap (termK T)) [T t.kids[q]] rfl rfl rfl rfl (.val .nil) rfl rfl (fun _ => rfl) (by have := htn q; simp only [maxLen]; omega) (by have := htn q; omega) (fun a54 k54 c54 => ?_))
        rw [fm_some hqz (show termK T (zipT t)[q] = some (T t.kids[q]) by rw [hzg]; unfold termK; rw [if_pos c44]), fm_none (f := declK T l) hqz (by rw [hzg]; unfold declK; rw [if_pos (.inl c44)])]
        refine AL.go (AO.assign rfl rfl (AL.nil (AK.blkN (AK.blkN (AK.seqN (AC.region ?_))))))
        refine AL.go (AO.add rfl rfl rfl (by omega) (by omega) (AL.go (AO.move rfl rfl (AL.nil ?_))))
        refine AK.next (q + 1, (ao, ko, co), (a54, k54, c54), m52) ⟨by simp only; omega, hm52⟩ (by simp only; omega) (by repeat (first | exact SubR.nil | refine SubR.cons rfl ?_)) (by repeat (first | exact Sub.refl _ _ | refine Sub.trans Sub.dropF ?_))
      · refine AL.go (AO.assign rfl rfl (AL.nil (AK.seqN (AC.condF rfl (AC.seq (AC.region ?_))))))
        refine AL.go (AO.eqlS rfl rfl rfl (fun c56 => ?_) (fun c56 => ?_))
        · refine AL.go (AO.assign rfl rfl (AL.nil (AK.seqN (AC.condT rfl (AC.region (AL.go (AO.move rfl rfl ?_)))))))
          refine AL.go (AO.move rfl rfl (AL.go (AO.field rfl rfl ?_)))
          refine AL.go (AO.loadB rfl rfl ?_)
          refine AL.go (AO.move rfl rfl ?_)
          refine AL.go (AO.indexAddr rfl rfl rfl rfl (show fK t _ _ _ ∈ _ from (by repeat (first | exact mem0 | assumption | refine memS ?_))) hqk (fun _ _ => ?_))
          refine AL.go (AO.loadF rfl rfl ?_)
          intros
          refine AL.go (AO.call rfl rfl (ih t.kids[q] hb.1 hb.2 _ _ _ (i + 3) (j + 3) m3 (by repeat (first | exact mem0 | assumption | refine memS ?_)) hi3 hj3 (by omega) hm3 (fun m52 hm52 => ?_)))
          simp only [List.set_cons_succ, List.set_set]
          refine AL.go (AO.addS rfl rfl rfl (by simp only [List.length_cons, List.length_nil]; omega) ?_)
          refine AL.go (AO.buildSlice rfl rfl rfl rfl rfl (fun b53 => ?_))
          refine AL.go (AO.append (i := 0) (enc := eS) (lst := ((zipT t).take q).filterMap (termK T)) [[126] ++ T t.kids[q]] rfl rfl rfl rfl (.val .nil) rfl rfl (fun _ => rfl) (by have := htn q; simp only [maxLen]; omega) (by have := htn q; omega) (fun a54 k54 c54 => ?_))
          rw [fm_some hqz (show termK T (zipT t)[q] = some ([126] ++ T t.kids[q]) by rw [hzg]; unfold termK; rw [if_neg c44, if_pos c56]), fm_none (f := declK T l) hqz (by rw [hzg]; unfold declK; rw [if_pos (.inr c56)])]
          refine AL.go (AO.assign rfl rfl (AL.nil (AK.blkN (AK.blkN (AK.seqN (AC.region ?_))))))
          refine AL.go (AO.add rfl rfl rfl (by omega) (by omega) (AL.go (AO.move rfl rfl (AL.nil ?_))))
          refine AK.next (q + 1, (ao, ko, co), (a54, k54, c54), m52) ⟨by simp only; omega, hm52⟩ (by simp only; omega) (by repeat (first | exact SubR.nil | refine SubR.cons rfl ?_)) (by repeat (first | exact Sub.refl _ _ | refine Sub.trans Sub.dropF ?_))
        · refine AL.go (AO.assign rfl rfl (AL.nil (AK.seqN (AC.condF rfl ?_))))
          refine AC.draw (fun _ => false) [(bw, _, _), (b3, _, _)] (by repeat (first | exact BxIn.nil | refine BxIn.cons (by repeat (first | exact has0 | assumption | apply hasS)) ?_)) rfl (fun hx hX => ?_)
          have hnm : ¬ markP (zipT t)[q].1 := by rw [hzg]; exact fun e => e.elim c44 c56
          obtain ⟨r, er, hrn, hr, erow⟩ := hrow _ (List.getElem_mem hqz)
          have hfn := htx.fn h7 _ (List.getElem_mem hqz) hnm
          have hsl := hsig _ (List.getElem_mem hqz) hnm
          rw [erow] at hfn hsl
          rw [hzg] at er erow
          have hxr := tx_of_right hright hr
          have hkk := (len_of_fact (hX (fK t a2 k2 c2) (by repeat (first | exact mem0 | assumption | refine memS ?_)))).1
          have hll := (len_of_fact (hX (fL l a k c) (by repeat (first | exact mem0 | assumption | refine memS ?_)))).1
          obtain ⟨p2, o2, e2, atq⟩ := row_of_fact (hX (fK t a2 k2 c2) (by repeat (first | exact mem0 | assumption | refine memS ?_))) hqk
          subst e2
          obtain ⟨vq, hvq, hcq⟩ := atq 0 _ rfl
          cases hcq
          obtain ⟨p1, o1, e1, at1⟩ := row_of_fact (hX (fL l a k c) (by repeat (first | exact mem0 | assumption | refine memS ?_))) hr
          subst e1
          obtain ⟨w1, x1, y1, w2, x2, y2, hv1, hw1, hw2⟩ := ty_cells at1
          refine AH.fact hw1 (by repeat (first | exact mem0 | assumption | refine memS ?_)) (AH.fact hw2 (by repeat (first | exact mem0 | assumption | refine memS ?_)) ?_)
          refine AH.takeW (i := 0) rfl (Y.move rfl) (by kernel_rfl) rfl rfl ?_
          refine AH.takeW (i := 1) rfl (Y.move rfl) (by kernel_rfl) rfl rfl ?_
          refine AH.takeW (i := 2) rfl (Y.move rfl) (by kernel_rfl) rfl rfl ?_
          refine AH.takeW (i := 3) rfl (Y.move rfl) (by kernel_rfl) rfl rfl ?_
          refine AH.takeW (i := 4) rfl (Y.nilCheckP rfl) (by kernel_rfl) rfl rfl ?_
          refine AH.takeW (i := 5) rfl (Y.field rfl) (by kernel_rfl) rfl rfl ?_
          refine AH.takeS (i := 6) rfl (Y.loadB rfl (by repeat (first | exact List.Mem.head _ | refine List.Mem.tail _ ?_)) (by rfl)) (by kernel_rfl) (by kernel_rfl) rfl rfl rfl ?_
          refine AH.takeW (i := 7) rfl (Y.field rfl) (by kernel_rfl) rfl rfl ?_
          refine AH.takeS (i := 8) rfl (Y.loadB rfl (by repeat (first | exact List.Mem.head _ | refine List.Mem.tail _ ?_)) (by rfl)) (by kernel_rfl) (by kernel_rfl) rfl rfl rfl ?_
          refine AH.takeW (i := 9) rfl (Y.move rfl) (by kernel_rfl) rfl rfl ?_
          refine AH.takeW (i := 10) rfl (Y.indexAddr (k := q) rfl rfl (by omega) (by omega)) (by kernel_rfl) rfl rfl ?_
          refine AH.takeS (i := 11) rfl (Y.loadF rfl hvq) (by kernel_rfl) (by kernel_rfl) rfl rfl rfl ?_
          refine AH.takeW (i := 12) rfl (Y.indexAddr (k := r) rfl rfl er (by omega)) (by kernel_rfl) rfl rfl ?_
          refine AH.takeS (i := 13) rfl (Y.loadFA rfl rfl hv1) (by kernel_rfl) (by kernel_rfl) rfl rfl rfl ?_
          refine AH.one (i := 14) (by kernel_rfl) rfl rfl (fun _ => ?_)
          refine AO.call rfl rfl (sig_c l T hT4 (by omega) ih l[r] (fun x hm => ⟨(hxr.kids x hm).1, by have := (hxr.kids x hm).2; omega⟩) hxr.few (hxr.sig hfn) (i := i + 3) (j := j + 3) (by repeat (first | exact mem0 | assumption | refine memS ?_)) (by repeat (first | exact mem0 | assumption | refine memS ?_)) hi3 hj3 (by omega) hm3 (fun m52 hm52 => ?_))
          have hi4 : (L.set j (Res.map bm vI S m52))[i]? = some (Res.cells bw #[.slice (some ⟨p1, o1, none⟩) k c, .map (some bm)] 66) := set_at hi hij
          simp only [List.set_cons_succ, List.set_set]
          refine AT.held (by repeat (first | exact BxIn.nil | refine BxIn.cons (by repeat (first | exact has0 | assumption | apply hasS)) ?_)) (by repeat (first | exact mem0 | refine memS ?_)) ?_
          refine AH.takeW (i := 15) rfl (Y.addS rfl rfl (by omega)) (by kernel_rfl) rfl rfl ?_
          refine AH.one (i := 16) (by kernel_rfl) rfl rfl (fun _ => ?_)
          refine AO.buildSlice rfl rfl rfl rfl rfl (fun b53 => ?_)
          refine AT.held (by repeat (first | exact BxIn.nil | refine BxIn.cons (by repeat (first | exact has0 | assumption | apply hasS)) ?_)) (by repeat (first | exact mem0 | refine memS ?_)) ?_
          refine AH.one (i := 17) (by kernel_rfl) rfl rfl (fun _ => ?_)
          refine AO.append (i := 1) (enc := eS) (lst := headT t ++ ((zipT t).take q).filterMap (declK T l)) [t.words[q] ++ sigT T l[r]] rfl rfl rfl rfl (.val .nil) rfl rfl (fun _ => rfl) (by have := hdn q; simp only [maxLen, List.length_append]; omega) (by have := hdn q; simp only [List.length_append]; omega) (fun a54 k54 c54 => ?_)
          rw [List.append_assoc, fm_some hqz (show declK T l (zipT t)[q] = some (t.words[q] ++ sigT T l[r]) by rw [hzg]; unfold declK; rw [if_neg (fun e => e.elim c44 c56), erow]), fm_none (f := termK T) hqz (by rw [hzg]; unfold termK; rw [if_neg c44, if_neg c56])]
          refine AT.held (by repeat (first | exact BxIn.nil | refine BxIn.cons (by repeat (first | exact has0 | assumption | apply hasS)) ?_)) (by repeat (first | exact mem0 | refine memS ?_)) ?_
          refine AH.takeW (i := 18) rfl (Y.assign rfl) (by kernel_rfl) rfl rfl ?_
          refine AH.done (by kernel_rfl) ?_
          refine AK.blkN (AK.blkN (AK.seqN (AC.region (AL.go (AO.add rfl rfl rfl (by omega) (by omega) (AL.go (AO.move rfl rfl ?_)))))))
          refine AL.nil ?_
          refine AK.next (q + 1, (a54, k54, c54), (at9, kt, ct), m52) ⟨by simp only; omega, hm52⟩ (by simp only; omega) (by repeat (first | exact SubR.nil | refine SubR.cons rfl ?_)) (by repeat (first | exact Sub.refl _ _ | refine Sub.trans Sub.dropF ?_))
    · refine AL.nil (AK.seqN (AC.seq (AC.condF rfl (AC.exit (AK.seqX ?_)))))
      refine AK.seqX (AK.blkX (AK.seqN (AC.seq (AC.block (AC.seq ?_)))))
      refine AC.region ?_
      refine AL.go (AO.move rfl rfl ?_)
      have hall : (zipT t).take q = zipT t := List.take_of_length_le (by omega)
      rw [hall]
      refine AT.sub ((Sub.commit (i := 0) rfl).trans Sub.drop) ?_
      have htl9 := tail_len hTk (by omega)
      have hd9 := hdn q
      have ht9 := htn q
      have hdl9 := hdl q
      rw [hall] at hd9 ht9 hdl9
      refine AL.go (AO.len rfl rfl (fun hl71 => ?_) (enc := eS) (lst := (zipT t).filterMap (termK T)) (hm := (by repeat (first | exact mem0 | assumption | refine memS ?_))))
      refine AL.go (AO.gtr rfl rfl rfl (fun c72 => ?_) (fun c72 => ?_))
      · refine AL.go (AO.assign rfl rfl (AL.nil (AK.seqN (AC.condT rfl (AC.region (AL.go (AO.move rfl rfl ?_)))))))
        refine AL.go (AO.move rfl rfl ?_)
        refine AL.go (AO.call rfl rfl (gjoin_c ((zipT t).filterMap (termK T)) [32, 124, 32] (by repeat (first | exact mem0 | assumption | refine memS ?_)) (by omega) (by omega) ?_))
        refine AL.go (AO.buildSlice rfl rfl rfl rfl rfl (fun b76 => ?_))
        refine AL.go (AO.append (i := 0) (enc := eS) (lst := headT t ++ (zipT t).filterMap (declK T l)) [Lib.join ((zipT t).filterMap (termK T)) [32, 124, 32]] rfl rfl rfl rfl (.val .nil) rfl rfl (fun _ => rfl) (by simp only [maxLen, List.length_append]; omega) (by simp only [List.length_append]; omega) (fun a77 k77 c77 => ?_))
        refine AL.go (AO.assign rfl rfl (AL.nil (AK.blkN (AK.seqN (AC.seq (AC.region ?_))))))
        refine AL.go (AO.move rfl rfl ?_)
        first | rw [parts_a c72] | rw [parts_b c72 c81] | rw [parts_c c72 c81]
        refine AT.sub ((Sub.commit (i := 0) rfl).trans Sub.drop) ?_
        have hpn : (partsT T l t).length ≤ 18 := by unfold partsT; simp only [List.length_append]; omega
        have hpl : ∀ s ∈ partsT T l t, s.length ≤ 150040 := fun s hs => by
         unfold partsT at hs
         rcases List.mem_append.1 hs with hs | hs
         · rcases List.mem_append.1 hs with hs | hs
           · have := hhl.2 s hs; omega
           · exact hdl9 s hs
         · have := htl9.2.2 s hs; omega
        have hpj := gjoin_len [59, 32] _ hpl
        have hpe := Nat.mul_le_mul_left (150040 + [59, 32].length) hpn
        simp only [List.length_cons, List.length_nil] at hpj hpe
        refine AL.go (AO.call rfl rfl (gjoin_c (partsT T l t) [59, 32] (by repeat (first | exact mem0 | assumption | refine memS ?_)) (by omega) (by omega) ?_))
        refine AL.go (AO.addS rfl rfl rfl (by simp only [List.length_cons, List.length_nil]; omega) ?_)
        refine AL.go (AO.addS rfl rfl rfl (by simp only [List.length_append, List.length_cons, List.length_nil]; omega) ?_)
        refine AL.go (AO.assign rfl rfl (AL.nil (AK.seqN (AC.ret ?_))))
        exact AK.ret Tryd.results54 rfl (by repeat (first | exact Sub.refl _ _ | refine Sub.trans Sub.drop ?_ | refine Sub.trans Sub.dropF ?_)) (h _ hm3)
      · refine AL.go (AO.assign rfl rfl (AL.nil (AK.seqN (AC.condF rfl (AC.seq (AC.region ?_))))))
        refine AL.go (AO.field rfl rfl ?_)
        refine AL.go (AO.loadB rfl rfl ?_)
        refine AL.go (AO.geq rfl rfl rfl (fun c81 => ?_) (fun c81 => ?_))
        · refine AL.go (AO.assign rfl rfl (AL.nil (AK.seqN (AC.condT rfl (AC.region (AL.go (AO.move rfl rfl ?_)))))))
          refine AL.go (AO.buildSlice rfl rfl rfl rfl rfl (fun b76 => ?_))
          refine AL.go (AO.append (i := 0) (enc := eS) (lst := headT t ++ (zipT t).filterMap (declK T l)) [[110, 111, 110, 101]] rfl rfl rfl rfl (.val .nil) rfl rfl (fun _ => rfl) (by simp only [maxLen, List.length_append]; omega) (by simp only [List.length_append]; omega) (fun a77 k77 c77 => ?_))
          refine AL.go (AO.assign rfl rfl (AL.nil (AK.blkN (AK.seqN (AC.seq (AC.region ?_))))))
          refine AL.go (AO.move rfl rfl ?_)
          first | rw [parts_a c72] | rw [parts_b c72 c81] | rw [parts_c c72 c81]
          refine AT.sub ((Sub.commit (i := 0) rfl).trans Sub.drop) ?_
          have hpn : (partsT T l t).length ≤ 18 := by unfold partsT; simp only [List.length_append]; omega
          have hpl : ∀ s ∈ partsT T l t, s.length ≤ 150040 := fun s hs => by
           unfold partsT at hs
           rcases List.mem_append.1 hs with hs | hs
           · rcases List.mem_append.1 hs with hs | hs
             · have := hhl.2 s hs; omega
             · exact hdl9 s hs
           · have := htl9.2.2 s hs; omega
          have hpj := gjoin_len [59, 32] _ hpl
          have hpe := Nat.mul_le_mul_left (150040 + [59, 32].length) hpn
          simp only [List.length_cons, List.length_nil] at hpj hpe
          refine AL.go (AO.call rfl rfl (gjoin_c (partsT T l t) [59, 32] (by repeat (first | exact mem0 | assumption | refine memS ?_)) (by omega) (by omega) ?_))
          refine AL.go (AO.addS rfl rfl rfl (by simp only [List.length_cons, List.length_nil]; omega) ?_)
          refine AL.go (AO.addS rfl rfl rfl (by simp only [List.length_append, List.length_cons, List.length_nil]; omega) ?_)
          refine AL.go (AO.assign rfl rfl (AL.nil (AK.seqN (AC.ret ?_))))
          exact AK.ret Tryd.results54 rfl (by repeat (first | exact Sub.refl _ _ | refine Sub.trans Sub.drop ?_ | refine Sub.trans Sub.dropF ?_)) (h _ hm3)
        · refine AL.go (AO.assign rfl rfl (AL.nil (AK.seqN (AC.condF rfl (AC.skip (AK.blkN ?_))))))
          refine AK.seqN (AC.seq (AC.region ?_))
          refine AL.go (AO.move rfl rfl ?_)
          first | rw [parts_a c72] | rw [parts_b c72 c81] | rw [parts_c c72 c81]
          refine AT.sub ((Sub.commit (i := 0) rfl).trans Sub.drop) ?_
          have hpn : (partsT T l t).length ≤ 18 := by unfold partsT; simp only [List.length_append]; omega
          have hpl : ∀ s ∈ partsT T l t, s.length ≤ 150040 := fun s hs => by
           unfold partsT at hs
           rcases List.mem_append.1 hs with hs | hs
           · rcases List.mem_append.1 hs with hs | hs
             · have := hhl.2 s hs; omega
             · exact hdl9 s hs
           · have := htl9.2.2 s hs; omega
          have hpj := gjoin_len [59, 32] _ hpl
          have hpe := Nat.mul_le_mul_left (150040 + [59, 32].length) hpn
          simp only [List.length_cons, List.length_nil] at hpj hpe
          refine AL.go (AO.call rfl rfl (gjoin_c (partsT T l t) [59, 32] (by repeat (first | exact mem0 | assumption | refine memS ?_)) (by omega) (by omega) ?_))
          refine AL.go (AO.addS rfl rfl rfl (by simp only [List.length_cons, List.length_nil]; omega) ?_)
          refine AL.go (AO.addS rfl rfl rfl (by simp only [List.length_append, List.length_cons, List.length_nil]; omega) ?_)
          refine AL.go (AO.assign rfl rfl (AL.nil (AK.seqN (AC.ret ?_))))
          exact AK.ret Tryd.results54 rfl (by repeat (first | exact Sub.refl _ _ | refine Sub.trans Sub.drop ?_ | refine Sub.trans Sub.dropF ?_)) (h _ hm3)
  · refine AL.nil (AK.seqN (AC.condF rfl (AC.skip (AK.seqN (AC.seq ?_)))))
    refine AC.seq (AC.region (AL.go (AO.field rfl rfl ?_)))
    refine AL.go (AO.loadB rfl rfl ?_)
    refine AL.go (AO.len rfl rfl (fun hl18 => ?_) (hm := by repeat (first | exact mem0 | assumption | refine memS ?_)))
    refine AL.go (AO.move rfl rfl (AL.nil (AK.seqN (AC.block ?_))))
    first
    | refine AC.loop (fun (x : Nat × (Option Addr × Nat × Nat) × (Option Addr × Nat × Nat) × (Int → Option (List UInt8))) => x.1 ≤ t.words.length ∧ MapOk T x.2.2.2) (fun x => [(0, .pointer (some ⟨bw, 0, none⟩)), (3, .pointer (some ⟨b3, 0, none⟩)), (5, .slice x.2.1.1 x.2.1.2.1 x.2.1.2.2), (6, .slice x.2.2.1.1 x.2.2.1.2.1 x.2.2.1.2.2), (17, .slice a1 k1 c1), (18, .int .i64 t.words.length), (19, .int .i64 (x.1 : Int))]) (fun x => Res.own (.slice x.2.2.1.1 x.2.2.1.2.1 x.2.2.1.2.2) 9 1 ((((zipT t).take x.1).filterMap (termK T)).map eS) :: Res.own (.slice x.2.1.1 x.2.1.2.1 x.2.1.2.2) 9 1 ((headT t ++ ((zipT t).take x.1).filterMap (declK T l)).map eS) :: Res.cells b3 #[.int .i64 t.kind, S t.name, .int .i64 t.n, .slice a1 k1 c1, .slice a2 k2 c2] 31 :: L.set j (Res.map bm vI S x.2.2.2)) (fun _ => F) (fun x => t.words.length - x.1) (0, (a15, k15, c15), (none, 0, 0), m) ⟨Nat.zero_le _, hm⟩ (by repeat (first | exact SubR.nil | refine SubR.cons rfl ?_)) (by rw [show headT t = [[99, 111, 109, 112, 97, 114, 97, 98, 108, 101]] by unfold headT; rw [if_pos (by omega)]]; simp only [List.take_zero, List.filterMap_nil, List.append_nil, List.map_nil, set_same hj]; exact Sub.ownNil) ?_
    | refine AC.loop (fun (x : Nat × (Option Addr × Nat × Nat) × (Option Addr × Nat × Nat) × (Int → Option (List UInt8))) => x.1 ≤ t.words.length ∧ MapOk T x.2.2.2) (fun x => [(0, .pointer (some ⟨bw, 0, none⟩)), (3, .pointer (some ⟨b3, 0, none⟩)), (5, .slice x.2.1.1 x.2.1.2.1 x.2.1.2.2), (6, .slice x.2.2.1.1 x.2.2.1.2.1 x.2.2.1.2.2), (17, .slice a1 k1 c1), (18, .int .i64 t.words.length), (19, .int .i64 (x.1 : Int))]) (fun x => Res.own (.slice x.2.2.1.1 x.2.2.1.2.1 x.2.2.1.2.2) 9 1 ((((zipT t).take x.1).filterMap (termK T)).map eS) :: Res.own (.slice x.2.1.1 x.2.1.2.1 x.2.1.2.2) 9 1 ((headT t ++ ((zipT t).take x.1).filterMap (declK T l)).map eS) :: Res.cells b3 #[.int .i64 t.kind, S t.name, .int .i64 t.n, .slice a1 k1 c1, .slice a2 k2 c2] 31 :: L.set j (Res.map bm vI S x.2.2.2)) (fun _ => F) (fun x => t.words.length - x.1) (0, (none, 0, 0), (none, 0, 0), m) ⟨Nat.zero_le _, hm⟩ (by repeat (first | exact SubR.nil | refine SubR.cons rfl ?_)) (by rw [show headT t = [] by unfold headT; rw [if_neg (by omega)]]; simp only [List.take_zero, List.filterMap_nil, List.append_nil, List.map_nil, set_same hj]; exact Sub.ownNil) ?_
    rintro ⟨q, ⟨ao, ko, co⟩, ⟨at9, kt, ct⟩, m3⟩ ⟨hq, hm3⟩
    simp only at hq hm3 ⊢
    have hi3 : (L.set j (Res.map bm vI S m3))[i]? = some (Res.cells bw #[.slice a k c, .map (some bm)] 66) := set_at hi hij
    have hj3 : (L.set j (Res.map bm vI S m3))[j]? = some (Res.map bm vI S m3) := List.getElem?_set_self hjl
    refine AC.seq (AC.region ?_)
    refine AL.go (AO.lss rfl rfl rfl (fun c20 => ?_) (fun c20 => ?_))
    · refine AL.nil (AK.seqN (AC.seq (AC.condT rfl (AC.skip (AK.seqN ?_)))))
      refine AC.seq (AC.block (AC.seq (AC.region (AL.go (AO.move rfl rfl ?_)))))
      have hql : q < t.words.length := by omega
      have hqk : q < t.kids.length := by omega
      have hqz : q < (zipT t).length := by omega
      have hzg := zip_get hql hqk hqz
      have hb := htx.kids _ (List.getElem_mem hqk)
      have hw4 := hword _ (List.getElem_mem hql)
      have hT1 := hTk _ (List.getElem_mem hqk)
      refine AL.go (AO.indexAddr rfl rfl rfl rfl (show fW t _ _ _ ∈ _ from (by repeat (first | exact mem0 | assumption | refine memS ?_))) hql (fun _ _ => ?_))
      refine AL.go (AO.loadF rfl rfl ?_)
      intros
      refine AL.go (AO.assign rfl rfl (AL.go (AO.assign rfl rfl (AL.nil (AK.seqN (AC.seq (AC.region ?_)))))))
      refine AL.go (AO.move rfl rfl (AL.nil (AK.seqN (AC.block (AC.seq (AC.region ?_))))))
      refine AL.go (AO.eqlS rfl rfl rfl (fun c44 => ?_) (fun c44 => ?_))
      · refine AL.go (AO.assign rfl rfl (AL.nil (AK.seqN (AC.condT rfl (AC.region (AL.go (AO.move rfl rfl ?_)))))))
        refine AL.go (AO.move rfl rfl (AL.go (AO.field rfl rfl ?_)))
        refine AL.go (AO.loadB rfl rfl ?_)
        refine AL.go (AO.move rfl rfl ?_)
        refine AL.go (AO.indexAddr rfl rfl rfl rfl (show fK t _ _ _ ∈ _ from (by repeat (first | exact mem0 | assumption | refine memS ?_))) hqk (fun _ _ => ?_))
        refine AL.go (AO.loadF rfl rfl ?_)
        intros
        refine AL.go (AO.call rfl rfl (ih t.kids[q] hb.1 hb.2 _ _ _ (i + 3) (j + 3) m3 (by repeat (first | exact mem0 | assumption | refine memS ?_)) hi3 hj3 (by omega) hm3 (fun m52 hm52 => ?_)))
        simp only [List.set_cons_succ, List.set_set]
        refine AL.go (AO.buildSlice rfl rfl rfl rfl rfl (fun b53 => ?_))
        refine AL.go (AO.append (i := 0) (enc := eS) (lst := ((zipT t).take q).filterMap (termK T)) [T t.kids[q]] rfl rfl rfl rfl (.val .nil) rfl rfl (fun _ => rfl) (by have := htn q; simp only [maxLen]; omega) (by have := htn q; omega) (fun a54 k54 c54 => ?_))
        rw [fm_some hqz (show termK T (zipT t)[q] = some (T t.kids[q]) by rw [hzg]; unfold termK; rw [if_pos c44]), fm_none (f := declK T l) hqz (by rw [hzg]; unfold declK; rw [if_pos (.inl c44)])]
        refine AL.go (AO.assign rfl rfl (AL.nil (AK.blkN (AK.blkN (AK.seqN (AC.region ?_))))))
        refine AL.go (AO.add rfl rfl rfl (by omega) (by omega) (AL.go (AO.move rfl rfl (AL.nil ?_))))
        refine AK.next (q + 1, (ao, ko, co), (a54, k54, c54), m52) ⟨by simp only; omega, hm52⟩ (by simp only; omega) (by repeat (first | exact SubR.nil | refine SubR.cons rfl ?_)) (by repeat (first | exact Sub.refl _ _ | refine Sub.trans Sub.dropF ?_))
      · refine AL.go (AO.assign rfl rfl (AL.nil (AK.seqN (AC.condF rfl (AC.seq (AC.region ?_))))))
        refine AL.go (AO.eqlS rfl rfl rfl (fun c56 => ?_) (fun c56 => ?_))
        · refine AL.go (AO.assign rfl rfl (AL.nil (AK.seqN (AC.condT rfl (AC.region (AL.go (AO.move rfl rfl ?_)))))))
          refine AL.go (AO.move rfl rfl (AL.go (AO.field rfl rfl ?_)))
          refine AL.go (AO.loadB rfl rfl ?_)
          refine AL.go (AO.move rfl rfl ?_)
          refine AL.go (AO.indexAddr rfl rfl rfl rfl (show fK t _ _ _ ∈ _ from (by repeat (first | exact mem0 | assumption | refine memS ?_))) hqk (fun _ _ => ?_))
          refine AL.go (AO.loadF rfl rfl ?_)
          intros
          refine AL.go (AO.call rfl rfl (ih t.kids[q] hb.1 hb.2 _ _ _ (i + 3) (j + 3) m3 (by repeat (first | exact mem0 | assumption | refine memS ?_)) hi3 hj3 (by omega) hm3 (fun m52 hm52 => ?_)))
          simp only [List.set_cons_succ, List.set_set]
          refine AL.go (AO.addS rfl rfl rfl (by simp only [List.length_cons, List.length_nil]; omega) ?_)
          refine AL.go (AO.buildSlice rfl rfl rfl rfl rfl (fun b53 => ?_))
          refine AL.go (AO.append (i := 0) (enc := eS) (lst := ((zipT t).take q).filterMap (termK T)) [[126] ++ T t.kids[q]] rfl rfl rfl rfl (.val .nil) rfl rfl (fun _ => rfl) (by have := htn q; simp only [maxLen]; omega) (by have := htn q; omega) (fun a54 k54 c54 => ?_))
          rw [fm_some hqz (show termK T (zipT t)[q] = some ([126] ++ T t.kids[q]) by rw [hzg]; unfold termK; rw [if_neg c44, if_pos c56]), fm_none (f := declK T l) hqz (by rw [hzg]; unfold declK; rw [if_pos (.inr c56)])]
          refine AL.go (AO.assign rfl rfl (AL.nil (AK.blkN (AK.blkN (AK.seqN (AC.region ?_))))))
          refine AL.go (AO.add rfl rfl rfl (by omega) (by omega) (AL.go (AO.move rfl rfl (AL.nil ?_))))
          refine AK.next (q + 1, (ao, ko, co), (a54, k54, c54), m52) ⟨by simp only; omega, hm52⟩ (by simp only; omega) (by repeat (first | exact SubR.nil | refine SubR.cons rfl ?_)) (by repeat (first | exact Sub.refl _ _ | refine Sub.trans Sub.dropF ?_))
        · refine AL.go (AO.assign rfl rfl (AL.nil (AK.seqN (AC.condF rfl ?_))))
          refine AC.draw (fun _ => false) [(bw, _, _), (b3, _, _)] (by repeat (first | exact BxIn.nil | refine BxIn.cons (by repeat (first | exact has0 | assumption | apply hasS)) ?_)) rfl (fun hx hX => ?_)
          have hnm : ¬ markP (zipT t)[q].1 := by rw [hzg]; exact fun e => e.elim c44 c56
          obtain ⟨r, er, hrn, hr, erow⟩ := hrow _ (List.getElem_mem hqz)
          have hfn := htx.fn h7 _ (List.getElem_mem hqz) hnm
          have hsl := hsig _ (List.getElem_mem hqz) hnm
          rw [erow] at hfn hsl
          rw [hzg] at er erow
          have hxr := tx_of_right hright hr
          have hkk := (len_of_fact (hX (fK t a2 k2 c2) (by repeat (first | exact mem0 | assumption | refine memS ?_)))).1
          have hll := (len_of_fact (hX (fL l a k c) (by repeat (first | exact mem0 | assumption | refine memS ?_)))).1
          obtain ⟨p2, o2, e2, atq⟩ := row_of_fact (hX (fK t a2 k2 c2) (by repeat (first | exact mem0 | assumption | refine memS ?_))) hqk
          subst e2
          obtain ⟨vq, hvq, hcq⟩ := atq 0 _ rfl
          cases hcq
          obtain ⟨p1, o1, e1, at1⟩ := row_of_fact (hX (fL l a k c) (by repeat (first | exact mem0 | assumption | refine memS ?_))) hr
          subst e1
          obtain ⟨w1, x1, y1, w2, x2, y2, hv1, hw1, hw2⟩ := ty_cells at1
          refine AH.fact hw1 (by repeat (first | exact mem0 | assumption | refine memS ?_)) (AH.fact hw2 (by repeat (first | exact mem0 | assumption | refine memS ?_)) ?_)
          refine AH.takeW (i := 0) rfl (Y.move rfl) (by kernel_rfl) rfl rfl ?_
          refine AH.takeW (i := 1) rfl (Y.move rfl) (by kernel_rfl) rfl rfl ?_
          refine AH.takeW (i := 2) rfl (Y.move rfl) (by kernel_rfl) rfl rfl ?_
          refine AH.takeW (i := 3) rfl (Y.move rfl) (by kernel_rfl) rfl rfl ?_
          refine AH.takeW (i := 4) rfl (Y.nilCheckP rfl) (by kernel_rfl) rfl rfl ?_
          refine AH.takeW (i := 5) rfl (Y.field rfl) (by kernel_rfl) rfl rfl ?_
          refine AH.takeS (i := 6) rfl (Y.loadB rfl (by repeat (first | exact List.Mem.head _ | refine List.Mem.tail _ ?_)) (by rfl)) (by kernel_rfl) (by kernel_rfl) rfl rfl rfl ?_
          refine AH.takeW (i := 7) rfl (Y.field rfl) (by kernel_rfl) rfl rfl ?_
          refine AH.takeS (i := 8) rfl (Y.loadB rfl (by repeat (first | exact List.Mem.head _ | refine List.Mem.tail _ ?_)) (by rfl)) (by kernel_rfl) (by kernel_rfl) rfl rfl rfl ?_
          refine AH.takeW (i := 9) rfl (Y.move rfl) (by kernel_rfl) rfl rfl ?_
          refine AH.takeW (i := 10) rfl (Y.indexAddr (k := q) rfl rfl (by omega) (by omega)) (by kernel_rfl) rfl rfl ?_
          refine AH.takeS (i := 11) rfl (Y.loadF rfl hvq) (by kernel_rfl) (by kernel_rfl) rfl rfl rfl ?_
          refine AH.takeW (i := 12) rfl (Y.indexAddr (k := r) rfl rfl er (by omega)) (by kernel_rfl) rfl rfl ?_
          refine AH.takeS (i := 13) rfl (Y.loadFA rfl rfl hv1) (by kernel_rfl) (by kernel_rfl) rfl rfl rfl ?_
          refine AH.one (i := 14) (by kernel_rfl) rfl rfl (fun _ => ?_)
          refine AO.call rfl rfl (sig_c l T hT4 (by omega) ih l[r] (fun x hm => ⟨(hxr.kids x hm).1, by have := (hxr.kids x hm).2; omega⟩) hxr.few (hxr.sig hfn) (i := i + 3) (j := j + 3) (by repeat (first | exact mem0 | assumption | refine memS ?_)) (by repeat (first | exact mem0 | assumption | refine memS ?_)) hi3 hj3 (by omega) hm3 (fun m52 hm52 => ?_))
          have hi4 : (L.set j (Res.map bm vI S m52))[i]? = some (Res.cells bw #[.slice (some ⟨p1, o1, none⟩) k c, .map (some bm)] 66) := set_at hi hij
          simp only [List.set_cons_succ, List.set_set]
          refine AT.held (by repeat (first | exact BxIn.nil | refine BxIn.cons (by repeat (first | exact has0 | assumption | apply hasS)) ?_)) (by repeat (first | exact mem0 | refine memS ?_)) ?_
          refine AH.takeW (i := 15) rfl (Y.addS rfl rfl (by omega)) (by kernel_rfl) rfl rfl ?_
          refine AH.one (i := 16) (by kernel_rfl) rfl rfl (fun _ => ?_)
          refine AO.buildSlice rfl rfl rfl rfl rfl (fun b53 => ?_)
          refine AT.held (by repeat (first | exact BxIn.nil | refine BxIn.cons (by repeat (first | exact has0 | assumption | apply hasS)) ?_)) (by repeat (first | exact mem0 | refine memS ?_)) ?_
          refine AH.one (i := 17) (by kernel_rfl) rfl rfl (fun _ => ?_)
          refine AO.append (i := 1) (enc := eS) (lst := headT t ++ ((zipT t).take q).filterMap (declK T l)) [t.words[q] ++ sigT T l[r]] rfl rfl rfl rfl (.val .nil) rfl rfl (fun _ => rfl) (by have := hdn q; simp only [maxLen, List.length_append]; omega) (by have := hdn q; simp only [List.length_append]; omega) (fun a54 k54 c54 => ?_)
          rw [List.append_assoc, fm_some hqz (show declK T l (zipT t)[q] = some (t.words[q] ++ sigT T l[r]) by rw [hzg]; unfold declK; rw [if_neg (fun e => e.elim c44 c56), erow]), fm_none (f := termK T) hqz (by rw [hzg]; unfold termK; rw [if_neg c44, if_neg c56])]
          refine AT.held (by repeat (first | exact BxIn.nil | refine BxIn.cons (by repeat (first | exact has0 | assumption | apply hasS)) ?_)) (by repeat (first | exact mem0 | refine memS ?_)) ?_
          refine AH.takeW (i := 18) rfl (Y.assign rfl) (by kernel_rfl) rfl rfl ?_
          refine AH.done (by kernel_rfl) ?_
          refine AK.blkN (AK.blkN (AK.seqN (AC.region (AL.go (AO.add rfl rfl rfl (by omega) (by omega) (AL.go (AO.move rfl rfl ?_)))))))
          refine AL.nil ?_
          refine AK.next (q + 1, (a54, k54, c54), (at9, kt, ct), m52) ⟨by simp only; omega, hm52⟩ (by simp only; omega) (by repeat (first | exact SubR.nil | refine SubR.cons rfl ?_)) (by repeat (first | exact Sub.refl _ _ | refine Sub.trans Sub.dropF ?_))
    · refine AL.nil (AK.seqN (AC.seq (AC.condF rfl (AC.exit (AK.seqX ?_)))))
      refine AK.seqX (AK.blkX (AK.seqN (AC.seq (AC.block (AC.seq ?_)))))
      refine AC.region ?_
      refine AL.go (AO.move rfl rfl ?_)
      have hall : (zipT t).take q = zipT t := List.take_of_length_le (by omega)
      rw [hall]
      refine AT.sub ((Sub.commit (i := 0) rfl).trans Sub.drop) ?_
      have htl9 := tail_len hTk (by omega)
      have hd9 := hdn q
      have ht9 := htn q
      have hdl9 := hdl q
      rw [hall] at hd9 ht9 hdl9
      refine AL.go (AO.len rfl rfl (fun hl71 => ?_) (enc := eS) (lst := (zipT t).filterMap (termK T)) (hm := (by repeat (first | exact mem0 | assumption | refine memS ?_))))
      refine AL.go (AO.gtr rfl rfl rfl (fun c72 => ?_) (fun c72 => ?_))
      · refine AL.go (AO.assign rfl rfl (AL.nil (AK.seqN (AC.condT rfl (AC.region (AL.go (AO.move rfl rfl ?_)))))))
        refine AL.go (AO.move rfl rfl ?_)
        refine AL.go (AO.call rfl rfl (gjoin_c ((zipT t).filterMap (termK T)) [32, 124, 32] (by repeat (first | exact mem0 | assumption | refine memS ?_)) (by omega) (by omega) ?_))
        refine AL.go (AO.buildSlice rfl rfl rfl rfl rfl (fun b76 => ?_))
        refine AL.go (AO.append (i := 0) (enc := eS) (lst := headT t ++ (zipT t).filterMap (declK T l)) [Lib.join ((zipT t).filterMap (termK T)) [32, 124, 32]] rfl rfl rfl rfl (.val .nil) rfl rfl (fun _ => rfl) (by simp only [maxLen, List.length_append]; omega) (by simp only [List.length_append]; omega) (fun a77 k77 c77 => ?_))
        refine AL.go (AO.assign rfl rfl (AL.nil (AK.blkN (AK.seqN (AC.seq (AC.region ?_))))))
        refine AL.go (AO.move rfl rfl ?_)
        first | rw [parts_a c72] | rw [parts_b c72 c81] | rw [parts_c c72 c81]
        refine AT.sub ((Sub.commit (i := 0) rfl).trans Sub.drop) ?_
        have hpn : (partsT T l t).length ≤ 18 := by unfold partsT; simp only [List.length_append]; omega
        have hpl : ∀ s ∈ partsT T l t, s.length ≤ 150040 := fun s hs => by
         unfold partsT at hs
         rcases List.mem_append.1 hs with hs | hs
         · rcases List.mem_append.1 hs with hs | hs
           · have := hhl.2 s hs; omega
           · exact hdl9 s hs
         · have := htl9.2.2 s hs; omega
        have hpj := gjoin_len [59, 32] _ hpl
        have hpe := Nat.mul_le_mul_left (150040 + [59, 32].length) hpn
        simp only [List.length_cons, List.length_nil] at hpj hpe
        refine AL.go (AO.call rfl rfl (gjoin_c (partsT T l t) [59, 32] (by repeat (first | exact mem0 | assumption | refine memS ?_)) (by omega) (by omega) ?_))
        refine AL.go (AO.addS rfl rfl rfl (by simp only [List.length_cons, List.length_nil]; omega) ?_)
        refine AL.go (AO.addS rfl rfl rfl (by simp only [List.length_append, List.length_cons, List.length_nil]; omega) ?_)
        refine AL.go (AO.assign rfl rfl (AL.nil (AK.seqN (AC.ret ?_))))
        exact AK.ret Tryd.results54 rfl (by repeat (first | exact Sub.refl _ _ | refine Sub.trans Sub.drop ?_ | refine Sub.trans Sub.dropF ?_)) (h _ hm3)
      · refine AL.go (AO.assign rfl rfl (AL.nil (AK.seqN (AC.condF rfl (AC.seq (AC.region ?_))))))
        refine AL.go (AO.field rfl rfl ?_)
        refine AL.go (AO.loadB rfl rfl ?_)
        refine AL.go (AO.geq rfl rfl rfl (fun c81 => ?_) (fun c81 => ?_))
        · refine AL.go (AO.assign rfl rfl (AL.nil (AK.seqN (AC.condT rfl (AC.region (AL.go (AO.move rfl rfl ?_)))))))
          refine AL.go (AO.buildSlice rfl rfl rfl rfl rfl (fun b76 => ?_))
          refine AL.go (AO.append (i := 0) (enc := eS) (lst := headT t ++ (zipT t).filterMap (declK T l)) [[110, 111, 110, 101]] rfl rfl rfl rfl (.val .nil) rfl rfl (fun _ => rfl) (by simp only [maxLen, List.length_append]; omega) (by simp only [List.length_append]; omega) (fun a77 k77 c77 => ?_))
          refine AL.go (AO.assign rfl rfl (AL.nil (AK.blkN (AK.seqN (AC.seq (AC.region ?_))))))
          refine AL.go (AO.move rfl rfl ?_)
          first | rw [parts_a c72] | rw [parts_b c72 c81] | rw [parts_c c72 c81]
          refine AT.sub ((Sub.commit (i := 0) rfl).trans Sub.drop) ?_
          have hpn : (partsT T l t).length ≤ 18 := by unfold partsT; simp only [List.length_append]; omega
          have hpl : ∀ s ∈ partsT T l t, s.length ≤ 150040 := fun s hs => by
           unfold partsT at hs
           rcases List.mem_append.1 hs with hs | hs
           · rcases List.mem_append.1 hs with hs | hs
             · have := hhl.2 s hs; omega
             · exact hdl9 s hs
           · have := htl9.2.2 s hs; omega
          have hpj := gjoin_len [59, 32] _ hpl
          have hpe := Nat.mul_le_mul_left (150040 + [59, 32].length) hpn
          simp only [List.length_cons, List.length_nil] at hpj hpe
          refine AL.go (AO.call rfl rfl (gjoin_c (partsT T l t) [59, 32] (by repeat (first | exact mem0 | assumption | refine memS ?_)) (by omega) (by omega) ?_))
          refine AL.go (AO.addS rfl rfl rfl (by simp only [List.length_cons, List.length_nil]; omega) ?_)
          refine AL.go (AO.addS rfl rfl rfl (by simp only [List.length_append, List.length_cons, List.length_nil]; omega) ?_)
          refine AL.go (AO.assign rfl rfl (AL.nil (AK.seqN (AC.ret ?_))))
          exact AK.ret Tryd.results54 rfl (by repeat (first | exact Sub.refl _ _ | refine Sub.trans Sub.drop ?_ | refine Sub.trans Sub.dropF ?_)) (h _ hm3)
        · refine AL.go (AO.assign rfl rfl (AL.nil (AK.seqN (AC.condF rfl (AC.skip (AK.blkN ?_))))))
          refine AK.seqN (AC.seq (AC.region ?_))
          refine AL.go (AO.move rfl rfl ?_)
          first | rw [parts_a c72] | rw [parts_b c72 c81] | rw [parts_c c72 c81]
          refine AT.sub ((Sub.commit (i := 0) rfl).trans Sub.drop) ?_
          have hpn : (partsT T l t).length ≤ 18 := by unfold partsT; simp only [List.length_append]; omega
          have hpl : ∀ s ∈ partsT T l t, s.length ≤ 150040 := fun s hs => by
           unfold partsT at hs
           rcases List.mem_append.1 hs with hs | hs
           · rcases List.mem_append.1 hs with hs | hs
             · have := hhl.2 s hs; omega
             · exact hdl9 s hs
           · have := htl9.2.2 s hs; omega
          have hpj := gjoin_len [59, 32] _ hpl
          have hpe := Nat.mul_le_mul_left (150040 + [59, 32].length) hpn
          simp only [List.length_cons, List.length_nil] at hpj hpe
          refine AL.go (AO.call rfl rfl (gjoin_c (partsT T l t) [59, 32] (by repeat (first | exact mem0 | assumption | refine memS ?_)) (by omega) (by omega) ?_))
          refine AL.go (AO.addS rfl rfl rfl (by simp only [List.length_cons, List.length_nil]; omega) ?_)
          refine AL.go (AO.addS rfl rfl rfl (by simp only [List.length_append, List.length_cons, List.length_nil]; omega) ?_)
          refine AL.go (AO.assign rfl rfl (AL.nil (AK.seqN (AC.ret ?_))))
          exact AK.ret Tryd.results54 rfl (by repeat (first | exact Sub.refl _ _ | refine Sub.trans Sub.drop ?_ | refine Sub.trans Sub.dropF ?_)) (h _ hm3)
end
end Go.Sy
