/- Joined of my own texts: UnS, UnT. -/
import Derived.Test.YtinolpaapcpijaaGreatDoorK15
namespace Go.Sy
open Go Go.Proofs Go.RowKit
def ownZ (zs : List Tm) : List Mth := (zs.filter fun z => isName z.1).map fun z => ⟨z.1, false, z.2⟩
theorem ownZ_yes {zs : List Tm} {q : Nat} (hq : q < zs.length) (h : isName zs[q].1 = true) : ownZ (zs.take q) ++ [⟨zs[q].1, false, zs[q].2⟩] = ownZ (zs.take (q + 1)) := by
  unfold ownZ
  rw [List.take_succ_eq_append_getElem hq, List.filter_append, List.map_append]
  simp [h]
theorem ownZ_no {zs : List Tm} {q : Nat} (hq : q < zs.length) (h : isName zs[q].1 = false) : ownZ (zs.take q) = ownZ (zs.take (q + 1)) := by
  unfold ownZ
  rw [List.take_succ_eq_append_getElem hq, List.filter_append, List.map_append]
  simp [h]
theorem ownZ_len (zs : List Tm) : (ownZ zs).length ≤ zs.length := by
  unfold ownZ; rw [List.length_map]; exact List.length_filter_le ..
def msOk (T : List Ty) (ms : List Mth) : Prop := ∀ i (hi : i < ms.length), isK T ms[i].sig 5 ∧ (0 < i → Op.bytesLess (ms[i - 1]'(by omega)).name ms[i].name = true)
theorem mark_not_name {w : List UInt8} (h : isName w = true) : ¬ markP w := by
  rintro (e | e) <;> subst e <;> exact absurd h (by decide)
theorem own_ok {T : List Ty} {N : List Nmd} (hu : rightU T N) {n : Nat} (hn : n < T.length) (h7 : T[n].kind = 7) : msOk T (ownZ (zips T[n])) := by
  have h := hu.1.2.2 n hn
  unfold rowAt at h
  by_cases c : n < 22
  · rw [if_pos c] at h
    have hql : n < startL.length := by rw [start_len]; exact c
    rw [start_get hql] at h
    obtain ⟨_, h2, _, _⟩ := start_plain _ (List.getElem_mem hql)
    have hz : zips T[n] = [] := by unfold zips; rw [h, h2]; rfl
    rw [hz]
    exact fun i hi => absurd hi (by simp [ownZ])
  · rw [if_neg c] at h
    have hE := (madeK_7 h7).1 h.1.2.2.2.2
    have hkids := h.1.1
    have htl : (T.take n).length = n := by rw [List.length_take]; omega
    rw [kidsP, htl] at hkids
    obtain ⟨ds, ms, hz, hd, hm, _⟩ := elems_parts hE
    obtain ⟨hlen, _, _, hall⟩ := hE
    have hzl := zips_kids hlen
    have hdl : ds.length ≤ T[n].words.length := by
      have : (zips T[n]).length = ds.length + ms.length := by rw [hz, List.length_append]
      omega
    have hdg : ∀ j (hj : j < ds.length), ds[j] = (T[n].words[j]'(by omega), T[n].kids[j]'(by omega)) := by
      intro j hj
      have h1 : (zips T[n])[j]'(by omega) = ds[j] := by
        simp only [hz]; rw [List.getElem_append_left hj]
      rw [← h1]; simp [zips]
    have hel : ∀ j (hj : j < ds.length), isName (T[n].words[j]'(by omega)) = true ∧ kindAt (T.take n) (T[n].kids[j]'(by omega)) = 5 ∧ (0 < j → Op.bytesLess (T[n].words[j - 1]'(by omega)) (T[n].words[j]'(by omega)) = true) := by
      intro j hj
      have hdj := hd _ (List.getElem_mem hj)
      rw [hdg j hj] at hdj
      rcases hall j (by omega) with e | ⟨_, e2, e3, e4⟩
      · exact absurd e.1 hdj
      · have hk : kidAt T[n] j = T[n].kids[j]'(by omega) := by unfold kidAt; exact getD_eq _ _
        rw [hk] at e3
        refine ⟨e2, e3, fun h0 => ?_⟩
        have := (e4 h0).2
        rwa [getD_eq _ (by omega)] at this
    have hown : ownZ (zips T[n]) = ds.map fun z => ⟨z.1, false, z.2⟩ := by
      unfold ownZ
      rw [hz, List.filter_append, (List.filter_eq_self (l := ds)).2 (fun z hz => ?_), (List.filter_eq_nil_iff (l := ms)).2 (fun z hz e => mark_not_name e (hm z hz)), List.append_nil]
      obtain ⟨j, hj, rfl⟩ := List.getElem_of_mem hz
      rw [hdg j hj]; exact (hel j hj).1
    rw [hown]
    intro i hi
    rw [List.length_map] at hi
    have hb := hkids _ (List.getElem_mem (show i < T[n].kids.length by omega))
    obtain ⟨_, e5, e6⟩ := hel i hi
    simp only [List.getElem_map]
    rw [hdg i hi]
    refine ⟨⟨hb.1, by simp only; omega, ?_⟩, fun h0 => ?_⟩
    · simp only
      rw [← e5]
      unfold kindAt
      rw [List.getElem?_take_of_lt (by omega)]
    · rw [hdg (i - 1) (by omega)]
      exact e6 h0
theorem eMt_set {ms : List Mth} {q : Nat} (hq : q < ms.length) (x : Int) : (ms.map eMt).set q ((eMt ms[q]).set 2 (.val (.int .i64 x))) = (ms.set q ⟨ms[q].name, ms[q].ptr, x⟩).map eMt := by
  rw [List.map_set]; rfl
attribute [local irreducible] AC AT AO AK AH ACalls Sub Res.cells Res.nix Res.own Res.map Exit.then Exit.inBlock bodyPost Code.wp Code.wpIn WL Next Post Kont
section
variable {W0 : World} {L : List Res} {F : List Fact} {R : Value → List Res → List Fact → Prop}
set_option maxRecDepth 100000
set_option maxHeartbeats 16000000
theorem uput_c (g : Glob W0) (T : List Ty) (N : List Nmd) (hok : ∀ t ∈ T, TyOk t) (hno : ∀ n ∈ N, NmOk n) (t : Ty) (ht : TyOk t) {a a2 a3 a4 : Option Addr} {k c k2 c2 k3 c3 k4 c4 : Nat} (mL : fL T a k c ∈ F) (mN : fN N a2 k2 c2 ∈ F) (m3 : fW t a3 k3 c3 ∈ F) (m4 : fK t a4 k4 c4 ∈ F)
    (hE : ∀ e, e ≠ 0 → R (.tuple #[.agg #[.slice none 0 0, .slice none 0 0], .int .i64 0, .int .i64 e]) L F)
    (hO : rightU T N → fitsU N t → ∀ l' i a k c, AddP T t l' i 0 → R (.tuple #[.agg #[.slice a k c, .slice a2 k2 c2], .int .i64 i, .int .i64 0]) L (fL l' a k c :: F)) :
    ACalls Tryz.prog W0 12 #[.agg #[.slice a k c, .slice a2 k2 c2], vTy t a3 k3 c3 a4 k4 c4] L F R := by
  refine ACalls.body Tryz.func12 rfl Tryz.ntmps12 rfl ?_
  refine AC.seq (AC.region (AL.go (AO.box rfl rfl (fun b2 => ?_))))
  refine AL.go (AO.box rfl rfl (fun b3 => ?_))
  refine AL.go (AO.alloc rfl (fun b4 => ?_))
  refine AL.go (AO.assign rfl rfl (AL.go (AO.assign rfl rfl (AL.nil (AK.seqN (AC.seq (AC.seq ?_)))))))
  refine AC.region ?_
  refine AL.go (AO.loadBA rfl rfl ?_)
  refine AL.go (AO.call rfl rfl (uright_c g T N hok hno mL mN (fun c11 => ?_) (fun c11 => ?_)))
  ·refine AL.go (AO.not rfl rfl (AL.nil (AK.seqN (AC.condF rfl (AC.skip (AK.seqN ?_))))))
   refine AC.seq (AC.region (AL.go (AO.field rfl rfl ?_)))
   refine AL.go (AO.loadB rfl rfl ?_)
   refine AL.go (AO.loadBA rfl rfl ?_)
   refine AL.go (AO.call rfl rfl (add2_c g T hok t ht memA memA memA (fun c => absurd c11.1 c) (fun _ l' i e a18 k18 c18 hP => ?_)))
   refine AL.go (AO.move rfl rfl (AL.go (AO.extract rfl rfl rfl (AL.go (AO.extract rfl rfl rfl (AL.go (AO.extract rfl rfl rfl (AL.go (AO.assign rfl rfl (AL.go (AO.assign rfl rfl ?_)))))))))))
   refine AL.go (AO.assign rfl rfl (AL.nil (AK.seqN (AC.seq (AC.block (AC.seq ?_))))))
   refine AC.region (AL.go (AO.move rfl rfl ?_))
   refine AL.go (AO.neq rfl rfl rfl (fun c24 => ?_) (fun c24 => ?_))
   ·refine AL.go (AO.assign rfl rfl (AL.nil (AK.seqN (AC.condT rfl (AC.seq (AC.region ?_))))))
    refine AL.go (AO.build rfl rfl rfl ?_)
    refine AL.go (AO.move rfl rfl ?_)
    refine AL.go (AO.storeBA rfl rfl rfl rfl ?_)
    refine AL.go (AO.assign rfl rfl (AL.go (AO.assign rfl rfl (AL.nil (AK.seqN (AC.ret (AK.blkR ?_)))))))
    refine AK.seqR ?_
    exact AK.retV (rs := [.cell 4 _, .tmp 5, .tmp 6]) (L' := L) (F' := F) Tryz.results12 (.agg (j := 0) rfl rfl rfl (.tmp rfl (.tmp rfl .nil))) subA (hE e c24)
   ·refine AL.go (AO.assign rfl rfl (AL.nil (AK.seqN (AC.condF rfl (AC.seq (AC.region ?_))))))
    refine AL.go (AO.loadBA rfl rfl ?_)
    refine AL.go (AO.loadBA rfl rfl ?_)
    refine AL.go (AO.call rfl rfl (fits_c N t memA memA (fun c30 => ?_) (fun c30 => ?_)))
    ·refine AL.go (AO.not rfl rfl (AL.go (AO.assign rfl rfl (AL.nil (AK.seqN (AC.condF rfl (AC.skip ?_)))))))
     refine AK.blkN (AK.seqN (AC.seq (AC.region (AL.go (AO.move rfl rfl (AL.go (AO.field rfl rfl ?_)))))))
     refine AL.go (AO.storeB rfl rfl rfl ?_)
     refine AL.nil (AK.seqN (AC.seq (AC.region ?_)))
     refine AL.go (AO.loadBA rfl rfl ?_)
     refine AL.go (AO.move rfl rfl ?_)
     refine AL.go (AO.storeBA rfl rfl rfl rfl ?_)
     refine AL.go (AO.assign rfl rfl (AL.go (AO.assign rfl rfl (AL.nil (AK.seqN (AC.ret ?_))))))
     subst c24
     exact AK.retV (rs := [.cell 4 _, .tmp 5, .tmp 6]) (L' := L) (F' := fL l' a18 k18 c18 :: F) Tryz.results12 (.agg (j := 0) rfl rfl rfl (.tmp rfl (.tmp rfl .nil))) (Sub.drop.trans (Sub.drop.trans (Sub.drop.trans (Sub.headF (fun x hx => by repeat (first | exact hx | refine List.mem_cons_of_mem _ ?_)))))) (hO c11 c30 l' i a18 k18 c18 hP)
    ·refine AL.go (AO.not rfl rfl (AL.go (AO.assign rfl rfl (AL.nil (AK.seqN (AC.condT rfl (AC.seq ?_)))))))
     refine AC.region ?_
     refine AL.go (AO.build rfl rfl rfl ?_)
     refine AL.go (AO.storeBA rfl rfl rfl rfl ?_)
     refine AL.go (AO.assign rfl rfl (AL.go (AO.assign rfl rfl (AL.nil (AK.seqN (AC.ret (AK.blkR ?_)))))))
     refine AK.seqR ?_
     exact AK.retV (rs := [.cell 4 _, .tmp 5, .tmp 6]) (L' := L) (F' := F) Tryz.results12 (.agg (j := 0) rfl rfl rfl (.tmp rfl (.tmp rfl .nil))) subA (hE 8 (by decide))
  ·refine AL.go (AO.not rfl rfl (AL.nil (AK.seqN (AC.condT rfl (AC.seq (AC.region ?_))))))
   refine AL.go (AO.build rfl rfl rfl ?_)
   refine AL.go (AO.storeBA rfl rfl rfl rfl ?_)
   refine AL.go (AO.assign rfl rfl (AL.go (AO.assign rfl rfl (AL.nil (AK.seqN (AC.ret (AK.seqR ?_)))))))
   exact AK.retV (rs := [.cell 4 _, .tmp 5, .tmp 6]) (L' := L) (F' := F) Tryz.results12 (.agg (j := 0) rfl rfl rfl (.tmp rfl (.tmp rfl .nil))) subA (hE 1 (by decide))
theorem own_c (t : Ty) (hw : t.words.length = t.kids.length) (hl : t.kids.length ≤ 20) {a3 a4 : Option Addr} {k3 c3 k4 c4 : Nat} (m3 : fW t a3 k3 c3 ∈ F) (m4 : fK t a4 k4 c4 ∈ F)
    (h : ∀ a k c, R (.slice a k c) L (fMs (ownZ (zips t)) a k c :: F)) : ACalls Tryz.prog W0 57 #[vTy t a3 k3 c3 a4 k4 c4] L F R := by
  have hzl := zips_len hw
  refine ACalls.body Tryz.func57 rfl Tryz.ntmps57 rfl ?_
  refine AC.seq (AC.region (AL.go (AO.box rfl rfl (fun b1 => ?_))))
  refine AL.go (AO.assign rfl rfl (AL.nil (AK.seqN (AC.seq (AC.region (AL.go (AO.assign rfl rfl ?_)))))))
  refine AL.nil (AK.seqN (AC.seq (AC.seq (AC.region (AL.go (AO.field rfl rfl ?_))))))
  refine AL.go (AO.loadB rfl rfl ?_)
  refine AL.go (AO.len rfl rfl (fun hl8 => ?_) (enc := eS) (lst := t.words) (hm := m3))
  refine AL.go (AO.move rfl rfl (AL.nil (AK.seqN (AC.block ?_))))
  refine AC.loop (fun (x : Nat × Option Addr × Nat × Nat) => x.1 ≤ t.words.length) (fun x => [(1, .pointer (some ⟨b1, 0, none⟩)), (3, .slice x.2.1 x.2.2.1 x.2.2.2), (7, .slice a3 k3 c3), (8, .int .i64 t.words.length), (9, .int .i64 (x.1 : Int))]) (fun x => Res.own (.slice x.2.1 x.2.2.1 x.2.2.2) 44 3 ((ownZ ((zips t).take x.1)).map eMt) :: _) (fun _ => F) (fun x => t.words.length - x.1) (0, none, 0, 0) (by simp) srA Sub.ownNil ?_
  rintro ⟨q, a5, k5, c5⟩ hq
  simp only at hq ⊢
  refine AC.seq (AC.region ?_)
  refine AL.go (AO.lss rfl rfl rfl (fun c10 => ?_) (fun c10 => ?_))
  ·refine AL.nil (AK.seqN (AC.seq (AC.condT rfl (AC.skip (AK.seqN ?_)))))
   refine AC.seq (AC.block (AC.seq (AC.region (AL.go (AO.move rfl rfl ?_)))))
   have hql : q < t.words.length := by omega
   have hqk : q < t.kids.length := by omega
   have hqz : q < (zips t).length := by omega
   have hzg := zips_get hql hqk hqz
   have hol := ownZ_len ((zips t).take q)
   have htl : ((zips t).take q).length = q := by rw [List.length_take]; omega
   refine AL.go (AO.indexAddr rfl rfl rfl rfl (show fW t _ _ _ ∈ _ from memA) hql (fun _ _ => ?_))
   refine AL.go (AO.loadF rfl rfl ?_)
   intros
   refine AL.go (AO.assign rfl rfl (AL.go (AO.assign rfl rfl (AL.nil (AK.seqN (AC.seq (AC.region ?_)))))))
   refine AL.go (AO.move rfl rfl ?_)
   refine AL.go (AO.call rfl rfl (src_Name_c t.words[q] (fun c15 => ?_) (fun c15 => ?_)))
   ·refine AL.nil (AK.seqN (AC.condT rfl (AC.region (AL.go (AO.move rfl rfl (AL.go (AO.move rfl rfl ?_)))))))
    refine AL.go (AO.field rfl rfl ?_)
    refine AL.go (AO.loadB rfl rfl ?_)
    refine AL.go (AO.move rfl rfl ?_)
    refine AL.go (AO.indexAddr rfl rfl rfl rfl (show fK t _ _ _ ∈ _ from memA) hqk (fun _ _ => ?_))
    refine AL.go (AO.loadF rfl rfl ?_)
    intros
    refine AL.go (AO.build rfl rfl rfl ?_)
    refine AL.go (AO.buildSlice rfl rfl rfl rfl rfl (fun b24 => ?_))
    refine AL.go (AO.append (i := 0) (enc := eMt) (lst := ownZ ((zips t).take q)) [⟨t.words[q], false, t.kids[q]⟩] rfl rfl rfl rfl (.val (.val (.val .nil))) rfl rfl (fun _ => rfl) (by simp only [maxLen]; omega) (by omega) (fun a25 k25 c25 => ?_))
    have hy := ownZ_yes hqz (by rw [hzg]; exact c15)
    rw [hzg] at hy
    rw [hy]
    refine AL.go (AO.assign rfl rfl (AL.nil (AK.blkN (AK.seqN (AC.region (AL.go (AO.add rfl rfl rfl (by omega) (by omega) ?_)))))))
    refine AL.go (AO.move rfl rfl (AL.nil ?_))
    exact AK.next (q + 1, a25, k25, c25) (by simp only; omega) (by simp only; omega) srA subF
   ·refine AL.nil (AK.seqN (AC.condF rfl (AC.skip (AK.blkN (AK.seqN ?_)))))
    refine AC.region (AL.go (AO.add rfl rfl rfl (by omega) (by omega) (AL.go (AO.move rfl rfl (AL.nil ?_)))))
    refine AK.next (q + 1, a5, k5, c5) (by simp only; omega) (by simp only; omega) srA ?_
    rw [ownZ_no hqz (by rw [hzg]; exact c15)]
    exact subF
  ·refine AL.nil (AK.seqN (AC.seq (AC.condF rfl (AC.exit (AK.seqX ?_)))))
   refine AK.seqX (AK.blkX (AK.seqN (AC.seq (AC.region ?_))))
   refine AL.go (AO.move rfl rfl ?_)
   have hall : (zips t).take q = zips t := List.take_of_length_le (by omega)
   rw [hall]
   refine AT.sub (Sub.commit (i := 0) rfl) ?_
   refine AL.go (AO.assign rfl rfl (AL.nil (AK.seqN (AC.ret ?_))))
   exact AK.ret (L' := L) (F' := fMs (ownZ (zips t)) a5 k5 c5 :: F) Tryz.results57 rfl (Sub.drop.trans (Sub.drop.trans (Sub.headF (fun x hx => by repeat (first | exact hx | refine List.mem_cons_of_mem _ ?_))))) (h _ _ _)
theorem cloneM_c (ms : List Mth) (hl : ms.length ≤ 1000) {a : Option Addr} {k c : Nat} (m1 : fMs ms a k c ∈ F) (h : ∀ a k c, R (.slice a k c) (Res.own (.slice a k c) 44 3 (ms.map eMt) :: L) F) : ACalls Tryz.prog W0 58 #[.slice a k c] L F R := by
  refine ACalls.body Tryz.func58 rfl Tryz.ntmps58 rfl ?_
  refine AC.seq (AC.region (AL.go (AO.assign rfl rfl (AL.nil (AK.seqN (AC.seq ?_))))))
  refine AC.seq (AC.region (AL.go (AO.move rfl rfl ?_)))
  refine AL.go (AO.eqlSN Tryz.underlying40 rfl rfl rfl (fun c4 => ?_) (fun b4 c4 => ?_))
  ·refine AL.nil (AK.seqN (AC.condT rfl (AC.seq (AC.region (AL.go (AO.assign rfl rfl ?_))))))
   refine AL.nil (AK.seqN (AC.ret (AK.seqR ?_)))
   first
   | exact AK.ret Tryz.results58 rfl (Sub.refl _ _) (h a7 k7 z7)
   | (subst c4; exact AK.ret (F' := F) Tryz.results58 rfl (Sub.ownNone m1) (h none 0 0))
  ·refine AL.nil (AK.seqN (AC.condF rfl (AC.skip (AK.seqN (AC.seq ?_)))))
   refine AC.region ?_
   refine AL.go (AO.buildSlice0 rfl (fun b5 => ?_))
   refine AT.sub (Sub.toOwn (i := 0) (k := 0) (sz := 3) (enc := eMt) [] rfl .nil (fun _ => rfl) rfl (by decide)) ?_
   refine AL.go (AO.move rfl rfl ?_)
   refine AL.go (AO.appendF (i := 0) (enc := eMt) (lst := []) (lst2 := ms) rfl rfl rfl rfl memA (fun x d hd v hv => by subst hv; simp at hd; rcases hd with rfl | rfl | rfl <;> rfl) (fun _ => rfl) (by simp only [maxLen, List.length_nil]; omega) (by simp only [List.length_nil]; omega) (fun a7 k7 z7 => ?_))
   refine AL.go (AO.assign rfl rfl (AL.nil (AK.seqN (AC.ret ?_))))
   first
   | exact AK.ret Tryz.results58 rfl (Sub.refl _ _) (h a7 k7 z7)
   | (subst c4; exact AK.ret (F' := F) Tryz.results58 rfl (Sub.ownNone m1) (h none 0 0))
structure MthU (T : List Ty) (N : List Nmd) (ms : List Mth) (q : Nat) (o : List Ty) (out : List Mth) : Prop where
  right : rightU o N
  pre : T <+: o
  len : out.length = ms.length
  done : ∀ j (hj : j < out.length) (hm : j < ms.length), j < q → out[j].name = ms[j].name ∧ isK o out[j].sig 5
  rest : ∀ j (hj : j < out.length) (hm : j < ms.length), q ≤ j → out[j] = ms[j]
theorem MthU.step {T : List Ty} {N : List Nmd} {ms : List Mth} {q : Nat} {o : List Ty} {out : List Mth} (h : MthU T N ms q o out) (hq : q < ms.length) (hq2 : q < out.length) {o2 : List Ty} {x : Int} (hr : rightU o2 N) (hp : o <+: o2) (hk : isK o2 x 5) : MthU T N ms (q + 1) o2 (out.set q ⟨out[q].name, out[q].ptr, x⟩) := by
  refine ⟨hr, h.pre.trans hp, by rw [List.length_set]; exact h.len, fun j hj hm hjq => ?_, fun j hj hm hjq => ?_⟩
  · rw [List.length_set] at hj
    by_cases e : q = j
    · subst e
      rw [List.getElem_set_self]
      exact ⟨by rw [h.rest q hj hm (Nat.le_refl _)], hk⟩
    · rw [List.getElem_set_ne e]
      have := h.done j hj hm (by omega)
      exact ⟨this.1, isK_up hp this.2⟩
  · rw [List.length_set] at hj
    rw [List.getElem_set_ne (by omega)]
    exact h.rest j hj hm (by omega)
theorem MthU.ok {T : List Ty} {N : List Nmd} {n : Nmd} {o : List Ty} {out : List Mth} (hm : methodsP T n) (h : MthU T N n.methods n.methods.length o out) : msOk o out := by
  intro i hi
  have hl := h.len
  have h1 := h.done i hi (by omega) (by omega)
  refine ⟨h1.2, fun h0 => ?_⟩
  have h2 := h.done (i - 1) (by omega) (by omega) (by omega)
  have h3 := (hm.2.1 i (by omega)).2.2.2 h0
  rw [getD_eq default (by omega)] at h3
  rw [h1.1, h2.1]
  exact h3
theorem umethods_c (g : Glob W0) (T : List Ty) (N : List Nmd) (hok : ∀ t ∈ T, TyOk t) (hno : ∀ n ∈ N, NmOk n) (i : Int) {a a2 : Option Addr} {k c k2 c2 : Nat} (mL : fL T a k c ∈ F) (mN : fN N a2 k2 c2 ∈ F) (mE : Fact.slc (.slice none 0 0) 5 [] ∈ F) (mM : Fact.slc (.slice none 0 0) 3 [] ∈ F)
    (hE : ∀ e, e ≠ 0 → (rightU T N → e ≠ 1) → R (.tuple #[.agg #[.slice none 0 0, .slice none 0 0], .slice none 0 0, .int .i64 e]) L F)
    (hO : ∀ o ms a k c a' k' c', rightU o N → msOk o ms → R (.tuple #[.agg #[.slice a k c, .slice a2 k2 c2], .slice a' k' c', .int .i64 0]) L (fL o a k c :: fMs ms a' k' c' :: F)) :
    ACalls Tryz.prog W0 17 #[.agg #[.slice a k c, .slice a2 k2 c2], .int .i64 i] L F R := by
  refine ACalls.body Tryz.func17 rfl Tryz.ntmps17 rfl ?_
  refine AC.seq (AC.region (AL.go (AO.box rfl rfl (fun b2 => ?_))))
  refine AL.go (AO.alloc rfl (fun b4 => ?_))
  refine AL.go (AO.assign rfl rfl (AL.go (AO.assign rfl rfl (AL.nil (AK.seqN (AC.seq (AC.seq ?_)))))))
  refine AC.region ?_
  refine AL.go (AO.loadBA rfl rfl ?_)
  refine AL.go (AO.move rfl rfl ?_)
  refine AL.go (AO.call rfl rfl (uthere_c g T N hok hno i mL mN (fun e he => ?_) (fun c13 d13 => ?_)))
  ·refine AL.go (AO.assign rfl rfl (AL.nil (AK.seqN (AC.seq (AC.region (AL.go (AO.move rfl rfl ?_)))))))
   refine AL.go (AO.neq rfl rfl rfl (fun _ => ?_) (fun c15 => absurd c15 (by rcases he with ⟨_, h⟩ | ⟨_, _, h⟩ <;> omega)))
   refine AL.nil (AK.seqN (AC.condT rfl (AC.seq (AC.region ?_))))
   refine AL.go (AO.build rfl rfl rfl ?_)
   refine AL.go (AO.move rfl rfl ?_)
   refine AL.go (AO.storeBA rfl rfl rfl rfl ?_)
   refine AL.go (AO.assign rfl rfl (AL.go (AO.assign rfl rfl (AL.nil (AK.seqN (AC.ret (AK.seqR ?_)))))))
   exact AK.retV (rs := [.cell 4 _, .tmp 5, .tmp 6]) (L' := L) (F' := F) Tryz.results17 (.agg (j := 0) rfl rfl rfl (.tmp rfl (.tmp rfl .nil))) subA (hE e (by rcases he with ⟨_, h⟩ | ⟨_, _, h⟩ <;> omega) (fun hr => by rcases he with ⟨h, _⟩ | ⟨_, _, h⟩; exact absurd hr h; omega))
  ·refine AL.go (AO.assign rfl rfl (AL.nil (AK.seqN (AC.seq (AC.region (AL.go (AO.move rfl rfl ?_)))))))
   refine AL.go (AO.neq rfl rfl rfl (fun c15 => absurd rfl c15) (fun _ => ?_))
   refine AL.nil (AK.seqN (AC.condF rfl (AC.skip (AK.seqN (AC.seq ?_)))))
   refine AC.region (AL.go (AO.field rfl rfl ?_))
   refine AL.go (AO.loadB rfl rfl ?_)
   refine AL.go (AO.move rfl rfl ?_)
   obtain ⟨n, rfl⟩ : ∃ n : Nat, i = (n : Int) := ⟨i.toNat, by omega⟩
   have hn : n < T.length := by omega
   have hkl := (hok _ (List.getElem_mem hn)).kids
   refine AL.go (AO.indexAddr rfl rfl rfl rfl (enc := eTy) (lst := T) memA hn (fun _ _ => ?_))
   refine AL.go (AO.loadFA rfl rfl ?_)
   intro a28 k28 z28 d28 e28 f28
   refine AL.go (AO.alloc rfl (fun b8 => ?_))
   refine AL.go (AO.storeBA rfl rfl rfl rfl ?_)
   refine AL.nil (AK.seqN (AC.seq (AC.seq (AC.region (AL.go (AO.field rfl rfl ?_))))))
   refine AL.go (AO.loadB rfl rfl ?_)
   refine AL.nil (AK.seqN (AC.block (AC.seq (AC.region ?_))))
   refine AL.go (AO.eql rfl rfl rfl (fun c32 => ?_) (fun c32 => ?_))
   ·refine AL.go (AO.assign rfl rfl (AL.nil (AK.seqN (AC.condT rfl (AC.seq ?_)))))
    refine AC.draw (fun _ => false) [(b2, _, _), (b8, _, _)] bxA rfl (fun hx hX => ?_)
    refine AH.takeS (i := 0) rfl (Y.loadBA rfl lmA (by rfl)) (by kernel_rfl) (by kernel_rfl) rfl rfl rfl ?_
    refine AH.takeS (i := 1) rfl (Y.loadBA rfl lmA (by rfl)) (by kernel_rfl) (by kernel_rfl) rfl rfl rfl ?_
    refine AH.one (i := 2) (by kernel_rfl) rfl rfl (fun _ => ?_)
    refine AO.call rfl rfl (own_c T[n] ((rt_of_right c13.1 hn).iface c32) hkl (show fW T[n] _ _ _ ∈ _ from memA) (show fK T[n] _ _ _ ∈ _ from memA) (fun a35 k35 z35 => ?_))
    refine AT.held bxA memB ?_
    refine AH.one (i := 3) (by kernel_rfl) rfl rfl (fun _ => ?_)
    refine AO.storeBA rfl rfl rfl rfl ?_
    refine AT.held bxA memB ?_
    refine AH.takeW (i := 4) rfl (Y.assign rfl) (by kernel_rfl) rfl rfl ?_
    refine AH.takeW (i := 5) rfl (Y.assign rfl) (by kernel_rfl) rfl rfl ?_
    refine AH.done (by kernel_rfl) ?_
    refine AK.seqN (AC.ret (AK.blkR (AK.seqR ?_)))
    exact AK.retV (rs := [.cell 4 _, .tmp 5, .tmp 6]) (L' := L) (F' := fL T a k c :: fMs (ownZ (zips T[n])) a35 k35 z35 :: F) Tryz.results17 (.agg (j := 1) rfl rfl rfl (.tmp rfl (.tmp rfl .nil))) (Sub.drop.trans (Sub.drop.trans (Sub.drop.trans (Sub.facts (mem2 memA memA (fun x hx => by repeat (first | exact hx | refine List.mem_cons_of_mem _ ?_))))))) (hO T _ a k c a35 k35 z35 c13 (own_ok c13 hn c32))
   ·refine AL.go (AO.assign rfl rfl (AL.nil (AK.seqN (AC.condF rfl (AC.seq (AC.region ?_))))))
    refine AL.go (AO.eql rfl rfl rfl (fun c37 => ?_) (fun c37 => ?_))
    ·refine AL.go (AO.assign rfl rfl (AL.nil (AK.seqN (AC.condT rfl (AC.seq (AC.region ?_))))))
     refine AL.go (AO.loadBA rfl rfl ?_)
     refine AL.go (AO.field rfl rfl ?_)
     refine AL.go (AO.loadB rfl rfl ?_)
     refine AL.go (AO.call rfl rfl (at_c N T[n].name memA (fun j c42 => ?_) (fun c42 => by obtain ⟨i, hi, _⟩ := c13.2.2.2 _ (List.getElem_mem hn) c37; rw [c42] at hi; exact absurd hi (by simp))))
     refine AL.go (AO.move rfl rfl (AL.go (AO.extract rfl rfl rfl (AL.go (AO.extract rfl rfl rfl (AL.go (AO.assign rfl rfl (AL.go (AO.assign rfl rfl (AL.nil ?_))))))))))
     refine AK.seqN (AC.seq (AC.region (AL.go (AO.field rfl rfl ?_))))
     refine AL.go (AO.loadB rfl rfl ?_)
     refine AL.go (AO.move rfl rfl ?_)
     obtain ⟨hjl, _⟩ := atN_some c42
     have hnm := (c13.2.2.1 j hjl).1
     have hm16 := hnm.2.2.2.1
     refine AL.go (AO.indexAddr rfl rfl rfl rfl (enc := eNm) (lst := N) memA hjl (fun _ _ => ?_))
     refine AL.go (AO.fieldAt rfl rfl (fun _ => ?_))
     refine AL.go (AO.loadF rfl rfl ?_)
     intro a50 k50 z50
     refine AL.go (AO.call rfl rfl (cloneM_c N[j].methods (by omega) memA (fun a51 k51 z51 => ?_)))
     refine AL.go (AO.assign rfl rfl (AL.nil (AK.seqN (AC.seq (AC.seq (AC.region ?_))))))
     refine AL.go (AO.move rfl rfl ?_)
     refine AL.go (AO.lenO (i := 0) rfl rfl rfl (fun hk53 => ?_))
     rw [List.length_map]
     refine AL.go (AO.move rfl rfl (AL.nil (AK.seqN (AC.block ?_))))
     refine AC.loop (fun (x : Nat × (List Ty × List Mth) × (Option Addr × Nat × Nat)) => x.1 ≤ N[j].methods.length ∧ MthU T N N[j].methods x.1 x.2.1.1 x.2.1.2) (fun x => [(2, .pointer (some ⟨b2, 0, none⟩)), (4, .pointer (some ⟨b4, 0, none⟩)), (8, .pointer (some ⟨b8, 0, none⟩)), (11, .slice a51 k51 z51), (52, .slice a51 k51 z51), (53, .int .i64 N[j].methods.length), (54, .int .i64 (x.1 : Int))]) (fun x => Res.own (.slice a51 k51 z51) 44 3 (x.2.1.2.map eMt) :: _ :: _ :: Res.cells b2 #[.slice x.2.2.1 x.2.2.2.1 x.2.2.2.2, .slice a2 k2 c2] _ :: _) (fun x => fL x.2.1.1 x.2.2.1 x.2.2.2.1 x.2.2.2.2 :: _) (fun x => N[j].methods.length - x.1) (0, (T, N[j].methods), (a, k, c)) ⟨Nat.zero_le _, ⟨c13, List.prefix_rfl, rfl, fun j hj hm h => absurd h (by omega), fun j hj hm _ => rfl⟩⟩ srA (Sub.facts (mem1 memA (fun x hx => hx))) ?_
     rintro ⟨q, ⟨o, out⟩, ⟨a1, k1, c1⟩⟩ ⟨hq, hM⟩
     simp only at hq hM ⊢
     refine AC.seq (AC.region ?_)
     refine AL.go (AO.lss rfl rfl rfl (fun c55 => ?_) (fun c55 => ?_))
     ·refine AL.nil (AK.seqN (AC.seq (AC.condT rfl (AC.skip (AK.seqN ?_)))))
      refine AC.seq (AC.block (AC.seq (AC.region (AL.go (AO.move rfl rfl ?_)))))
      have hqm : q < N[j].methods.length := by omega
      have hml := hM.len
      have hqo : q < out.length := by omega
      have hpl := hM.pre.length_le
      obtain ⟨hm1, ⟨hm2, hm3, hm4⟩, hm5, _⟩ := hnm.2.2.2.2.1 q hqm
      have hsq := hM.rest q hqo hqm (Nat.le_refl _)
      obtain ⟨u, hu⟩ : ∃ u : Nat, out[q].sig = (u : Int) := ⟨out[q].sig.toNat, by rw [hsq]; omega⟩
      have hum : N[j].methods[q].sig = (u : Int) := by rw [← hsq]; exact hu
      rw [hum] at hm2 hm3 hm4 hm5
      have hul : u < T.length := by omega
      have hask : askAt T u ≤ N[j].bounds.length := by have := hm5.2.2; rwa [Int.toNat_natCast] at this
      have hok2 := right_ok hM.right.1
      refine AL.go (AO.indexAddrO (i := 0) (q := q) rfl rfl rfl rfl rfl (by rw [List.length_map]; exact hqo) (fun bo ho => ?_))
      subst ho
      refine AL.go (AO.loadOA (i := 0) (q := q) (vs := [S out[q].name, .bool out[q].ptr, .int .i64 (u : Int)]) rfl rfl rfl rfl (by rw [List.getElem?_map, List.getElem?_eq_getElem hqo, ← hu]; rfl) rfl ?_)
      refine AL.go (AO.alloc rfl (fun b13 => ?_))
      refine AL.go (AO.assign rfl rfl ?_)
      refine AL.go (AO.storeBA rfl rfl rfl rfl ?_)
      refine AL.nil (AK.seqN (AC.seq (AC.region ?_)))
      refine AL.go (AO.loadBA rfl rfl ?_)
      refine AL.go (AO.field rfl rfl ?_)
      refine AL.go (AO.loadB rfl rfl ?_)
      refine AL.go (AO.field rfl rfl ?_)
      refine AL.go (AO.loadB rfl rfl ?_)
      refine AL.go (AO.call rfl rfl (uwith_c g o hok2 hM.right.1 u (by omega) T[n].kids (by omega) (show fL o a1 k1 c1 ∈ _ from memA) (show fK T[n] _ _ _ ∈ _ from memA) memA (fun e h0 he => ?_) (fun o2 q2 a65 k65 c65 hq2 => ?_)))
      ·refine AL.go (AO.move rfl rfl (AL.go (AO.extract rfl rfl rfl (AL.go (AO.extract rfl rfl rfl (AL.go (AO.extract rfl rfl rfl (AL.go (AO.alloc rfl (fun b14 => ?_))))))))))
       refine AL.go (AO.storeBA rfl rfl rfl rfl ?_)
       refine AL.go (AO.assign rfl rfl (AL.go (AO.assign rfl rfl (AL.nil (AK.seqN (AC.seq (AC.seq ?_)))))))
       refine AC.region (AL.go (AO.move rfl rfl ?_))
       refine AL.go (AO.neq rfl rfl rfl (fun _ => ?_) (fun c70 => absurd c70 h0))
       refine AL.nil (AK.seqN (AC.condT rfl (AC.seq (AC.region ?_))))
       refine AL.go (AO.build rfl rfl rfl ?_)
       refine AL.go (AO.move rfl rfl ?_)
       refine AL.go (AO.storeBA rfl rfl rfl rfl ?_)
       refine AL.go (AO.assign rfl rfl (AL.go (AO.assign rfl rfl (AL.nil (AK.seqN (AC.ret (AK.seqR ?_)))))))
       refine AK.blkR (AK.seqR (AK.seqR (AK.blkR (AK.seqR (AK.blkR ?_)))))
       refine AK.seqR ?_
       exact AK.retV (rs := [.cell 4 _, .tmp 5, .tmp 6]) (L' := L) (F' := F) Tryz.results17 (.agg (j := 4) rfl rfl rfl (.tmp rfl (.tmp rfl .nil))) subA (hE e h0 (fun _ => subR_not1 hM.right.1 (by omega) (args_good c13 hM.pre hn c37 hjl c42 hul hask) he))
      ·refine AL.go (AO.move rfl rfl (AL.go (AO.extract rfl rfl rfl (AL.go (AO.extract rfl rfl rfl (AL.go (AO.extract rfl rfl rfl (AL.go (AO.alloc rfl (fun b14 => ?_))))))))))
       refine AL.go (AO.storeBA rfl rfl rfl rfl ?_)
       refine AL.go (AO.assign rfl rfl (AL.go (AO.assign rfl rfl (AL.nil (AK.seqN (AC.seq (AC.seq ?_)))))))
       refine AC.region (AL.go (AO.move rfl rfl ?_))
       obtain ⟨hr2, hp2, hq20, hq2l, hS2⟩ := rightU_sub hM.right (by omega) hq2
       have hk2 : isK o2 q2 5 := ⟨hq20, hq2l, by
        have h5 : kindAt o2 (u : Int) = 5 := by rw [kind_pre (hM.pre.trans hp2) hul]; exact hm4
        have := subs_kind hS2 (by rw [h5]; decide)
        rw [Int.toNat_of_nonneg hq20, h5] at this
        exact this⟩
       refine AL.go (AO.neq rfl rfl rfl (fun c70 => absurd rfl c70) (fun _ => ?_))
       refine AL.nil (AK.seqN (AC.condF rfl (AC.skip (AK.seqN (AC.region ?_)))))
       refine AL.go (AO.move rfl rfl (AL.go (AO.move rfl rfl ?_)))
       refine AL.go (AO.loadBA rfl rfl ?_)
       refine AL.go (AO.move rfl rfl ?_)
       refine AL.go (AO.storeBA rfl rfl rfl rfl ?_)
       refine AL.go (AO.indexAddrO (i := 2) (q := q) rfl rfl rfl rfl rfl (by rw [List.length_map]; exact hqo) (fun bo2 ho2 => ?_))
       cases ho2
       refine AL.go (AO.field rfl rfl ?_)
       refine AL.go (AO.storeOR (v := .int .i64 q2) (i := 2) (q := q) (j := 2) rfl rfl rfl rfl rfl (show (out.map eMt)[q]? = some (eMt out[q]) by rw [List.getElem?_map, List.getElem?_eq_getElem hqo]; rfl) (by simp) ?_)
       rw [eMt_set hqo]
       refine AL.nil (AK.blkN (AK.seqN (AC.region (AL.go (AO.add rfl rfl rfl (by omega) (by omega) (AL.go (AO.move rfl rfl ?_)))))))
       refine AL.nil ?_
       exact AK.next (q + 1, (o2, out.set q ⟨out[q].name, out[q].ptr, q2⟩), (a65, k65, c65)) ⟨by simp only; omega, hM.step hqm hqo hr2 hp2 hk2⟩ (by simp only; omega) srA (Sub.drop.trans (Sub.drop.trans (Sub.facts (mem1 memA (fun x hx => by repeat (first | exact hx | refine List.mem_cons_of_mem _ ?_))))))
     ·refine AL.nil (AK.seqN (AC.seq (AC.condF rfl (AC.exit (AK.seqX ?_)))))
      refine AK.seqX (AK.blkX (AK.seqN (AC.seq (AC.region ?_))))
      refine AL.go (AO.loadBA rfl rfl ?_)
      refine AL.go (AO.move rfl rfl ?_)
      refine AL.go (AO.storeBA rfl rfl rfl rfl ?_)
      refine AL.go (AO.assign rfl rfl (AL.go (AO.assign rfl rfl (AL.nil (AK.seqN (AC.ret (AK.blkR ?_)))))))
      refine AK.seqR ?_
      obtain rfl : q = N[j].methods.length := by omega
      exact AK.retV (rs := [.cell 4 _, .tmp 5, .tmp 6]) (L' := L) (F' := fL o a1 k1 c1 :: fMs out a51 k51 z51 :: F) Tryz.results17 (.agg (j := 2) rfl rfl rfl (.tmp rfl (.tmp rfl .nil))) ((Sub.commit (i := 0) rfl).trans (Sub.drop.trans (Sub.drop.trans (Sub.drop.trans (Sub.drop.trans (Sub.facts (mem2 memA memA (fun x hx => by repeat (first | exact hx | refine List.mem_cons_of_mem _ ?_))))))))) (hO o out a1 k1 c1 a51 k51 z51 hM.right (hM.ok hnm.2.2.2))
    ·refine AL.go (AO.assign rfl rfl (AL.nil (AK.seqN (AC.condF rfl (AC.skip (AK.blkN ?_))))))
     refine AK.seqN (AC.seq (AC.region ?_))
     refine AL.go (AO.loadBA rfl rfl ?_)
     refine AL.go (AO.storeBA rfl rfl rfl rfl ?_)
     refine AL.go (AO.assign rfl rfl (AL.go (AO.assign rfl rfl (AL.nil (AK.seqN (AC.ret ?_))))))
     exact AK.retV (rs := [.cell 4 _, .tmp 5, .tmp 6]) (L' := L) (F' := fL T a k c :: fMs [] none 0 0 :: F) Tryz.results17 (.agg (j := 1) rfl rfl rfl (.tmp rfl (.tmp rfl .nil))) (Sub.drop.trans (Sub.drop.trans (Sub.drop.trans (Sub.facts (mem2 memA memA (fun x hx => by repeat (first | exact hx | refine List.mem_cons_of_mem _ ?_))))))) (hO T [] a k c none 0 0 c13 (fun i hi => absurd hi (by simp)))
end
end Go.Sy
namespace Go.Sy
open Go Go.Proofs Go.RowKit
theorem put_right {T : List Ty} {N : List Nmd} {t : Ty} {l' : List Ty} {i : Int} (hu : rightU T N) (hf : fitsU N t) (hP : AddP T t l' i 0) : rightU l' N ∧ T <+: l' ∧ ∃ q : Nat, ∃ hq : q < l'.length, i = (q : Int) ∧ l'[q] = t := by
  have h400 := hu.1.2.1
  obtain ⟨q, hq, e1, e2⟩ := add_at hP rfl
  rcases hP with ⟨p, hp, h1, rfl, h3, _⟩ | ⟨n, ⟨_, _, _, h4⟩ | ⟨_, _, _, _, h4⟩ | ⟨hm, hl, rfl, h3, _⟩⟩
  · exact ⟨hu, List.prefix_rfl, q, hq, e1, e2⟩
  · omega
  · omega
  · exact ⟨rightU_snoc hu n hm (by omega) hf, List.prefix_append _ _, q, hq, e1, e2⟩
theorem take_all {α : Type} {T M : List α} (h : T <+: M) : M.take T.length = T := by
  obtain ⟨r, rfl⟩ := h; simp
attribute [local irreducible] AC AT AO AK AH ACalls Sub Res.cells Res.nix Res.own Res.map Exit.then Exit.inBlock bodyPost Code.wp Code.wpIn WL Next Post Kont
section
variable {W0 : World} {L : List Res} {F : List Fact} {R : Value → List Res → List Fact → Prop}
set_option maxRecDepth 100000
set_option maxHeartbeats 16000000
theorem uunder2_c (g : Glob W0) (T : List Ty) (N : List Nmd) (hno : ∀ n ∈ N, NmOk n) (hu : rightU T N) (i : Int) {a a2 : Option Addr} {k c k2 c2 : Nat} (mL : fL T a k c ∈ F) (mN : fN N a2 k2 c2 ∈ F) (mE : Fact.slc (.slice none 0 0) 5 [] ∈ F)
    (hE : ∀ e, e ≠ 0 → e ≠ 1 → R (.tuple #[.agg #[.slice none 0 0, .slice none 0 0], .int .i64 0, .int .i64 e]) L F)
    (hO : ∀ (o : List Ty) (q : Nat) a k c, rightU o N → T <+: o → ∀ hq : q < o.length, o[q].kind ≠ 8 → R (.tuple #[.agg #[.slice a k c, .slice a2 k2 c2], .int .i64 (q : Int), .int .i64 0]) L (fL o a k c :: F)) :
    ACalls Tryz.prog W0 15 #[.agg #[.slice a k c, .slice a2 k2 c2], .int .i64 i] L F R := by
  refine uunder_c g T N (right_ok hu.1) hno i mL mN mE (fun c => absurd hu c) (fun _ _ => hE 8 (by decide) (by decide)) (fun _ n e hn hk => ?_) (fun _ n e hn hk j hj hat u hju hul x h0 hx => hE x h0 ?_) (fun _ n e hn hk j hj hat u hju hul o q a k c hx => ?_)
  · subst e; exact hO T n a k c hu List.prefix_rfl hn hk
  · have hm := (hu.2.2.1 j hj).1.2.2.1.1
    rw [hju] at hm
    have hask := hm.2.2
    rw [Int.toNat_natCast] at hask
    exact subR_not1 hu.1 hul (args_good hu List.prefix_rfl hn hk hj hat hul hask) hx
  · obtain ⟨hr, hp, h0, h1, hS⟩ := rightU_sub hu hul hx
    obtain ⟨p, rfl⟩ : ∃ p : Nat, q = (p : Int) := ⟨q.toNat, by omega⟩
    have hpl : p < o.length := by omega
    refine hO o p a k c hr hp hpl ?_
    rw [Int.toNat_natCast] at hS
    obtain ⟨hm1, hm2, hm3, _⟩ := (hu.2.2.1 j hj).1.2.2.1
    rw [hju] at hm2 hm3
    have h8 : kindAt o (u : Int) ≠ 8 := by
      rw [kind_pre hp hul]; exact fun e => hm2 ⟨by omega, by omega, e⟩
    have h9 : kindAt o (u : Int) ≠ 9 := by
      rw [kind_pre hp hul]; exact fun e => hm3 ⟨by omega, by omega, e⟩
    have := subs_kind hS h9
    rw [kind_at hpl] at this
    rw [this]; exact h8
theorem uunder3_c (g : Glob W0) (T : List Ty) (N : List Nmd) (hno : ∀ n ∈ N, NmOk n) (hu : rightU T N) (n : Nat) (hn : n < T.length) (hk : T[n].kind ≠ 8) {a a2 : Option Addr} {k c k2 c2 : Nat} (mL : fL T a k c ∈ F) (mN : fN N a2 k2 c2 ∈ F) (mE : Fact.slc (.slice none 0 0) 5 [] ∈ F)
    (hO : R (.tuple #[.agg #[.slice a k c, .slice a2 k2 c2], .int .i64 (n : Int), .int .i64 0]) L (fL T a k c :: F)) :
    ACalls Tryz.prog W0 15 #[.agg #[.slice a k c, .slice a2 k2 c2], .int .i64 (n : Int)] L F R := by
  refine uunder_c g T N (right_ok hu.1) hno (n : Int) mL mN mE (fun c => absurd hu c) (fun _ c => absurd (by omega) c) (fun _ m e hm hk => hO) (fun _ m e hm hk2 => ?_) (fun _ m e hm hk2 => ?_)
  all_goals
    obtain rfl : m = n := by omega
    exact absurd hk2 hk
theorem unitStays_c (g : Glob W0) (T0 : List Ty) (N0 : List Nmd) (t0 : Ty) (i : Int) (hT : ∀ t ∈ T0, TyUp t) (hN : ∀ n ∈ N0, NmUp n) (ht : TyUp t0) {a a2 a3 a4 : Option Addr} {k c k2 c2 k3 c3 k4 c4 : Nat}
    (m1 : fL T0 a k c ∈ F) (m2 : fN N0 a2 k2 c2 ∈ F) (m3 : fW t0 a3 k3 c3 ∈ F) (m4 : fK t0 a4 k4 c4 ∈ F) (h : R (.bool true) L F) :
    ACalls Tryz.prog W0 3 #[.agg #[.slice a k c, .slice a2 k2 c2], vTy t0 a3 k3 c3 a4 k4 c4, .int .i64 i] L F R := by
  refine ACalls.weak ((Sub.nilF (sz := 3)).trans (Sub.nilF (sz := 5))) ?_
  have hok := fewS_ok (m := 402) hT
  have hno := fewN_ok (m := 62) hN
  have hto := oneS_ok ht
  refine ACalls.body Tryz.func3 rfl Tryz.ntmps3 rfl ?_
  refine AC.seq (AC.region (AL.go (AO.box rfl rfl (fun b3 => ?_))))
  refine AL.go (AO.box rfl rfl (fun b4 => ?_))
  refine AL.go (AO.assign rfl rfl (AL.nil (AK.seqN (AC.seq (AC.region ?_)))))
  refine AL.go (AO.loadBA rfl rfl ?_)
  refine AL.go (AO.call rfl rfl (ufew_c T0 N0 (show fL T0 a k c ∈ _ from memA) (show fN N0 a2 k2 c2 ∈ _ from memA) (fun aT kT cT aN kN cN => ?_)))
  generalize fewS T0 402 = T at hok ⊢
  generalize fewN N0 62 = N at hno ⊢
  refine AL.go (AO.storeBA rfl rfl rfl rfl ?_)
  refine AL.nil (AK.seqN (AC.seq (AC.seq (AC.region ?_))))
  refine AL.go (AO.loadBA rfl rfl ?_)
  refine AL.go (AO.call rfl rfl (uright_c g T N hok hno memA memA (fun hu => ?_) (fun hu => ?_)))
  ·refine AL.go (AO.not rfl rfl (AL.nil (AK.seqN (AC.condF rfl (AC.skip (AK.seqN ?_))))))
   refine AC.seq ?_
   refine AC.draw (fun i => Nat.beq i 22 || Nat.beq i 24 || Nat.beq i 26) [(b4, _, _)] bxA rfl (fun hx hX => ?_)
   have hk1 := (len_of_fact (hX (fW t0 a3 k3 c3) memA)).1
   have hk2 := (len_of_fact (hX (fK t0 a4 k4 c4) memA)).1
   have hc1 := (len_of_fact (hX (fW t0 a3 k3 c3) memA)).2
   have hc2 := (len_of_fact (hX (fK t0 a4 k4 c4) memA)).2
   subst hk1 hk2
   refine AH.weak (Sub.part (enc := eS) (lst := t0.words) 0 (min t0.words.length 18) c3 (show fW t0 _ _ c3 ∈ _ from memA) (by omega) (by omega) (by omega) (by omega)) ?_
   refine AH.weak (Sub.part (enc := eI) (lst := t0.kids) 0 (min t0.kids.length 18) c4 (show fK t0 _ _ c4 ∈ _ from memA) (by omega) (by omega) (by omega) (by omega)) ?_
   refine AH.takeW (i := 0) rfl (Y.field rfl) (by kernel_rfl) rfl rfl ?_
   refine AH.takeS (i := 1) rfl (Y.loadB rfl lmA (by rfl)) (by kernel_rfl) (by kernel_rfl) rfl rfl rfl ?_
   refine AH.takeW (i := 2) rfl (Y.field rfl) (by kernel_rfl) rfl rfl ?_
   refine AH.takeS (i := 3) rfl (Y.loadB rfl lmA (by rfl)) (by kernel_rfl) (by kernel_rfl) rfl rfl rfl ?_
   refine AH.takeW (i := 4) rfl (Y.lenS rfl) (by kernel_rfl) rfl rfl ?_
   refine AH.takeW (i := 5) rfl (Y.min rfl rfl) (by kernel_rfl) rfl rfl ?_
   refine AH.takeW (i := 6) rfl (Y.sliceSH (j' := min t0.name.length 50) rfl rfl (by omega) (by omega)) (by kernel_rfl) rfl rfl ?_
   refine AH.takeW (i := 7) rfl (Y.field rfl) (by kernel_rfl) rfl rfl ?_
   refine AH.takeS (i := 8) rfl (Y.loadB rfl lmA (by rfl)) (by kernel_rfl) (by kernel_rfl) rfl rfl rfl ?_
   refine AH.takeW (i := 9) rfl (Y.field rfl) (by kernel_rfl) rfl rfl ?_
   refine AH.takeS (i := 10) rfl (Y.loadB rfl lmA (by rfl)) (by kernel_rfl) (by kernel_rfl) rfl rfl rfl ?_
   refine AH.takeW (i := 11) rfl (Y.lenV rfl) (by kernel_rfl) rfl rfl ?_
   refine AH.takeW (i := 12) rfl (Y.min rfl rfl) (by kernel_rfl) rfl rfl ?_
   refine AH.takeW (i := 13) rfl (Y.sliceH (j' := min t0.words.length 18) rfl rfl (by omega) (by omega)) (by kernel_rfl) rfl rfl ?_
   refine AH.takeW (i := 14) rfl (Y.field rfl) (by kernel_rfl) rfl rfl ?_
   refine AH.takeS (i := 15) rfl (Y.loadB rfl lmA (by rfl)) (by kernel_rfl) (by kernel_rfl) rfl rfl rfl ?_
   refine AH.takeW (i := 16) rfl (Y.field rfl) (by kernel_rfl) rfl rfl ?_
   refine AH.takeS (i := 17) rfl (Y.loadB rfl lmA (by rfl)) (by kernel_rfl) (by kernel_rfl) rfl rfl rfl ?_
   refine AH.takeW (i := 18) rfl (Y.lenV rfl) (by kernel_rfl) rfl rfl ?_
   refine AH.takeW (i := 19) rfl (Y.min rfl rfl) (by kernel_rfl) rfl rfl ?_
   refine AH.takeW (i := 20) rfl (Y.sliceH (j' := min t0.kids.length 18) rfl rfl (by omega) (by omega)) (by kernel_rfl) rfl rfl ?_
   refine AH.takeW (i := 21) rfl (Y.field rfl) (by kernel_rfl) rfl rfl ?_
   refine AH.one (i := 22) (by kernel_rfl) rfl rfl (fun _ => ?_)
   refine AO.storeB rfl rfl rfl ?_
   refine AT.spoilt rfl ?_
   refine AH.takeW (i := 23) rfl (Y.field rfl) (by kernel_rfl) rfl rfl ?_
   refine AH.one (i := 24) (by kernel_rfl) rfl rfl (fun _ => ?_)
   refine AO.storeB rfl rfl rfl ?_
   refine AT.spoilt rfl ?_
   refine AH.takeW (i := 25) rfl (Y.field rfl) (by kernel_rfl) rfl rfl ?_
   refine AH.one (i := 26) (by kernel_rfl) rfl rfl (fun _ => ?_)
   refine AO.storeB rfl rfl rfl ?_
   refine AT.spoilt rfl ?_
   refine AH.done (by kernel_rfl) ?_
   refine AK.seqN (AC.seq (AC.region ?_))
   refine AL.go (AO.loadBA rfl rfl ?_)
   refine AL.go (AO.loadBA rfl rfl ?_)
   refine AL.go (AO.call rfl rfl (uput_c g T N hok hno (oneS t0) hto (show fL T aT kT cT ∈ _ from memA) (show fN N aN kN cN ∈ _ from memA) memA memA (fun e he => ?_) (fun _ hf l' ix ap kp cp hP => ?_)))
   ·refine AL.go (AO.move rfl rfl (AL.go (AO.extract rfl rfl rfl (AL.go (AO.extract rfl rfl rfl (AL.go (AO.extract rfl rfl rfl (AL.go (AO.alloc rfl (fun b7 => ?_))))))))))
    refine AL.go (AO.storeBA rfl rfl rfl rfl ?_)
    refine AL.go (AO.assign rfl rfl (AL.go (AO.assign rfl rfl (AL.nil (AK.seqN (AC.seq (AC.seq ?_)))))))
    refine AC.draw (fun _ => false) [(b7, _, _), (b3, _, _), (b4, _, _)] bxA rfl (fun hx hX => ?_)
    refine AH.takeW (i := 0) rfl (Y.move rfl) (by kernel_rfl) rfl rfl ?_
    refine AH.takeB (i := 1) rfl (Y.eql rfl rfl) (by kernel_rfl) rfl rfl (fun c59 => absurd (eq_of_beq c59) he) (fun _ => ?_)
    refine AH.takeW (i := 2) rfl (Y.move rfl) (by kernel_rfl) rfl rfl ?_
    refine AH.skip (i := 3) rfl (by kernel_rfl) rfl rfl ?_
    refine AH.skip (i := 4) rfl (by kernel_rfl) rfl rfl ?_
    refine AH.skip (i := 5) rfl (by kernel_rfl) rfl rfl ?_
    refine AH.skip (i := 6) rfl (by kernel_rfl) rfl rfl ?_
    refine AH.skip (i := 7) rfl (by kernel_rfl) rfl rfl ?_
    refine AH.skip (i := 8) rfl (by kernel_rfl) rfl rfl ?_
    refine AH.skip (i := 9) rfl (by kernel_rfl) rfl rfl ?_
    refine AH.skip (i := 10) rfl (by kernel_rfl) rfl rfl ?_
    refine AH.skip (i := 11) rfl (by kernel_rfl) rfl rfl ?_
    refine AH.skip (i := 12) rfl (by kernel_rfl) rfl rfl ?_
    refine AH.skip (i := 13) rfl (by kernel_rfl) rfl rfl ?_
    refine AH.skip (i := 14) rfl (by kernel_rfl) rfl rfl ?_
    refine AH.skip (i := 15) rfl (by kernel_rfl) rfl rfl ?_
    refine AH.skip (i := 16) rfl (by kernel_rfl) rfl rfl ?_
    refine AH.skip (i := 17) rfl (by kernel_rfl) rfl rfl ?_
    refine AH.skip (i := 18) rfl (by kernel_rfl) rfl rfl ?_
    refine AH.skip (i := 19) rfl (by kernel_rfl) rfl rfl ?_
    refine AH.skip (i := 20) rfl (by kernel_rfl) rfl rfl ?_
    refine AH.skip (i := 21) rfl (by kernel_rfl) rfl rfl ?_
    refine AH.skip (i := 22) rfl (by kernel_rfl) rfl rfl ?_
    refine AH.skip (i := 23) rfl (by kernel_rfl) rfl rfl ?_
    refine AH.skip (i := 24) rfl (by kernel_rfl) rfl rfl ?_
    refine AH.skip (i := 25) rfl (by kernel_rfl) rfl rfl ?_
    refine AH.skip (i := 26) rfl (by kernel_rfl) rfl rfl ?_
    refine AH.skip (i := 27) rfl (by kernel_rfl) rfl rfl ?_
    refine AH.takeW (i := 28) rfl (Y.pickF rfl rfl) (by kernel_rfl) rfl rfl ?_
    refine AH.done (by kernel_rfl) ?_
    refine AK.seqN (AC.condF rfl (AC.skip (AK.seqN (AC.seq (AC.region ?_)))))
    refine AL.go (AO.loadBA rfl rfl ?_)
    refine AL.go (AO.move rfl rfl ?_)
    refine AL.go (AO.call rfl rfl (uunder2_c g T N hno hu i (show fL T aT _ cT ∈ _ from memA) (show fN N aN kN cN ∈ _ from memA) memA (fun e2 h20 h21 => ?_) (fun o q ao ko co hro hpo hqo hk8 => ?_)))
    ·refine AL.go (AO.move rfl rfl (AL.go (AO.extract rfl rfl rfl (AL.go (AO.extract rfl rfl rfl (AL.go (AO.extract rfl rfl rfl (AL.go (AO.alloc rfl (fun b10 => ?_))))))))))
     refine AL.go (AO.storeBA rfl rfl rfl rfl ?_)
     refine AL.go (AO.assign rfl rfl (AL.go (AO.assign rfl rfl (AL.nil (AK.seqN (AC.seq (AC.seq ?_)))))))
     refine AC.region (AL.go (AO.move rfl rfl ?_))
     refine AL.go (AO.neq rfl rfl rfl (fun _ => ?_) (fun c95 => absurd c95 h20))
     refine AL.nil (AK.seqN (AC.condT rfl (AC.seq (AC.region ?_))))
     refine AL.go (AO.call rfl rfl (ualive_c g ?_))
     refine AL.go (AO.move rfl rfl (AL.yes rfl rfl (AO.move rfl rfl ?_)))
     refine AL.yes rfl rfl (AO.neq rfl rfl rfl (fun _ => ?_) (fun c99 => absurd c99 h21))
     refine AL.go (AO.pickT rfl rfl rfl (AL.go (AO.assign rfl rfl (AL.nil (AK.seqN (AC.ret (AK.seqR ?_)))))))
     exact AK.ret (L' := L) (F' := F) Tryz.results3 rfl subA h
    ·refine AL.go (AO.move rfl rfl (AL.go (AO.extract rfl rfl rfl (AL.go (AO.extract rfl rfl rfl (AL.go (AO.extract rfl rfl rfl (AL.go (AO.alloc rfl (fun b10 => ?_))))))))))
     refine AL.go (AO.storeBA rfl rfl rfl rfl ?_)
     refine AL.go (AO.assign rfl rfl (AL.go (AO.assign rfl rfl (AL.nil (AK.seqN (AC.seq (AC.seq ?_)))))))
     refine AC.region (AL.go (AO.move rfl rfl ?_))
     refine AL.go (AO.neq rfl rfl rfl (fun c95 => absurd rfl c95) (fun _ => ?_))
     refine AL.nil (AK.seqN (AC.condF rfl (AC.skip (AK.seqN (AC.seq ?_)))))
     refine AC.region ?_
     refine AL.go (AO.loadBA rfl rfl ?_)
     refine AL.go (AO.move rfl rfl ?_)
     refine AL.go (AO.call rfl rfl (uunder3_c g o N hno hro q hqo hk8 (show fL o ao ko co ∈ _ from memA) (show fN N aN kN cN ∈ _ from memA) memA ?_))
     refine AL.go (AO.move rfl rfl (AL.go (AO.extract rfl rfl rfl (AL.go (AO.extract rfl rfl rfl (AL.go (AO.extract rfl rfl rfl (AL.go (AO.alloc rfl (fun b13 => ?_))))))))))
     refine AL.go (AO.storeBA rfl rfl rfl rfl ?_)
     refine AL.go (AO.assign rfl rfl (AL.go (AO.assign rfl rfl (AL.nil (AK.seqN (AC.seq (AC.seq ?_)))))))
     refine AC.draw (fun _ => false) [(b10, _, _), (b13, _, _), (b3, _, _)] bxA rfl (fun hx hX => ?_)
     have htk2 := take_all hpo
     have hpl2 := hpo.length_le
     have hkT2 := (len_of_fact (hX (fL T aT _ cT) memA)).1
     have hko := (len_of_fact (hX (fL o ao ko co) memA)).1
     have hco := (len_of_fact (hX (fL o ao ko co) memA)).2
     obtain ⟨p2, o2, e2, at2⟩ := row_of_fact (hX (fL o ao ko co) memA) hqo
     cases e2
     obtain ⟨_, _, _, _, _, _, hv2, _, _⟩ := ty_cells at2
     have hv20 := hv2 0 _ rfl
     refine AH.weak (Sub.part (enc := eTy) (lst := o) 0 T.length co (show fL o _ ko co ∈ _ from memA) (by omega) (by omega) (by omega) (by omega)) ?_
     cases hkT2
     cases hko
     refine AH.takeS (i := 0) rfl (Y.loadBA rfl lmA (by rfl)) (by kernel_rfl) (by kernel_rfl) rfl rfl rfl ?_
     refine AH.one (i := 1) (by kernel_rfl) rfl rfl (fun _ => ?_)
     refine AO.call rfl rfl (uright_c g o N (right_ok hro.1) hno (show fL o _ _ co ∈ _ from memA) (show fN N aN kN cN ∈ _ from memA) (fun _ => ?_) (fun c109 => absurd hro c109))
     refine AT.held bxA memB ?_
     refine AH.takeW (i := 2) rfl (Y.not rfl) (by kernel_rfl) rfl rfl ?_
     refine AH.takeW (i := 3) rfl (Y.move rfl) (by kernel_rfl) rfl rfl ?_
     refine AH.takeW (i := 4) rfl (Y.move rfl) (by kernel_rfl) rfl rfl ?_
     refine AH.takeB (i := 5) rfl (Y.neq rfl rfl) (by kernel_rfl) rfl rfl (fun c113 => absurd c113 (by decide)) (fun _ => ?_)
     refine AH.takeW (i := 6) rfl (Y.pickF rfl rfl) (by kernel_rfl) rfl rfl ?_
     refine AH.takeW (i := 7) rfl (Y.move rfl) (by kernel_rfl) rfl rfl ?_
     refine AH.takeW (i := 8) rfl (Y.move rfl) (by kernel_rfl) rfl rfl ?_
     refine AH.takeW (i := 9) rfl (Y.move rfl) (by kernel_rfl) rfl rfl ?_
     refine AH.takeB (i := 10) rfl (Y.neq rfl rfl) (by kernel_rfl) rfl rfl (fun c118 => absurd rfl (ne_of_bne c118)) (fun _ => ?_)
     refine AH.takeW (i := 11) rfl (Y.pickF rfl rfl) (by kernel_rfl) rfl rfl ?_
     refine AH.takeW (i := 12) rfl (Y.move rfl) (by kernel_rfl) rfl rfl ?_
     refine AH.takeS (i := 13) rfl (Y.loadBA rfl lmA (by rfl)) (by kernel_rfl) (by kernel_rfl) rfl rfl rfl ?_
     refine AH.takeS (i := 14) rfl (Y.loadBA rfl lmA (by rfl)) (by kernel_rfl) (by kernel_rfl) rfl rfl rfl ?_
     refine AH.one (i := 15) (by kernel_rfl) rfl rfl (fun _ => ?_)
     refine AO.call rfl rfl (rulike_c o o N N (show fL o _ _ co ∈ _ from memA) (show fN N aN kN cN ∈ _ from memA) (show fL o _ _ co ∈ _ from memA) (show fN N aN kN cN ∈ _ from memA) (fun _ _ => ?_) (fun c123 => absurd ⟨rfl, rfl⟩ c123))
     refine AT.held bxA memB ?_
     refine AH.takeW (i := 16) rfl (Y.not rfl) (by kernel_rfl) rfl rfl ?_
     refine AH.takeW (i := 17) rfl (Y.pickF rfl rfl) (by kernel_rfl) rfl rfl ?_
     refine AH.takeW (i := 18) rfl (Y.move rfl) (by kernel_rfl) rfl rfl ?_
     refine AH.takeW (i := 19) rfl (Y.field rfl) (by kernel_rfl) rfl rfl ?_
     refine AH.takeS (i := 20) rfl (Y.loadB rfl lmA (by rfl)) (by kernel_rfl) (by kernel_rfl) rfl rfl rfl ?_
     refine AH.takeW (i := 21) rfl (Y.move rfl) (by kernel_rfl) rfl rfl ?_
     refine AH.takeW (i := 22) rfl (Y.indexAddr (k := q) rfl rfl (by omega) (by omega)) (by kernel_rfl) rfl rfl ?_
     refine AH.takeW (i := 23) rfl (Y.field rfl) (by kernel_rfl) rfl rfl ?_
     refine AH.takeS (i := 24) rfl (Y.loadF rfl hv20) (by kernel_rfl) (by kernel_rfl) rfl rfl rfl ?_
     refine AH.takeB (i := 25) rfl (Y.eql rfl rfl) (by kernel_rfl) rfl rfl (fun c133 => absurd (eq_of_beq c133) hk8) (fun _ => ?_)
     refine AH.takeW (i := 26) rfl (Y.pickF rfl rfl) (by kernel_rfl) rfl rfl ?_
     refine AH.takeW (i := 27) rfl (Y.move rfl) (by kernel_rfl) rfl rfl ?_
     refine AH.takeW (i := 28) rfl (Y.field rfl) (by kernel_rfl) rfl rfl ?_
     refine AH.takeS (i := 29) rfl (Y.loadB rfl lmA (by rfl)) (by kernel_rfl) (by kernel_rfl) rfl rfl rfl ?_
     refine AH.takeW (i := 30) rfl (Y.field rfl) (by kernel_rfl) rfl rfl ?_
     refine AH.takeS (i := 31) rfl (Y.loadB rfl lmA (by rfl)) (by kernel_rfl) (by kernel_rfl) rfl rfl rfl ?_
     refine AH.takeW (i := 32) rfl (Y.lenV rfl) (by kernel_rfl) rfl rfl ?_
     refine AH.takeW (i := 33) rfl (Y.sliceH (j' := T.length) rfl rfl (by omega) (by omega)) (by kernel_rfl) rfl rfl ?_
     refine AH.takeW (i := 34) rfl (Y.field rfl) (by kernel_rfl) rfl rfl ?_
     refine AH.takeS (i := 35) rfl (Y.loadB rfl lmA (by rfl)) (by kernel_rfl) (by kernel_rfl) rfl rfl rfl ?_
     refine AH.one (i := 36) (by kernel_rfl) rfl rfl (fun _ => ?_)
     refine AO.call rfl rfl (ref_Arenas_c (o.take T.length) T (fun _ => ?_) (fun c144 => absurd htk2 c144) memA (show fL T _ _ _ ∈ _ from memA))
     refine AT.held bxA memB ?_
     refine AH.takeW (i := 37) rfl (Y.not rfl) (by kernel_rfl) rfl rfl ?_
     refine AH.takeW (i := 38) rfl (Y.pickF rfl rfl) (by kernel_rfl) rfl rfl ?_
     refine AH.done (by kernel_rfl) ?_
     refine AK.seqN (AC.condF rfl (AC.skip (AK.seqN (AC.seq (AC.region ?_)))))
     refine AL.go (AO.loadBA rfl rfl ?_)
     refine AL.go (AO.move rfl rfl ?_)
     refine AL.go (AO.call rfl rfl (umethods_c g T N hok hno i (show fL T _ _ _ ∈ _ from memA) (show fN N aN kN cN ∈ _ from memA) memA memA (fun e3 h30 h31 => ?_) (fun o3 ms a50 k50 c50 a51 k51 c51 hr3 hms => ?_)))
     ·refine AL.go (AO.move rfl rfl (AL.go (AO.extract rfl rfl rfl (AL.go (AO.extract rfl rfl rfl (AL.go (AO.extract rfl rfl rfl (AL.go (AO.alloc rfl (fun b16 => ?_))))))))))
      refine AL.go (AO.storeBA rfl rfl rfl rfl ?_)
      refine AL.go (AO.assign rfl rfl (AL.go (AO.assign rfl rfl (AL.nil (AK.seqN (AC.seq (AC.seq ?_)))))))
      refine AC.region (AL.go (AO.move rfl rfl ?_))
      refine AL.go (AO.neq rfl rfl rfl (fun _ => ?_) (fun c155 => absurd c155 h30))
      refine AL.nil (AK.seqN (AC.condT rfl (AC.seq (AC.region ?_))))
      refine AL.go (AO.call rfl rfl (ualive_c g ?_))
      refine AL.go (AO.move rfl rfl (AL.yes rfl rfl (AO.move rfl rfl ?_)))
      refine AL.yes rfl rfl (AO.neq rfl rfl rfl (fun _ => ?_) (fun c159 => absurd c159 (h31 hu)))
      refine AL.go (AO.pickT rfl rfl rfl (AL.go (AO.assign rfl rfl (AL.nil (AK.seqN (AC.ret (AK.seqR ?_)))))))
      exact AK.ret (L' := L) (F' := F) Tryz.results3 rfl subA h
     ·refine AL.go (AO.move rfl rfl (AL.go (AO.extract rfl rfl rfl (AL.go (AO.extract rfl rfl rfl (AL.go (AO.extract rfl rfl rfl (AL.go (AO.alloc rfl (fun b16 => ?_))))))))))
      refine AL.go (AO.storeBA rfl rfl rfl rfl ?_)
      refine AL.go (AO.assign rfl rfl (AL.go (AO.assign rfl rfl (AL.nil (AK.seqN (AC.seq (AC.seq ?_)))))))
      refine AC.region (AL.go (AO.move rfl rfl ?_))
      refine AL.go (AO.neq rfl rfl rfl (fun c155 => absurd rfl c155) (fun _ => ?_))
      refine AL.nil (AK.seqN (AC.condF rfl (AC.skip (AK.seqN (AC.seq ?_)))))
      refine AC.seq (AC.region (AL.go (AO.move rfl rfl ?_)))
      refine AL.go (AO.len rfl rfl (fun hl162 => ?_) (enc := eMt) (lst := ms) (hm := memA))
      refine AL.go (AO.move rfl rfl (AL.nil (AK.seqN (AC.block ?_))))
      refine AC.loop (fun (v : Nat) => v ≤ ms.length) (fun v => [(16, .pointer (some ⟨b16, 0, none⟩)), (17, .slice a51 k51 c51), (161, .slice a51 k51 c51), (162, .int .i64 ms.length), (163, .int .i64 (v : Int))]) (fun _ => _) (fun _ => _) (fun v => ms.length - v) 0 (Nat.zero_le _) srA (Sub.refl _ _) ?_
      rintro v hv9
      refine AC.seq (AC.region ?_)
      refine AL.go (AO.lss rfl rfl rfl (fun c164 => ?_) (fun c164 => ?_))
      ·refine AL.nil (AK.seqN (AC.seq (AC.condT rfl (AC.skip (AK.seqN ?_)))))
       refine AC.seq (AC.block (AC.seq (AC.region (AL.go (AO.move rfl rfl ?_)))))
       have hvl : v < ms.length := by omega
       obtain ⟨⟨hs0, hs1, hs5⟩, hless⟩ := hms v hvl
       refine AL.go (AO.indexAddr rfl rfl rfl rfl (enc := eMt) (lst := ms) memA hvl (fun _ _ => ?_))
       refine AL.go (AO.loadFA rfl rfl ?_)
       refine AL.go (AO.alloc rfl (fun b20 => ?_))
       refine AL.go (AO.assign rfl rfl ?_)
       refine AL.go (AO.storeBA rfl rfl rfl rfl ?_)
       refine AL.nil (AK.seqN (AC.seq ?_))
       refine AC.draw (fun _ => false) [(b20, _, _), (b16, _, _)] bxA rfl (fun hx hX => ?_)
       have hk51 := (len_of_fact (hX (fMs ms a51 k51 c51) memA)).1
       have hk50 := (len_of_fact (hX (fL o3 a50 k50 c50) memA)).1
       have hsl : ms[v].sig.toNat < o3.length := by omega
       obtain ⟨p4, o4, e4, at4⟩ := row_of_fact (hX (fMs ms a51 k51 c51) memA) hvl
       cases e4
       obtain ⟨p5, o5, e5, at5⟩ := row_of_fact (hX (fL o3 a50 k50 c50) memA) hsl
       cases e5
       obtain ⟨_, _, _, _, _, _, hv5, _, _⟩ := ty_cells at5
       have hv50 := hv5 0 _ rfl
       have hkd : o3[ms[v].sig.toNat].kind = 5 := by
        have := kind_get (l := o3) (k := ms[v].sig) (j := ms[v].sig.toNat) (by omega) hsl
        rw [← this]; exact hs5
       cases hk51
       cases hk50
       refine AH.takeW (i := 0) rfl (Y.move rfl) (by kernel_rfl) rfl rfl ?_
       refine AH.takeB (i := 1) rfl (Y.gtr rfl rfl) (by kernel_rfl) rfl rfl (fun c169 => ?_) (fun c169 => ?_)
       ·replace c169 := of_decide_eq_true c169
        refine AH.takeW (i := 2) rfl (Y.move rfl) (by kernel_rfl) rfl rfl ?_
        refine AH.takeW (i := 3) rfl (Y.move rfl) (by kernel_rfl) rfl rfl ?_
        refine AH.takeW (i := 4) rfl (Y.move rfl) (by kernel_rfl) rfl rfl ?_
        refine AH.takeW (i := 5) rfl (Y.sub rfl rfl (by omega) (by omega)) (by kernel_rfl) rfl rfl ?_
        obtain ⟨p6, o6, e6, at6⟩ := row_of_fact (i := v - 1) (hX (fMs ms (some ⟨p4, o4, none⟩) _ c51) memA) (by omega)
        cases e6
        have hv6 := mt_cells at6 0 _ rfl
        refine AH.takeW (i := 6) rfl (Y.indexAddr (k := v - 1) rfl rfl (by omega) (by omega)) (by kernel_rfl) rfl rfl ?_
        refine AH.takeW (i := 7) rfl (Y.field rfl) (by kernel_rfl) rfl rfl ?_
        refine AH.takeS (i := 8) rfl (Y.loadF rfl hv6) (by kernel_rfl) (by kernel_rfl) rfl rfl rfl ?_
        refine AH.takeW (i := 9) rfl (Y.field rfl) (by kernel_rfl) rfl rfl ?_
        refine AH.takeS (i := 10) rfl (Y.loadB rfl lmA (by rfl)) (by kernel_rfl) (by kernel_rfl) rfl rfl rfl ?_
        refine AH.takeB (i := 11) rfl (Y.geqS rfl rfl) (by kernel_rfl) rfl rfl (fun c179 => absurd (hless (by omega)) (by simpa using c179)) (fun _ => ?_)
        refine AH.takeW (i := 12) rfl (Y.pickT rfl rfl) (by kernel_rfl) rfl rfl ?_
        refine AH.takeW (i := 13) rfl (Y.move rfl) (by kernel_rfl) rfl rfl ?_
        refine AH.takeW (i := 14) rfl (Y.field rfl) (by kernel_rfl) rfl rfl ?_
        refine AH.takeS (i := 15) rfl (Y.loadB rfl lmA (by rfl)) (by kernel_rfl) (by kernel_rfl) rfl rfl rfl ?_
        refine AH.takeW (i := 16) rfl (Y.field rfl) (by kernel_rfl) rfl rfl ?_
        refine AH.takeS (i := 17) rfl (Y.loadB rfl lmA (by rfl)) (by kernel_rfl) (by kernel_rfl) rfl rfl rfl ?_
        refine AH.takeW (i := 18) rfl (Y.indexAddr (k := ms[v].sig.toNat) rfl rfl (by omega) (by omega)) (by kernel_rfl) rfl rfl ?_
        refine AH.takeW (i := 19) rfl (Y.field rfl) (by kernel_rfl) rfl rfl ?_
        refine AH.takeS (i := 20) rfl (Y.loadF rfl hv50) (by kernel_rfl) (by kernel_rfl) rfl rfl rfl ?_
        refine AH.takeB (i := 21) rfl (Y.neq rfl rfl) (by kernel_rfl) rfl rfl (fun c189 => absurd hkd (ne_of_bne c189)) (fun _ => ?_)
        refine AH.takeW (i := 22) rfl (Y.pickF rfl rfl) (by kernel_rfl) rfl rfl ?_
        refine AH.done (by kernel_rfl) ?_
        refine AK.seqN (AC.condF rfl (AC.skip (AK.blkN (AK.seqN (AC.region ?_)))))
        refine AL.go (AO.add rfl rfl rfl (by omega) (by omega) (AL.go (AO.move rfl rfl (AL.nil ?_))))
        refine AK.next (v + 1) (by omega) (by omega) srA (Sub.drop.trans subF)
       ·replace c169 := of_decide_eq_false c169
        refine AH.takeW (i := 2) rfl (Y.move rfl) (by kernel_rfl) rfl rfl ?_
        refine AH.skip (i := 3) rfl (by kernel_rfl) rfl rfl ?_
        refine AH.skip (i := 4) rfl (by kernel_rfl) rfl rfl ?_
        refine AH.skip (i := 5) rfl (by kernel_rfl) rfl rfl ?_
        refine AH.skip (i := 6) rfl (by kernel_rfl) rfl rfl ?_
        refine AH.skip (i := 7) rfl (by kernel_rfl) rfl rfl ?_
        refine AH.skip (i := 8) rfl (by kernel_rfl) rfl rfl ?_
        refine AH.skip (i := 9) rfl (by kernel_rfl) rfl rfl ?_
        refine AH.skip (i := 10) rfl (by kernel_rfl) rfl rfl ?_
        refine AH.skip (i := 11) rfl (by kernel_rfl) rfl rfl ?_
        refine AH.takeW (i := 12) rfl (Y.pickF rfl rfl) (by kernel_rfl) rfl rfl ?_
        refine AH.takeW (i := 13) rfl (Y.move rfl) (by kernel_rfl) rfl rfl ?_
        refine AH.takeW (i := 14) rfl (Y.field rfl) (by kernel_rfl) rfl rfl ?_
        refine AH.takeS (i := 15) rfl (Y.loadB rfl lmA (by rfl)) (by kernel_rfl) (by kernel_rfl) rfl rfl rfl ?_
        refine AH.takeW (i := 16) rfl (Y.field rfl) (by kernel_rfl) rfl rfl ?_
        refine AH.takeS (i := 17) rfl (Y.loadB rfl lmA (by rfl)) (by kernel_rfl) (by kernel_rfl) rfl rfl rfl ?_
        refine AH.takeW (i := 18) rfl (Y.indexAddr (k := ms[v].sig.toNat) rfl rfl (by omega) (by omega)) (by kernel_rfl) rfl rfl ?_
        refine AH.takeW (i := 19) rfl (Y.field rfl) (by kernel_rfl) rfl rfl ?_
        refine AH.takeS (i := 20) rfl (Y.loadF rfl hv50) (by kernel_rfl) (by kernel_rfl) rfl rfl rfl ?_
        refine AH.takeB (i := 21) rfl (Y.neq rfl rfl) (by kernel_rfl) rfl rfl (fun c189 => absurd hkd (ne_of_bne c189)) (fun _ => ?_)
        refine AH.takeW (i := 22) rfl (Y.pickF rfl rfl) (by kernel_rfl) rfl rfl ?_
        refine AH.done (by kernel_rfl) ?_
        refine AK.seqN (AC.condF rfl (AC.skip (AK.blkN (AK.seqN (AC.region ?_)))))
        refine AL.go (AO.add rfl rfl rfl (by omega) (by omega) (AL.go (AO.move rfl rfl (AL.nil ?_))))
        refine AK.next (v + 1) (by omega) (by omega) srA (Sub.drop.trans subF)
      ·refine AL.nil (AK.seqN (AC.seq (AC.condF rfl (AC.exit (AK.seqX ?_)))))
       refine AK.seqX (AK.blkX (AK.seqN (AC.seq (AC.region ?_))))
       refine AL.go (AO.call rfl rfl (ualive_c g ?_))
       refine AL.go (AO.move rfl rfl ?_)
       refine AL.yes rfl rfl (AO.loadBA rfl rfl ?_)
       refine AL.yes rfl rfl (AO.call rfl rfl (uright_c g o3 N (right_ok hr3.1) hno (show fL o3 _ _ _ ∈ _ from memA) (show fN N aN kN cN ∈ _ from memA) (fun _ => ?_) (fun c195 => absurd hr3 c195)))
       refine AL.go (AO.pickT rfl rfl rfl (AL.go (AO.assign rfl rfl (AL.nil (AK.seqN (AC.ret ?_))))))
       exact AK.ret (L' := L) (F' := F) Tryz.results3 rfl subA h
   ·refine AL.go (AO.move rfl rfl (AL.go (AO.extract rfl rfl rfl (AL.go (AO.extract rfl rfl rfl (AL.go (AO.extract rfl rfl rfl (AL.go (AO.alloc rfl (fun b7 => ?_))))))))))
    refine AL.go (AO.storeBA rfl rfl rfl rfl ?_)
    refine AL.go (AO.assign rfl rfl (AL.go (AO.assign rfl rfl (AL.nil (AK.seqN (AC.seq (AC.seq ?_)))))))
    refine AC.draw (fun _ => false) [(b7, _, _), (b3, _, _), (b4, _, _)] bxA rfl (fun hx hX => ?_)
    obtain ⟨hup, hpp, qp, hqp, rfl, hqe⟩ := put_right hu hf hP
    have hok2 := right_ok hup.1
    have htk := take_all hpp
    have hpl := hpp.length_le
    have hkT := (len_of_fact (hX (fL T aT kT cT) memA)).1
    have hkp := (len_of_fact (hX (fL l' ap kp cp) memA)).1
    have hcp := (len_of_fact (hX (fL l' ap kp cp) memA)).2
    obtain ⟨p1, o1, e1, at1⟩ := row_of_fact (hX (fL l' ap kp cp) memA) hqp
    cases e1
    obtain ⟨w1, x1, y1, w2, x2, y2, hv, hw1, hw2⟩ := ty_cells at1
    refine AH.fact hw1 memA (AH.fact hw2 memA ?_)
    refine AH.weak (Sub.part (enc := eTy) (lst := l') 0 T.length cp (show fL l' _ kp cp ∈ _ from memA) (by omega) (by omega) (by omega) (by omega)) ?_
    cases hkT
    cases hkp
    refine AH.takeW (i := 0) rfl (Y.move rfl) (by kernel_rfl) rfl rfl ?_
    refine AH.takeB (i := 1) rfl (Y.eql rfl rfl) (by kernel_rfl) rfl rfl (fun _ => ?_) (fun c59 => absurd c59 (by decide))
    refine AH.takeW (i := 2) rfl (Y.move rfl) (by kernel_rfl) rfl rfl ?_
    refine AH.takeS (i := 3) rfl (Y.loadBA rfl lmA (by rfl)) (by kernel_rfl) (by kernel_rfl) rfl rfl rfl ?_
    refine AH.one (i := 4) (by kernel_rfl) rfl rfl (fun _ => ?_)
    refine AO.call rfl rfl (uright_c g l' N hok2 hno (show fL l' _ _ cp ∈ _ from memA) (show fN N aN kN cN ∈ _ from memA) (fun _ => ?_) (fun c62 => absurd hup c62))
    refine AT.held bxA memB ?_
    refine AH.takeW (i := 5) rfl (Y.not rfl) (by kernel_rfl) rfl rfl ?_
    refine AH.takeW (i := 6) rfl (Y.move rfl) (by kernel_rfl) rfl rfl ?_
    refine AH.takeW (i := 7) rfl (Y.field rfl) (by kernel_rfl) rfl rfl ?_
    refine AH.takeS (i := 8) rfl (Y.loadB rfl lmA (by rfl)) (by kernel_rfl) (by kernel_rfl) rfl rfl rfl ?_
    refine AH.takeW (i := 9) rfl (Y.field rfl) (by kernel_rfl) rfl rfl ?_
    refine AH.takeS (i := 10) rfl (Y.loadB rfl lmA (by rfl)) (by kernel_rfl) (by kernel_rfl) rfl rfl rfl ?_
    refine AH.takeW (i := 11) rfl (Y.lenV rfl) (by kernel_rfl) rfl rfl ?_
    refine AH.takeW (i := 12) rfl (Y.sliceH (j' := T.length) rfl rfl (by omega) (by omega)) (by kernel_rfl) rfl rfl ?_
    refine AH.takeW (i := 13) rfl (Y.field rfl) (by kernel_rfl) rfl rfl ?_
    refine AH.takeS (i := 14) rfl (Y.loadB rfl lmA (by rfl)) (by kernel_rfl) (by kernel_rfl) rfl rfl rfl ?_
    refine AH.one (i := 15) (by kernel_rfl) rfl rfl (fun _ => ?_)
    refine AO.call rfl rfl (ref_Arenas_c (l'.take T.length) T (fun _ => ?_) (fun c73 => absurd htk c73) memA (show fL T _ _ _ ∈ _ from memA))
    refine AT.held bxA memB ?_
    refine AH.takeW (i := 16) rfl (Y.not rfl) (by kernel_rfl) rfl rfl ?_
    refine AH.takeW (i := 17) rfl (Y.pickF rfl rfl) (by kernel_rfl) rfl rfl ?_
    refine AH.takeW (i := 18) rfl (Y.move rfl) (by kernel_rfl) rfl rfl ?_
    refine AH.takeW (i := 19) rfl (Y.field rfl) (by kernel_rfl) rfl rfl ?_
    refine AH.takeS (i := 20) rfl (Y.loadB rfl lmA (by rfl)) (by kernel_rfl) (by kernel_rfl) rfl rfl rfl ?_
    refine AH.takeW (i := 21) rfl (Y.move rfl) (by kernel_rfl) rfl rfl ?_
    refine AH.takeW (i := 22) rfl (Y.indexAddr (k := qp) rfl rfl (by omega) (by omega)) (by kernel_rfl) rfl rfl ?_
    refine AH.takeS (i := 23) rfl (Y.loadFA rfl rfl hv) (by kernel_rfl) (by kernel_rfl) rfl rfl rfl ?_
    refine AH.takeS (i := 24) rfl (Y.loadBA rfl lmA (by rfl)) (by kernel_rfl) (by kernel_rfl) rfl rfl rfl ?_
    refine AH.one (i := 25) (by kernel_rfl) rfl rfl (fun _ => ?_)
    refine AO.call rfl rfl (ref_Like_c l'[qp] (oneS t0) (fun _ => ?_) (fun c83 => absurd hqe c83) memA memA memA memA)
    refine AT.held bxA memB ?_
    refine AH.takeW (i := 26) rfl (Y.not rfl) (by kernel_rfl) rfl rfl ?_
    refine AH.takeW (i := 27) rfl (Y.pickF rfl rfl) (by kernel_rfl) rfl rfl ?_
    refine AH.takeW (i := 28) rfl (Y.pickT rfl rfl) (by kernel_rfl) rfl rfl ?_
    refine AH.done (by kernel_rfl) ?_
    refine AK.seqN (AC.condF rfl (AC.skip (AK.seqN (AC.seq (AC.region ?_)))))
    refine AL.go (AO.loadBA rfl rfl ?_)
    refine AL.go (AO.move rfl rfl ?_)
    refine AL.go (AO.call rfl rfl (uunder2_c g T N hno hu i (show fL T aT _ cT ∈ _ from memA) (show fN N aN kN cN ∈ _ from memA) memA (fun e2 h20 h21 => ?_) (fun o q ao ko co hro hpo hqo hk8 => ?_)))
    ·refine AL.go (AO.move rfl rfl (AL.go (AO.extract rfl rfl rfl (AL.go (AO.extract rfl rfl rfl (AL.go (AO.extract rfl rfl rfl (AL.go (AO.alloc rfl (fun b10 => ?_))))))))))
     refine AL.go (AO.storeBA rfl rfl rfl rfl ?_)
     refine AL.go (AO.assign rfl rfl (AL.go (AO.assign rfl rfl (AL.nil (AK.seqN (AC.seq (AC.seq ?_)))))))
     refine AC.region (AL.go (AO.move rfl rfl ?_))
     refine AL.go (AO.neq rfl rfl rfl (fun _ => ?_) (fun c95 => absurd c95 h20))
     refine AL.nil (AK.seqN (AC.condT rfl (AC.seq (AC.region ?_))))
     refine AL.go (AO.call rfl rfl (ualive_c g ?_))
     refine AL.go (AO.move rfl rfl (AL.yes rfl rfl (AO.move rfl rfl ?_)))
     refine AL.yes rfl rfl (AO.neq rfl rfl rfl (fun _ => ?_) (fun c99 => absurd c99 h21))
     refine AL.go (AO.pickT rfl rfl rfl (AL.go (AO.assign rfl rfl (AL.nil (AK.seqN (AC.ret (AK.seqR ?_)))))))
     exact AK.ret (L' := L) (F' := F) Tryz.results3 rfl subA h
    ·refine AL.go (AO.move rfl rfl (AL.go (AO.extract rfl rfl rfl (AL.go (AO.extract rfl rfl rfl (AL.go (AO.extract rfl rfl rfl (AL.go (AO.alloc rfl (fun b10 => ?_))))))))))
     refine AL.go (AO.storeBA rfl rfl rfl rfl ?_)
     refine AL.go (AO.assign rfl rfl (AL.go (AO.assign rfl rfl (AL.nil (AK.seqN (AC.seq (AC.seq ?_)))))))
     refine AC.region (AL.go (AO.move rfl rfl ?_))
     refine AL.go (AO.neq rfl rfl rfl (fun c95 => absurd rfl c95) (fun _ => ?_))
     refine AL.nil (AK.seqN (AC.condF rfl (AC.skip (AK.seqN (AC.seq ?_)))))
     refine AC.region ?_
     refine AL.go (AO.loadBA rfl rfl ?_)
     refine AL.go (AO.move rfl rfl ?_)
     refine AL.go (AO.call rfl rfl (uunder3_c g o N hno hro q hqo hk8 (show fL o ao ko co ∈ _ from memA) (show fN N aN kN cN ∈ _ from memA) memA ?_))
     refine AL.go (AO.move rfl rfl (AL.go (AO.extract rfl rfl rfl (AL.go (AO.extract rfl rfl rfl (AL.go (AO.extract rfl rfl rfl (AL.go (AO.alloc rfl (fun b13 => ?_))))))))))
     refine AL.go (AO.storeBA rfl rfl rfl rfl ?_)
     refine AL.go (AO.assign rfl rfl (AL.go (AO.assign rfl rfl (AL.nil (AK.seqN (AC.seq (AC.seq ?_)))))))
     refine AC.draw (fun _ => false) [(b10, _, _), (b13, _, _), (b3, _, _)] bxA rfl (fun hx hX => ?_)
     have htk2 := take_all hpo
     have hpl2 := hpo.length_le
     have hkT2 := (len_of_fact (hX (fL T aT _ cT) memA)).1
     have hko := (len_of_fact (hX (fL o ao ko co) memA)).1
     have hco := (len_of_fact (hX (fL o ao ko co) memA)).2
     obtain ⟨p2, o2, e2, at2⟩ := row_of_fact (hX (fL o ao ko co) memA) hqo
     cases e2
     obtain ⟨_, _, _, _, _, _, hv2, _, _⟩ := ty_cells at2
     have hv20 := hv2 0 _ rfl
     refine AH.weak (Sub.part (enc := eTy) (lst := o) 0 T.length co (show fL o _ ko co ∈ _ from memA) (by omega) (by omega) (by omega) (by omega)) ?_
     cases hkT2
     cases hko
     refine AH.takeS (i := 0) rfl (Y.loadBA rfl lmA (by rfl)) (by kernel_rfl) (by kernel_rfl) rfl rfl rfl ?_
     refine AH.one (i := 1) (by kernel_rfl) rfl rfl (fun _ => ?_)
     refine AO.call rfl rfl (uright_c g o N (right_ok hro.1) hno (show fL o _ _ co ∈ _ from memA) (show fN N aN kN cN ∈ _ from memA) (fun _ => ?_) (fun c109 => absurd hro c109))
     refine AT.held bxA memB ?_
     refine AH.takeW (i := 2) rfl (Y.not rfl) (by kernel_rfl) rfl rfl ?_
     refine AH.takeW (i := 3) rfl (Y.move rfl) (by kernel_rfl) rfl rfl ?_
     refine AH.takeW (i := 4) rfl (Y.move rfl) (by kernel_rfl) rfl rfl ?_
     refine AH.takeB (i := 5) rfl (Y.neq rfl rfl) (by kernel_rfl) rfl rfl (fun c113 => absurd c113 (by decide)) (fun _ => ?_)
     refine AH.takeW (i := 6) rfl (Y.pickF rfl rfl) (by kernel_rfl) rfl rfl ?_
     refine AH.takeW (i := 7) rfl (Y.move rfl) (by kernel_rfl) rfl rfl ?_
     refine AH.takeW (i := 8) rfl (Y.move rfl) (by kernel_rfl) rfl rfl ?_
     refine AH.takeW (i := 9) rfl (Y.move rfl) (by kernel_rfl) rfl rfl ?_
     refine AH.takeB (i := 10) rfl (Y.neq rfl rfl) (by kernel_rfl) rfl rfl (fun c118 => absurd rfl (ne_of_bne c118)) (fun _ => ?_)
     refine AH.takeW (i := 11) rfl (Y.pickF rfl rfl) (by kernel_rfl) rfl rfl ?_
     refine AH.takeW (i := 12) rfl (Y.move rfl) (by kernel_rfl) rfl rfl ?_
     refine AH.takeS (i := 13) rfl (Y.loadBA rfl lmA (by rfl)) (by kernel_rfl) (by kernel_rfl) rfl rfl rfl ?_
     refine AH.takeS (i := 14) rfl (Y.loadBA rfl lmA (by rfl)) (by kernel_rfl) (by kernel_rfl) rfl rfl rfl ?_
     refine AH.one (i := 15) (by kernel_rfl) rfl rfl (fun _ => ?_)
     refine AO.call rfl rfl (rulike_c o o N N (show fL o _ _ co ∈ _ from memA) (show fN N aN kN cN ∈ _ from memA) (show fL o _ _ co ∈ _ from memA) (show fN N aN kN cN ∈ _ from memA) (fun _ _ => ?_) (fun c123 => absurd ⟨rfl, rfl⟩ c123))
     refine AT.held bxA memB ?_
     refine AH.takeW (i := 16) rfl (Y.not rfl) (by kernel_rfl) rfl rfl ?_
     refine AH.takeW (i := 17) rfl (Y.pickF rfl rfl) (by kernel_rfl) rfl rfl ?_
     refine AH.takeW (i := 18) rfl (Y.move rfl) (by kernel_rfl) rfl rfl ?_
     refine AH.takeW (i := 19) rfl (Y.field rfl) (by kernel_rfl) rfl rfl ?_
     refine AH.takeS (i := 20) rfl (Y.loadB rfl lmA (by rfl)) (by kernel_rfl) (by kernel_rfl) rfl rfl rfl ?_
     refine AH.takeW (i := 21) rfl (Y.move rfl) (by kernel_rfl) rfl rfl ?_
     refine AH.takeW (i := 22) rfl (Y.indexAddr (k := q) rfl rfl (by omega) (by omega)) (by kernel_rfl) rfl rfl ?_
     refine AH.takeW (i := 23) rfl (Y.field rfl) (by kernel_rfl) rfl rfl ?_
     refine AH.takeS (i := 24) rfl (Y.loadF rfl hv20) (by kernel_rfl) (by kernel_rfl) rfl rfl rfl ?_
     refine AH.takeB (i := 25) rfl (Y.eql rfl rfl) (by kernel_rfl) rfl rfl (fun c133 => absurd (eq_of_beq c133) hk8) (fun _ => ?_)
     refine AH.takeW (i := 26) rfl (Y.pickF rfl rfl) (by kernel_rfl) rfl rfl ?_
     refine AH.takeW (i := 27) rfl (Y.move rfl) (by kernel_rfl) rfl rfl ?_
     refine AH.takeW (i := 28) rfl (Y.field rfl) (by kernel_rfl) rfl rfl ?_
     refine AH.takeS (i := 29) rfl (Y.loadB rfl lmA (by rfl)) (by kernel_rfl) (by kernel_rfl) rfl rfl rfl ?_
     refine AH.takeW (i := 30) rfl (Y.field rfl) (by kernel_rfl) rfl rfl ?_
     refine AH.takeS (i := 31) rfl (Y.loadB rfl lmA (by rfl)) (by kernel_rfl) (by kernel_rfl) rfl rfl rfl ?_
     refine AH.takeW (i := 32) rfl (Y.lenV rfl) (by kernel_rfl) rfl rfl ?_
     refine AH.takeW (i := 33) rfl (Y.sliceH (j' := T.length) rfl rfl (by omega) (by omega)) (by kernel_rfl) rfl rfl ?_
     refine AH.takeW (i := 34) rfl (Y.field rfl) (by kernel_rfl) rfl rfl ?_
     refine AH.takeS (i := 35) rfl (Y.loadB rfl lmA (by rfl)) (by kernel_rfl) (by kernel_rfl) rfl rfl rfl ?_
     refine AH.one (i := 36) (by kernel_rfl) rfl rfl (fun _ => ?_)
     refine AO.call rfl rfl (ref_Arenas_c (o.take T.length) T (fun _ => ?_) (fun c144 => absurd htk2 c144) memA (show fL T _ _ _ ∈ _ from memA))
     refine AT.held bxA memB ?_
     refine AH.takeW (i := 37) rfl (Y.not rfl) (by kernel_rfl) rfl rfl ?_
     refine AH.takeW (i := 38) rfl (Y.pickF rfl rfl) (by kernel_rfl) rfl rfl ?_
     refine AH.done (by kernel_rfl) ?_
     refine AK.seqN (AC.condF rfl (AC.skip (AK.seqN (AC.seq (AC.region ?_)))))
     refine AL.go (AO.loadBA rfl rfl ?_)
     refine AL.go (AO.move rfl rfl ?_)
     refine AL.go (AO.call rfl rfl (umethods_c g T N hok hno i (show fL T _ _ _ ∈ _ from memA) (show fN N aN kN cN ∈ _ from memA) memA memA (fun e3 h30 h31 => ?_) (fun o3 ms a50 k50 c50 a51 k51 c51 hr3 hms => ?_)))
     ·refine AL.go (AO.move rfl rfl (AL.go (AO.extract rfl rfl rfl (AL.go (AO.extract rfl rfl rfl (AL.go (AO.extract rfl rfl rfl (AL.go (AO.alloc rfl (fun b16 => ?_))))))))))
      refine AL.go (AO.storeBA rfl rfl rfl rfl ?_)
      refine AL.go (AO.assign rfl rfl (AL.go (AO.assign rfl rfl (AL.nil (AK.seqN (AC.seq (AC.seq ?_)))))))
      refine AC.region (AL.go (AO.move rfl rfl ?_))
      refine AL.go (AO.neq rfl rfl rfl (fun _ => ?_) (fun c155 => absurd c155 h30))
      refine AL.nil (AK.seqN (AC.condT rfl (AC.seq (AC.region ?_))))
      refine AL.go (AO.call rfl rfl (ualive_c g ?_))
      refine AL.go (AO.move rfl rfl (AL.yes rfl rfl (AO.move rfl rfl ?_)))
      refine AL.yes rfl rfl (AO.neq rfl rfl rfl (fun _ => ?_) (fun c159 => absurd c159 (h31 hu)))
      refine AL.go (AO.pickT rfl rfl rfl (AL.go (AO.assign rfl rfl (AL.nil (AK.seqN (AC.ret (AK.seqR ?_)))))))
      exact AK.ret (L' := L) (F' := F) Tryz.results3 rfl subA h
     ·refine AL.go (AO.move rfl rfl (AL.go (AO.extract rfl rfl rfl (AL.go (AO.extract rfl rfl rfl (AL.go (AO.extract rfl rfl rfl (AL.go (AO.alloc rfl (fun b16 => ?_))))))))))
      refine AL.go (AO.storeBA rfl rfl rfl rfl ?_)
      refine AL.go (AO.assign rfl rfl (AL.go (AO.assign rfl rfl (AL.nil (AK.seqN (AC.seq (AC.seq ?_)))))))
      refine AC.region (AL.go (AO.move rfl rfl ?_))
      refine AL.go (AO.neq rfl rfl rfl (fun c155 => absurd rfl c155) (fun _ => ?_))
      refine AL.nil (AK.seqN (AC.condF rfl (AC.skip (AK.seqN (AC.seq ?_)))))
      refine AC.seq (AC.region (AL.go (AO.move rfl rfl ?_)))
      refine AL.go (AO.len rfl rfl (fun hl162 => ?_) (enc := eMt) (lst := ms) (hm := memA))
      refine AL.go (AO.move rfl rfl (AL.nil (AK.seqN (AC.block ?_))))
      refine AC.loop (fun (v : Nat) => v ≤ ms.length) (fun v => [(16, .pointer (some ⟨b16, 0, none⟩)), (17, .slice a51 k51 c51), (161, .slice a51 k51 c51), (162, .int .i64 ms.length), (163, .int .i64 (v : Int))]) (fun _ => _) (fun _ => _) (fun v => ms.length - v) 0 (Nat.zero_le _) srA (Sub.refl _ _) ?_
      rintro v hv9
      refine AC.seq (AC.region ?_)
      refine AL.go (AO.lss rfl rfl rfl (fun c164 => ?_) (fun c164 => ?_))
      ·refine AL.nil (AK.seqN (AC.seq (AC.condT rfl (AC.skip (AK.seqN ?_)))))
       refine AC.seq (AC.block (AC.seq (AC.region (AL.go (AO.move rfl rfl ?_)))))
       have hvl : v < ms.length := by omega
       obtain ⟨⟨hs0, hs1, hs5⟩, hless⟩ := hms v hvl
       refine AL.go (AO.indexAddr rfl rfl rfl rfl (enc := eMt) (lst := ms) memA hvl (fun _ _ => ?_))
       refine AL.go (AO.loadFA rfl rfl ?_)
       refine AL.go (AO.alloc rfl (fun b20 => ?_))
       refine AL.go (AO.assign rfl rfl ?_)
       refine AL.go (AO.storeBA rfl rfl rfl rfl ?_)
       refine AL.nil (AK.seqN (AC.seq ?_))
       refine AC.draw (fun _ => false) [(b20, _, _), (b16, _, _)] bxA rfl (fun hx hX => ?_)
       have hk51 := (len_of_fact (hX (fMs ms a51 k51 c51) memA)).1
       have hk50 := (len_of_fact (hX (fL o3 a50 k50 c50) memA)).1
       have hsl : ms[v].sig.toNat < o3.length := by omega
       obtain ⟨p4, o4, e4, at4⟩ := row_of_fact (hX (fMs ms a51 k51 c51) memA) hvl
       cases e4
       obtain ⟨p5, o5, e5, at5⟩ := row_of_fact (hX (fL o3 a50 k50 c50) memA) hsl
       cases e5
       obtain ⟨_, _, _, _, _, _, hv5, _, _⟩ := ty_cells at5
       have hv50 := hv5 0 _ rfl
       have hkd : o3[ms[v].sig.toNat].kind = 5 := by
        have := kind_get (l := o3) (k := ms[v].sig) (j := ms[v].sig.toNat) (by omega) hsl
        rw [← this]; exact hs5
       cases hk51
       cases hk50
       refine AH.takeW (i := 0) rfl (Y.move rfl) (by kernel_rfl) rfl rfl ?_
       refine AH.takeB (i := 1) rfl (Y.gtr rfl rfl) (by kernel_rfl) rfl rfl (fun c169 => ?_) (fun c169 => ?_)
       ·replace c169 := of_decide_eq_true c169
        refine AH.takeW (i := 2) rfl (Y.move rfl) (by kernel_rfl) rfl rfl ?_
        refine AH.takeW (i := 3) rfl (Y.move rfl) (by kernel_rfl) rfl rfl ?_
        refine AH.takeW (i := 4) rfl (Y.move rfl) (by kernel_rfl) rfl rfl ?_
        refine AH.takeW (i := 5) rfl (Y.sub rfl rfl (by omega) (by omega)) (by kernel_rfl) rfl rfl ?_
        obtain ⟨p6, o6, e6, at6⟩ := row_of_fact (i := v - 1) (hX (fMs ms (some ⟨p4, o4, none⟩) _ c51) memA) (by omega)
        cases e6
        have hv6 := mt_cells at6 0 _ rfl
        refine AH.takeW (i := 6) rfl (Y.indexAddr (k := v - 1) rfl rfl (by omega) (by omega)) (by kernel_rfl) rfl rfl ?_
        refine AH.takeW (i := 7) rfl (Y.field rfl) (by kernel_rfl) rfl rfl ?_
        refine AH.takeS (i := 8) rfl (Y.loadF rfl hv6) (by kernel_rfl) (by kernel_rfl) rfl rfl rfl ?_
        refine AH.takeW (i := 9) rfl (Y.field rfl) (by kernel_rfl) rfl rfl ?_
        refine AH.takeS (i := 10) rfl (Y.loadB rfl lmA (by rfl)) (by kernel_rfl) (by kernel_rfl) rfl rfl rfl ?_
        refine AH.takeB (i := 11) rfl (Y.geqS rfl rfl) (by kernel_rfl) rfl rfl (fun c179 => absurd (hless (by omega)) (by simpa using c179)) (fun _ => ?_)
        refine AH.takeW (i := 12) rfl (Y.pickT rfl rfl) (by kernel_rfl) rfl rfl ?_
        refine AH.takeW (i := 13) rfl (Y.move rfl) (by kernel_rfl) rfl rfl ?_
        refine AH.takeW (i := 14) rfl (Y.field rfl) (by kernel_rfl) rfl rfl ?_
        refine AH.takeS (i := 15) rfl (Y.loadB rfl lmA (by rfl)) (by kernel_rfl) (by kernel_rfl) rfl rfl rfl ?_
        refine AH.takeW (i := 16) rfl (Y.field rfl) (by kernel_rfl) rfl rfl ?_
        refine AH.takeS (i := 17) rfl (Y.loadB rfl lmA (by rfl)) (by kernel_rfl) (by kernel_rfl) rfl rfl rfl ?_
        refine AH.takeW (i := 18) rfl (Y.indexAddr (k := ms[v].sig.toNat) rfl rfl (by omega) (by omega)) (by kernel_rfl) rfl rfl ?_
        refine AH.takeW (i := 19) rfl (Y.field rfl) (by kernel_rfl) rfl rfl ?_
        refine AH.takeS (i := 20) rfl (Y.loadF rfl hv50) (by kernel_rfl) (by kernel_rfl) rfl rfl rfl ?_
        refine AH.takeB (i := 21) rfl (Y.neq rfl rfl) (by kernel_rfl) rfl rfl (fun c189 => absurd hkd (ne_of_bne c189)) (fun _ => ?_)
        refine AH.takeW (i := 22) rfl (Y.pickF rfl rfl) (by kernel_rfl) rfl rfl ?_
        refine AH.done (by kernel_rfl) ?_
        refine AK.seqN (AC.condF rfl (AC.skip (AK.blkN (AK.seqN (AC.region ?_)))))
        refine AL.go (AO.add rfl rfl rfl (by omega) (by omega) (AL.go (AO.move rfl rfl (AL.nil ?_))))
        refine AK.next (v + 1) (by omega) (by omega) srA (Sub.drop.trans subF)
       ·replace c169 := of_decide_eq_false c169
        refine AH.takeW (i := 2) rfl (Y.move rfl) (by kernel_rfl) rfl rfl ?_
        refine AH.skip (i := 3) rfl (by kernel_rfl) rfl rfl ?_
        refine AH.skip (i := 4) rfl (by kernel_rfl) rfl rfl ?_
        refine AH.skip (i := 5) rfl (by kernel_rfl) rfl rfl ?_
        refine AH.skip (i := 6) rfl (by kernel_rfl) rfl rfl ?_
        refine AH.skip (i := 7) rfl (by kernel_rfl) rfl rfl ?_
        refine AH.skip (i := 8) rfl (by kernel_rfl) rfl rfl ?_
        refine AH.skip (i := 9) rfl (by kernel_rfl) rfl rfl ?_
        refine AH.skip (i := 10) rfl (by kernel_rfl) rfl rfl ?_
        refine AH.skip (i := 11) rfl (by kernel_rfl) rfl rfl ?_
        refine AH.takeW (i := 12) rfl (Y.pickF rfl rfl) (by kernel_rfl) rfl rfl ?_
        refine AH.takeW (i := 13) rfl (Y.move rfl) (by kernel_rfl) rfl rfl ?_
        refine AH.takeW (i := 14) rfl (Y.field rfl) (by kernel_rfl) rfl rfl ?_
        refine AH.takeS (i := 15) rfl (Y.loadB rfl lmA (by rfl)) (by kernel_rfl) (by kernel_rfl) rfl rfl rfl ?_
        refine AH.takeW (i := 16) rfl (Y.field rfl) (by kernel_rfl) rfl rfl ?_
        refine AH.takeS (i := 17) rfl (Y.loadB rfl lmA (by rfl)) (by kernel_rfl) (by kernel_rfl) rfl rfl rfl ?_
        refine AH.takeW (i := 18) rfl (Y.indexAddr (k := ms[v].sig.toNat) rfl rfl (by omega) (by omega)) (by kernel_rfl) rfl rfl ?_
        refine AH.takeW (i := 19) rfl (Y.field rfl) (by kernel_rfl) rfl rfl ?_
        refine AH.takeS (i := 20) rfl (Y.loadF rfl hv50) (by kernel_rfl) (by kernel_rfl) rfl rfl rfl ?_
        refine AH.takeB (i := 21) rfl (Y.neq rfl rfl) (by kernel_rfl) rfl rfl (fun c189 => absurd hkd (ne_of_bne c189)) (fun _ => ?_)
        refine AH.takeW (i := 22) rfl (Y.pickF rfl rfl) (by kernel_rfl) rfl rfl ?_
        refine AH.done (by kernel_rfl) ?_
        refine AK.seqN (AC.condF rfl (AC.skip (AK.blkN (AK.seqN (AC.region ?_)))))
        refine AL.go (AO.add rfl rfl rfl (by omega) (by omega) (AL.go (AO.move rfl rfl (AL.nil ?_))))
        refine AK.next (v + 1) (by omega) (by omega) srA (Sub.drop.trans subF)
      ·refine AL.nil (AK.seqN (AC.seq (AC.condF rfl (AC.exit (AK.seqX ?_)))))
       refine AK.seqX (AK.blkX (AK.seqN (AC.seq (AC.region ?_))))
       refine AL.go (AO.call rfl rfl (ualive_c g ?_))
       refine AL.go (AO.move rfl rfl ?_)
       refine AL.yes rfl rfl (AO.loadBA rfl rfl ?_)
       refine AL.yes rfl rfl (AO.call rfl rfl (uright_c g o3 N (right_ok hr3.1) hno (show fL o3 _ _ _ ∈ _ from memA) (show fN N aN kN cN ∈ _ from memA) (fun _ => ?_) (fun c195 => absurd hr3 c195)))
       refine AL.go (AO.pickT rfl rfl rfl (AL.go (AO.assign rfl rfl (AL.nil (AK.seqN (AC.ret ?_))))))
       exact AK.ret (L' := L) (F' := F) Tryz.results3 rfl subA h
  ·refine AL.go (AO.not rfl rfl (AL.nil (AK.seqN (AC.condT rfl (AC.seq (AC.region ?_))))))
   refine AL.go (AO.call rfl rfl (ualive_c g ?_))
   refine AL.go (AO.assign rfl rfl (AL.nil (AK.seqN (AC.ret (AK.seqR ?_)))))
   exact AK.ret (L' := L) (F' := F) Tryz.results3 rfl subA h
end
end Go.Sy
