/- Joined of my own texts: ScD, FwAE, PaH, PaI, FwAF, PaJ, PaK, PaL, ParM, ParB, PaM. -/
import Derived.Test.YtodaafgpfjcpgaaDoorV19
import Derived.WideLaws
namespace Go.Sy
open Go Go.Proofs Go.RowKit
theorem dec_at (s : Bs) (p : Nat) : Utf8.decode ⟨s.toArray⟩ p = decS (s.drop p) := by
  have hg : ∀ j, (⟨s.toArray⟩ : ByteArray).get! (p + j) = (s.drop p).getD j 0 := fun j => by
    rw [List.getD_eq_getElem?_getD, List.getElem?_drop]
    show (s.toArray)[p + j]! = _
    simp only [List.getElem!_toArray, List.getElem!_eq_getElem?_getD]
    rfl
  have h0 : (⟨s.toArray⟩ : ByteArray).get! p = (s.drop p).getD 0 0 := hg 0
  rw [Lib.decode_at, hg 1, hg 2, hg 3, h0, S_size]
  unfold decS
  rw [List.length_drop]
section
variable {s : Bs} {f pos : Nat} {out : List Tok}
theorem scanF_end (hs : s = []) : scanF (f + 1) s pos out = (if 1500 < (closeB out pos).length then .error (0, 7) else .ok (closeB out pos)) := by rw [scanF, if_pos hs]
theorem scanF_err1 (hs : s ≠ []) (h : skippedB s = none) : scanF (f + 1) s pos out = .error (pos, 5) := by rw [scanF, if_neg hs, h]
theorem scanF_skip (hs : s ≠ []) {n : Nat} {nl : Bool} (h : skippedB s = some (n, nl)) (hn : 0 < n) : scanF (f + 1) s pos out = scanF f (s.drop n) (pos + n) (if nl && endsB out then out ++ [⟨6, [10], pos⟩] else out) := by rw [scanF, if_neg hs, h]; simp only [if_pos hn]
theorem scanF_err2 (hs : s ≠ []) {n : Nat} {nl : Bool} (h : skippedB s = some (n, nl)) (hn : ¬ 0 < n) {e : Int} (ht : tokenB s = .error e) : scanF (f + 1) s pos out = .error (pos, e) := by rw [scanF, if_neg hs, h]; simp only [if_neg hn, ht]
theorem scanF_tok (hs : s ≠ []) {n m : Nat} {nl : Bool} {k : Int} (h : skippedB s = some (n, nl)) (hn : ¬ 0 < n) (ht : tokenB s = .ok (k, m)) : scanF (f + 1) s pos out = scanF f (s.drop m) (pos + m) (out ++ [⟨k, s.take m, pos⟩]) := by rw [scanF, if_neg hs, h]; simp only [if_neg hn, ht]
end
theorem endsB_some {l : List Tok} {t : Tok} (h : l[l.length - 1]? = some t) : endsB l = endsT t.kind t.text := by
  unfold endsB
  rw [List.getLast?_eq_getElem?, h]
attribute [local irreducible] AC AT AO AK AH ACalls ACallsX Sub Res.cells Res.obj Res.nix Res.own Res.map Exit.then Exit.inBlock Exit.noGoto bodyPost Code.wp Code.wpIn WL Next Post PostX Kont
section
variable {W0 : World} {L : List Res} {F : List Fact} {R : Value → List Res → List Fact → Prop}
set_option maxRecDepth 100000
set_option maxHeartbeats 4000000
theorem ends_c (l : List Tok) (hl : l.length ≤ 100000) {a : Option Addr} {k c : Nat} (hT : endsB l = true → R (.bool true) (Res.own (.slice a k c) 38 3 (l.map eTok) :: L) F) (hF : endsB l = false → R (.bool false) (Res.own (.slice a k c) 38 3 (l.map eTok) :: L) F) :
    ACalls Tryd.prog W0 35 #[.slice a k c] (Res.own (.slice a k c) 38 3 (l.map eTok) :: L) F R := by
  have hln : (l.map eTok).length = l.length := List.length_map ..
  refine Gu Tryd.func35 He Tryd.ntmps35 He ?_
  refine qs 9 ?_
  refine Gd (AO.lenO He He (i := 0) He (fun hk => ?_))
  refine Gd (Gq He He He (fun c6 => ?_) (fun c6 => ?_))
  ·refine qs 10 ?_
   exact Gf Tryd.results35 rfl (Ga _ _) (hF (by have : l = [] := List.length_eq_zero_iff.1 Hg; subst this; rfl))
  refine qs 9 ?_
  refine Gd (AO.lenO He He (i := 0) He (fun hk9 => ?_))
  refine qs 1 ?_
  have hq : l.length - 1 < l.length := by omega
  have he := endsB_some (List.getElem?_eq_getElem hq)
  refine Gd (AO.indexAddrO (q := l.length - 1) He He He Hg (i := 0) He Hg (fun bb hbb => ?_))
  subst hbb
  refine Gd (AO.loadORA (q := l.length - 1) (vs := [.int .i64 l[l.length - 1].kind, S l[l.length - 1].text, .int .i64 (l[l.length - 1].pos : Int)]) He He He (i := 0) He (by rw [List.getElem?_map, List.getElem?_eq_getElem hq]; rfl) He ?_)
  refine Gd (GT He (fun b3 => ?_))
  refine qs 13 ?_
  refine Gd (Gq He He He (fun c16 => ?_) (fun c16 => ?_))
  ·refine qs 8 ?_
   refine Gd (AO.eqlS He He He (fun c19 => ?_) (fun c19 => ?_))
   ·refine qs 16 ?_
    first | refine Gf (L' := Res.own (.slice _ k c) 38 3 (l.map eTok) :: L) (F' := F) Tryd.results35 He Ge (hT ?_) | refine Gf (L' := Res.own (.slice _ k c) 38 3 (l.map eTok) :: L) (F' := F) Tryd.results35 He Ge (hF ?_)
    rw [he]
    unfold endsT
    simp [*] <;> omega
   refine qs 3 ?_
   refine Gk He He (AO.eqlS He He He (fun c23 => ?_) (fun c23 => ?_))
   ·refine qs 12 ?_
    first | refine Gf (L' := Res.own (.slice _ k c) 38 3 (l.map eTok) :: L) (F' := F) Tryd.results35 He Ge (hT ?_) | refine Gf (L' := Res.own (.slice _ k c) 38 3 (l.map eTok) :: L) (F' := F) Tryd.results35 He Ge (hF ?_)
    rw [he]
    unfold endsT
    simp [*] <;> omega
   refine qs 4 ?_
   refine Gk He He (AO.eqlS He He He (fun c28 => ?_) (fun c28 => ?_))
   ·refine qs 7 ?_
    first | refine Gf (L' := Res.own (.slice _ k c) 38 3 (l.map eTok) :: L) (F' := F) Tryd.results35 He Ge (hT ?_) | refine Gf (L' := Res.own (.slice _ k c) 38 3 (l.map eTok) :: L) (F' := F) Tryd.results35 He Ge (hF ?_)
    rw [he]
    unfold endsT
    simp [*] <;> omega
   refine qs 7 ?_
   first | refine Gf (L' := Res.own (.slice _ k c) 38 3 (l.map eTok) :: L) (F' := F) Tryd.results35 He Ge (hT ?_) | refine Gf (L' := Res.own (.slice _ k c) 38 3 (l.map eTok) :: L) (F' := F) Tryd.results35 He Ge (hF ?_)
   rw [he]
   unfold endsT
   simp [*] <;> omega
  refine qs 6 ?_
  refine Gd (Gq He He He (fun c31 => ?_) (fun c31 => ?_))
  ·refine qs 8 ?_
   refine Gd (AO.eqlS He He He (fun c34 => ?_) (fun c34 => ?_))
   ·refine qs 6 ?_
    first | refine Gf (L' := Res.own (.slice _ k c) 38 3 (l.map eTok) :: L) (F' := F) Tryd.results35 He Ge (hT ?_) | refine Gf (L' := Res.own (.slice _ k c) 38 3 (l.map eTok) :: L) (F' := F) Tryd.results35 He Ge (hF ?_)
    rw [he]
    unfold endsT
    simp [*] <;> omega
   refine qs 6 ?_
   first | refine Gf (L' := Res.own (.slice _ k c) 38 3 (l.map eTok) :: L) (F' := F) Tryd.results35 He Ge (hT ?_) | refine Gf (L' := Res.own (.slice _ k c) 38 3 (l.map eTok) :: L) (F' := F) Tryd.results35 He Ge (hF ?_)
   rw [he]
   unfold endsT
   simp [*] <;> omega
  refine qs 11 ?_
  refine Gd (AO.geq He He He (fun c37 => ?_) (fun c37 => ?_))
  ·refine qs 3 ?_
   refine Gk He He (AO.leq He He He (fun c41 => ?_) (fun c41 => ?_))
   ·refine qs 5 ?_
    first | refine Gf (L' := Res.own (.slice _ k c) 38 3 (l.map eTok) :: L) (F' := F) Tryd.results35 He Ge (hT ?_) | refine Gf (L' := Res.own (.slice _ k c) 38 3 (l.map eTok) :: L) (F' := F) Tryd.results35 He Ge (hF ?_)
    rw [he]
    unfold endsT
    simp [*] <;> omega
   refine qs 5 ?_
   first | refine Gf (L' := Res.own (.slice _ k c) 38 3 (l.map eTok) :: L) (F' := F) Tryd.results35 He Ge (hT ?_) | refine Gf (L' := Res.own (.slice _ k c) 38 3 (l.map eTok) :: L) (F' := F) Tryd.results35 He Ge (hF ?_)
   rw [he]
   unfold endsT
   simp [*] <;> omega
  refine qs 9 ?_
  first | refine Gf (L' := Res.own (.slice _ k c) 38 3 (l.map eTok) :: L) (F' := F) Tryd.results35 He Ge (hT ?_) | refine Gf (L' := Res.own (.slice _ k c) 38 3 (l.map eTok) :: L) (F' := F) Tryd.results35 He Ge (hF ?_)
  rw [he]
  unfold endsT
  simp [*] <;> omega
theorem check_c (s : Bs) (h : match checkB s with
    | .ok _ => R (.tuple #[.int .i64 0, .int .i64 0]) L F
    | .error (i, e) => R (.tuple #[.int .i64 (i : Int), .int .i64 e]) L F) : ACalls Tryd.prog W0 33 #[S s] L F R := by
  unfold checkB at h
  refine Gu Tryd.func33 He Tryd.ntmps33 He ?_
  refine qs 11 ?_
  refine Gd (AO.gtr He He He (fun c8 => ?_) (fun c8 => ?_))
  ·refine qs 4 ?_
   rw [if_pos Hg] at h
   refine qs 7 ?_
   exact Ha Tryd.results33 rfl rfl (Ga _ _) h
  refine qs 7 ?_
  rw [if_neg Hg] at h
  refine qs 2 ?_
  refine Gd (AO.rangeS He He (fun b10 => ?_))
  refine qs 3 ?_
  refine GX (fun (q : Nat × Nat) => s.length ≤ q.1 + q.2 ∧ checkF s.length s 0 = checkF q.2 (s.drop q.1) q.1) (fun _ => [(0, S s), (10, pt b10)]) (fun q => Res.obj b10 (iterO s q.1) :: L) (fun _ => F) (fun q => q.2) (0, s.length) ⟨by simp, rfl⟩ srA (Ga _ _) ?_
  rintro ⟨p, f⟩ ⟨hpf, he⟩
  simp only at hpf he ⊢
  refine qs 2 ?_
  refine Gd (AO.nextS (i := 0) He He He (fun hp => ?_) (fun hp => ?_))
  ·have hd := dec_at s p
   have hne : s.drop p ≠ [] := by rw [Ne, List.drop_eq_nil_iff]; omega
   obtain ⟨f, rfl⟩ : ∃ f', f = f' + 1 := ⟨f - 1, by omega⟩
   rw [checkF, if_neg hne] at he
   refine Gd (AO.extract He He He ?_)
   refine qs 19 ?_
   refine Gd (Gq He He He (fun c16 => ?_) (fun c16 => ?_))
   ·refine qs 16 ?_
    rw [hd] at c16
    rw [if_pos Hg] at he
    rw [he] at h
    exact Ha (L' := L) (F' := F) Tryd.results33 rfl rfl (by repeat (first | exact Ga _ _ | exact Gb (fun x hx => by repeat (first | exact hx | refine List.mem_cons_of_mem _ ?_)) | refine Gc Ge ?_)) h
   refine qs 8 ?_
   refine Gd (Gq He He He (fun c19 => ?_) (fun c19 => ?_))
   ·refine qs 3 ?_
    refine Gk He He (AO.sliceSL (i' := p) He He He He Hg ?_)
    refine Gk He He (Gg He He (hasPre_c _ _ ?_))
    refine qs 4 ?_
    refine AC.cond He (fun c26 => ?_) (fun c26 => ?_)
    ·refine qs 12 ?_
     rw [hd] at c16 c19
     rw [if_neg Hg, if_pos ⟨by omega, by simpa using c26⟩] at he
     rw [he] at h
     exact Ha (L' := L) (F' := F) Tryd.results33 rfl rfl (by repeat (first | exact Ga _ _ | exact Gb (fun x hx => by repeat (first | exact hx | refine List.mem_cons_of_mem _ ?_)) | refine Gc Ge ?_)) h
    refine qs 2 ?_
    rw [hd] at c16 c19
    have hw := decS_pos (s.drop p)
    rw [if_neg Hg, if_neg (by first | (intro q; omega) | (rintro ⟨_, q⟩; simp [q] at c26)), List.drop_drop] at he
    rw [hd]
    exact GH (p + (decS (s.drop p)).2, f) ⟨by simp only; omega, he⟩ (by simp only; omega) srA (Ga _ _)
   refine qs 12 ?_
   rw [hd] at c16 c19
   have hw := decS_pos (s.drop p)
   rw [if_neg Hg, if_neg (by first | (intro q; omega) | (rintro ⟨_, q⟩; simp [q] at c26)), List.drop_drop] at he
   rw [hd]
   exact GH (p + (decS (s.drop p)).2, f) ⟨by simp only; omega, he⟩ (by simp only; omega) srA (Ga _ _)
  refine Gd (AO.extract He He He ?_)
  refine qs 16 ?_
  have he2 : checkF s.length s 0 = none := by rw [he, List.drop_of_length_le hp]; cases f <;> simp [checkF]
  rw [he2] at h
  exact Ha (L' := L) (F' := F) Tryd.results33 rfl rfl (by repeat (first | exact Ga _ _ | exact Gb (fun x hx => by repeat (first | exact hx | refine List.mem_cons_of_mem _ ?_)) | refine Gc Ge ?_)) h
theorem check_ok {s : Bs} {u : Unit} (hc : checkB s = .ok u) (h : R (.tuple #[.int .i64 0, .int .i64 0]) L F) : ACalls Tryd.prog W0 33 #[S s] L F R := check_c s (by rw [hc]; exact h)
theorem check_err {s : Bs} {i : Nat} {e : Int} (hc : checkB s = .error (i, e)) (h : R (.tuple #[.int .i64 (i : Int), .int .i64 e]) L F) : ACalls Tryd.prog W0 33 #[S s] L F R := check_c s (by rw [hc]; exact h)
theorem skipped_cc (g : ScanG W0 F) (s : Bs) (h0 : s ≠ []) (hs : s.length ≤ 100000) (hN : skippedB s = none → R (.tuple #[.int .i64 (-1), .bool false]) L F) (hS : ∀ n b, skippedB s = some (n, b) → R (.tuple #[.int .i64 (n : Int), .bool b]) L F) : ACalls Tryd.prog W0 34 #[S s] L F R := by
  refine skipped_c g s h0 hs ?_
  cases h : skippedB s with
  | none => exact hN h
  | some p => obtain ⟨n, b⟩ := p; exact hS n b h
theorem token_cc (g : ScanG W0 F) (s : Bs) (h0 : s ≠ []) (hs : s.length ≤ 100000) (hO : ∀ k n, tokenB s = .ok (k, n) → R (.tuple #[.int .i64 k, .int .i64 (n : Int), .int .i64 0]) L F) (hE : ∀ e, tokenB s = .error e → R (.tuple #[.int .i64 0, .int .i64 0, .int .i64 e]) L F) : ACalls Tryd.prog W0 36 #[S s] L F R := by
  refine token_c g s h0 hs ?_
  cases h : tokenB s with
  | error e => exact hE e h
  | ok p => obtain ⟨k, n⟩ := p; exact hO k n h
theorem scan_c (g : ScanG W0 F) (s : Bs) (hs : s.length ≤ 100000) (h : match scanB s with
    | .ok T => ∀ a k c, R (.tuple #[.slice a k c, .int .i64 0, .int .i64 0]) L (.slc (.slice a k c) 3 (T.map eTok) :: F)
    | .error (i, e) => R (.tuple #[.slice none 0 0, .int .i64 (i : Int), .int .i64 e]) L F) : ACalls Tryd.prog W0 19 #[S s] L F R := by
  have hok := scanB_ok s
  unfold scanB at h hok
  cases hc : checkB s with
  | error p =>
    obtain ⟨i, e⟩ := p
    rw [hc] at h hok
    have he0 : e ≠ 0 := by have := hok.2; omega
    refine Gu Tryd.func19 He Tryd.ntmps19 He ?_
    refine qs 7 ?_
    refine AC.scope ?_
    refine qs 4 ?_
    refine Gd (Gg He He (check_err hc ?_))
    refine qs 10 ?_
    refine Gd (Hb He He He (fun _ => ?_) (fun c => absurd c he0))
    refine qs 14 ?_
    refine AK.scpR ?_
    exact Gy Tryd.results19 rfl rfl rfl (Ga _ _) h
  | ok u =>
    rw [hc] at h
    clear hok
    simp only at h
    refine Gu Tryd.func19 He Tryd.ntmps19 He ?_
    refine qs 7 ?_
    refine AC.scope ?_
    refine qs 4 ?_
    refine Gd (Gg He He (check_ok hc ?_))
    refine qs 10 ?_
    refine Gd (Hb He He He (fun c => absurd He c) (fun _ => ?_))
    refine qs 7 ?_
    refine GE (Sub.ownNil (e := 38) (sz := 3)) ?_
    refine Gd (AO.assign He He ?_)
    refine qs 8 ?_
    refine AC.label ?_
    refine qs 3 ?_
    refine GX (fun (q : (List Tok × Nat × Nat) × (Option Addr × Nat × Nat)) => q.1.2.1 ≤ s.length ∧ s.length < q.1.2.2 + q.1.2.1 ∧ q.1.1.length ≤ q.1.2.1 ∧ scanF (s.length + 1) s 0 [] = scanF q.1.2.2 (s.drop q.1.2.1) q.1.2.1 q.1.1)
     (fun q => [(0, S s), (7, .slice q.2.1 q.2.2.1 q.2.2.2), (8, .int .i64 (q.1.2.1 : Int))]) (fun q => Res.own (.slice q.2.1 q.2.2.1 q.2.2.2) 38 3 (q.1.1.map eTok) :: L) (fun _ => F) (fun q => q.1.2.2)
     (([], 0, s.length + 1), (none, 0, 0)) ⟨Nat.zero_le _, by simp only; omega, Nat.le_refl _, rfl⟩ srA (Ga _ _) ?_
    rintro ⟨⟨out, p, f⟩, ⟨a1, k1, c1⟩⟩ ⟨hp, hf, ho, he⟩
    simp only at hp hf ho he ⊢
    obtain ⟨f, rfl⟩ : ∃ f', f = f' + 1 := ⟨f - 1, by omega⟩
    refine qs 6 ?_
    refine Gd (Hc He He He (fun c25 => ?_) (fun c25 => ?_))
    ·refine qs 10 ?_
     have hne : s.drop p ≠ [] := by rw [Ne, List.drop_eq_nil_iff]; omega
     have hdl : (s.drop p).length = s.length - p := List.length_drop ..
     refine Gd (AO.sliceSL (i' := p) He He He He Hg ?_)
     refine Gd (Gg He He (skipped_cc g (s.drop p) hne Hg (fun hsk => ?_) (fun n nl hsk => ?_)))
     ·refine qs 12 ?_
      refine Gd (Hc He He He (fun _ => ?_) (fun c => absurd c (by decide)))
      refine qs 19 ?_
      refine AK.scpR ?_
      rw [he, scanF_err1 hne hsk] at h
      exact Gy (L' := L) (F' := F) Tryd.results19 rfl rfl rfl (by repeat (first | exact Ga _ _ | exact Gb (fun x hx => by repeat (first | exact hx | refine List.mem_cons_of_mem _ ?_)) | refine Gc Ge ?_)) h
     refine qs 12 ?_
     have hnl := skippedB_le hne hsk
     refine Gd (Hc He He He (fun c => absurd c Hg) (fun _ => ?_))
     refine qs 7 ?_
     refine Gd (AO.gtr He He He (fun c39 => ?_) (fun c39 => ?_))
     ·refine qs 8 ?_
      cases nl
      rotate_left
      all_goals refine Gd (AO.move rfl rfl ?_)
      ·refine qs 1 ?_
       refine Gk He He (Gg He He (ends_c out Hg (fun c43 => ?_) (fun c43 => ?_)))
       ·refine qs 8 ?_
        refine Gd (Gz He He He He He (fun b48 => ?_))
        refine Gd (GQ (enc := eTok) (lst := out) [⟨6, [10], p⟩] He He He (i := 0) He (.val (.val (.val .nil))) He He (fun _ => rfl) (by unfold maxLen; omega) Hg (fun a2 k2 c2 => ?_))
        refine qs 15 ?_
        rw [scanF_skip hne hsk Hg, c43, List.drop_drop] at he
        refine GH ((out ++ [⟨6, [10], p⟩], p + n, f), (a2, k2, c2)) ⟨by simp only; omega, by simp only; omega, by simp only [List.length_append, List.length_cons, List.length_nil]; omega, he⟩ (by simp only; omega) srA (by simp only [List.map_append]; exact subF)
       refine qs 18 ?_
       rw [scanF_skip hne hsk Hg, c43, List.drop_drop] at he
       refine GH ((out, p + n, f), (a1, k1, c1)) ⟨by simp only; omega, by simp only; omega, by simp only; omega, he⟩ (by simp only; omega) srA subF
      refine qs 20 ?_
      rw [scanF_skip hne hsk Hg, List.drop_drop] at he
      refine GH ((out, p + n, f), (a1, k1, c1)) ⟨by simp only; omega, by simp only; omega, by simp only; omega, he⟩ (by simp only; omega) srA subF
     refine qs 11 ?_
     refine Gd (AO.sliceSL (i' := p) He He He He Hg ?_)
     refine Gd (Gg He He (token_cc g (s.drop p) hne Hg (fun kd m ht => ?_) (fun e ht => ?_)))
     ·refine qs 13 ?_
      have hm := tokenB_le hne ht
      refine Gd (Hb He He He (fun c => absurd He c) (fun _ => ?_))
      refine qs 14 ?_
      refine Gd (AO.sliceSLH (i' := p) (j' := p + m) He He He He He Hg Hg Hg ?_)
      rw [show p + m - p = m by omega]
      refine qs 2 ?_
      refine Gd (Gz He He He He He (fun b75 => ?_))
      refine Gd (GQ (enc := eTok) (lst := out) [⟨kd, (s.drop p).take m, p⟩] He He He (i := 0) He (.val (.val (.val .nil))) He He (fun _ => rfl) (by unfold maxLen; omega) Hg (fun a2 k2 c2 => ?_))
      refine qs 10 ?_
      rw [scanF_tok hne hsk Hg ht, List.drop_drop] at he
      refine GH ((out ++ [⟨kd, (s.drop p).take m, p⟩], p + m, f), (a2, k2, c2)) ⟨by simp only; omega, by simp only; omega, by simp only [List.length_append, List.length_cons, List.length_nil]; omega, he⟩ (by simp only; omega) srA (by simp only [List.map_append]; exact subF)
     refine qs 13 ?_
     have hte := tokenB_err ht
     refine Gd (Hb He He He (fun _ => ?_) (fun c => absurd c Hg))
     refine qs 18 ?_
     refine AK.scpR ?_
     rw [he, scanF_err2 hne hsk Hg ht] at h
     exact Gy (L' := L) (F' := F) Tryd.results19 rfl rfl rfl (by repeat (first | exact Ga _ _ | exact Gb (fun x hx => by repeat (first | exact hx | refine List.mem_cons_of_mem _ ?_)) | refine Gc Ge ?_)) h
    refine qs 12 ?_
    rw [he, scanF_end (by rw [List.drop_eq_nil_iff]; omega)] at h
    refine Gd (Gg He He (ends_c out Hg (fun c81 => ?_) (fun c81 => ?_)))
    ·refine qs 7 ?_
     refine Gd (Gz He He He He He (fun b85 => ?_))
     refine Gd (GQ (enc := eTok) (lst := out) [⟨6, [10], p⟩] He He He (i := 0) He (.val (.val (.val .nil))) He He (fun _ => rfl) (by unfold maxLen; omega) Hg (fun a3 k3 c3 => ?_))
     refine qs 8 ?_
     refine Gd (Gz He He He He He (fun b90 => ?_))
     have hcl : closeB out p = (out ++ [⟨6, [10], p⟩]) ++ [⟨0, [], p⟩] := by unfold closeB; rw [if_pos c81]
     refine Gd (GQ (enc := eTok) (lst := out ++ [⟨6, [10], p⟩]) [⟨0, [], p⟩] He He He (i := 0) He (.val (.val (.val .nil))) He He (fun _ => rfl) (by simp only [maxLen, List.length_append, List.length_cons, List.length_nil]; omega) (by simp only [List.length_append, List.length_cons, List.length_nil]; omega) (fun a4 k4 c4 => ?_))
     rw [← hcl]
     refine qs 7 ?_
     refine Gd (AO.lenO He He (i := 0) He (fun hk93 => ?_))
     rw [List.length_map]
     refine Gd (AO.gtr He He He (fun c94 => ?_) (fun c94 => ?_))
     ·refine qs 12 ?_
      refine AK.scpR ?_
      rw [if_pos Hg] at h
      exact Gy (L' := L) (F' := F) Tryd.results19 rfl rfl rfl (by repeat (first | exact Ga _ _ | exact Gb (fun x hx => by repeat (first | exact hx | refine List.mem_cons_of_mem _ ?_)) | refine Gc Ge ?_)) h
     refine qs 14 ?_
     refine AK.scpR ?_
     rw [if_neg Hg] at h
     exact Gy (L' := L) (F' := .slc (.slice a4 k4 c4) 3 ((closeB out p).map eTok) :: F) Tryd.results19 rfl rfl rfl ((GF (i := 0) rfl).trans (Sub.drop.trans (Sub.headF (fun x hx => by repeat (first | exact hx | refine List.mem_cons_of_mem _ ?_))))) (h a4 k4 c4)
    refine qs 10 ?_
    refine Gd (Gz He He He He He (fun b90 => ?_))
    have hcl : closeB out p = out ++ [⟨0, [], p⟩] := by unfold closeB; rw [if_neg (by rw [c81]; decide)]
    refine Gd (GQ (enc := eTok) (lst := out) [⟨0, [], p⟩] He He He (i := 0) He (.val (.val (.val .nil))) He He (fun _ => rfl) (by unfold maxLen; omega) Hg (fun a4 k4 c4 => ?_))
    rw [← hcl]
    refine qs 7 ?_
    refine Gd (AO.lenO He He (i := 0) He (fun hk93 => ?_))
    rw [List.length_map]
    refine Gd (AO.gtr He He He (fun c94 => ?_) (fun c94 => ?_))
    ·refine qs 12 ?_
     refine AK.scpR ?_
     rw [if_pos Hg] at h
     exact Gy (L' := L) (F' := F) Tryd.results19 rfl rfl rfl (by repeat (first | exact Ga _ _ | exact Gb (fun x hx => by repeat (first | exact hx | refine List.mem_cons_of_mem _ ?_)) | refine Gc Ge ?_)) h
    refine qs 14 ?_
    refine AK.scpR ?_
    rw [if_neg Hg] at h
    exact Gy (L' := L) (F' := .slc (.slice a4 k4 c4) 3 ((closeB out p).map eTok) :: F) Tryd.results19 rfl rfl rfl ((GF (i := 0) rfl).trans (Sub.drop.trans (Sub.headF (fun x hx => by repeat (first | exact hx | refine List.mem_cons_of_mem _ ?_))))) (h a4 k4 c4)
end
end Go.Sy
namespace Go.Sy
open Go Go.RowKit
section
variable {P : Program} {W0 : World} {n : Nat} {Q Z : Po} {ρ : Rho} {L L' : List Res} {F F' : List Fact} {K : Act → World → Prop} {ro : Option Nat} {ds : List Deferred}
variable {d : Tmp} {ty : TypeId} {pos : String} {af : Array Edge} {g : Option (Nat × Bool)} {x : Operand}
theorem AO.eqlI {t u yt : TypeId} {ms : Array (String × TypeId)} {v : Value} (hu : P.underlying t = some (.interface ms)) (hx : ev ρ x = some (.iface u v)) (hd : Nat.blt d n = true) (h : AT W0 n K ((d, .bool false) :: ρ) L F) : AO P W0 n K ⟨some d, .binOp .eql t x (.const .nilIface) yt, ty, pos, af, g⟩ Q ρ L F :=
  AO.val hd (fun a w s => by
    have h1 : P.underlying t = some (.interface (P.methodsAt t)) := by simp [Program.methodsAt, hu]
    have hv := GM s.slots hx
    have hn : a.eval (.const .nilIface) = .nilIface := rfl
    have hg : (eqGuard .eql t x (.const .nilIface) (.iface u v) .nilIface).run P w = .ok () w := by simp [eqGuard]
    simp only [execOp, hv, hn, Sem.run_bind, hg, Result.andThen, run_eql_held_nil w t u v h1]
    simp) h
theorem AO.eqlIN {t yt : TypeId} {ms : Array (String × TypeId)} (hu : P.underlying t = some (.interface ms)) (hx : ev ρ x = some .nilIface) (hd : Nat.blt d n = true) (h : AT W0 n K ((d, .bool true) :: ρ) L F) : AO P W0 n K ⟨some d, .binOp .eql t x (.const .nilIface) yt, ty, pos, af, g⟩ Q ρ L F :=
  AO.val hd (fun a w s => by
    have h1 : P.underlying t = some (.interface (P.methodsAt t)) := by simp [Program.methodsAt, hu]
    have hv := GM s.slots hx
    have hn : a.eval (.const .nilIface) = .nilIface := rfl
    have hg : (eqGuard .eql t x (.const .nilIface) .nilIface .nilIface).run P w = .ok () w := by simp [eqGuard]
    simp only [execOp, hv, hn, Sem.run_bind, hg, Result.andThen, run_eql_nil_nil w t h1]
    simp) h
theorem AO.assertT {t xt : TypeId} {fs : Array Field} {v : Value} (hu : P.underlying t = some (.struct fs)) (hx : ev ρ x = some (.iface t v)) (hd : Nat.blt d n = true) (h : AT W0 n K ((d, .tuple #[v, .bool true]) :: ρ) L F) : AO P W0 n K ⟨some d, .typeAssert x xt t true, ty, pos, af, g⟩ Q ρ L F :=
  AO.val hd (fun a w s => by simp [execOp, GM s.slots hx, Instr.typeAssert, run_underlying hu]) h
end
end Go.Sy
namespace Go.Sy
open Go Go.Proofs Go.RowKit
abbrev nilS : Value := .slice none 0 0
def pwholeU (K : List Tk) (m : PM Unit) : Except (Nat × Int) (List Nd) := match m ⟨0, [], 0⟩ with
  | .ok (_, s) => if (s.tok K).1 = 0 then .ok s.nodes else .error (s.i, 5)
  | .error e => .error e
theorem whole_kon {K : List Tk} {m : PM Unit} {RO : List Nd → Prop} {RE : Nat → Int → Prop} (h : match pwholeU K m with | .ok l => RO l | .error (i, e) => RE i e) : Kon (m ⟨0, [], 0⟩) (fun _ s' => ((s'.tok K).1 = 0 → RO s'.nodes) ∧ ((s'.tok K).1 ≠ 0 → RE s'.i 5)) RE := by
  unfold pwholeU at h
  unfold Kon
  match m ⟨0, [], 0⟩, h with
  | .error (i, e), h => exact h
  | .ok (u, s), h =>
    simp only at h ⊢
    refine ⟨fun q => ?_, fun q => ?_⟩
    · rw [if_pos q] at h; exact h
    rw [if_neg q] at h; exact h
theorem tree_kon {rule : List Tk → PM Unit} {s : Bs} {T : List Tok} (hT : scanB s = .ok T) {RO : List Nod → Prop} {RE : Nat → Int → Prop} (h : match treeB (fun K => pwholeU K (rule K)) s with | .ok l => RO l | .error (i, e) => RE i e) :
    Kon (rule (T.map Tok.tk) ⟨0, [], 0⟩) (fun _ s' => ((s'.tok (T.map Tok.tk)).1 = 0 → RO (s'.nodes.map (toNod T))) ∧ ((s'.tok (T.map Tok.tk)).1 ≠ 0 → RE (posOf T s'.i) 5)) (fun i e => RE (posOf T i) e) := by
  refine whole_kon (RO := fun l => RO (l.map (toNod T))) (RE := fun i e => RE (posOf T i) e) ?_
  unfold treeB at h
  rw [hT] at h
  simp only at h
  cases hw : pwholeU (T.map Tok.tk) (rule (T.map Tok.tk)) with
  | ok l => rw [hw] at h; exact h
  | error p => obtain ⟨i, e⟩ := p; rw [hw] at h; exact h
attribute [local irreducible] AC AT AO AK AH ACalls ACallsX ACallsD Sub Res.cells Res.obj Res.nix Res.own Res.map Exit.then Exit.inBlock Exit.noGoto bodyPost bodyPostD Code.wp Code.wpIn WL Next Post PostX Kont
section
variable {W0 : World} {L : List Res} {F : List Fact} {R : Value → List Res → List Fact → Prop}
set_option maxRecDepth 100000
set_option maxHeartbeats 4000000
abbrev outs (bl ba be : Nat) (v : Value) (i e : Int) (L : List Res) : List Res := Res.cells be #[.int .i64 e] 23 :: Res.cells ba #[.int .i64 i] 3 :: Res.cells bl #[v] 22 :: L
theorem pdefer0_c {bl ba be : Nat} {S : List Res → List Fact → Prop} (h : S L F) : ACallsD Tryd.prog W0 20 #[pt bl, pt ba, pt be] .returning .returning L F S := by
  have key : ACallsD Tryd.prog W0 20 [pt bl, pt ba, pt be].toArray .returning (settle .returning) L F S := by
    refine ACallsD.recBody (rv := .nilIface) (um := .returning) He Tryd.func20 He Tryd.ntmps20 He He ?_
    refine qs 3 ?_
    refine Gd (AO.eqlIN Tryd.underlying20 He He ?_)
    refine qs 7 ?_
    exact AK.end0 Tryd.results20 (Ga _ _) h
  exact key
theorem pdefer_c {T : List Tok} {i : Nat} {e : Int} {bl ba be : Nat} {v : Value} {i0 e0 : Int} {S : List Res → List Fact → Prop} (h : S (outs bl ba be nilS (posOf T i : Int) e L) F) : ACallsD Tryd.prog W0 20 #[pt bl, pt ba, pt be] (.panicking (wrong T i e)) .returning (outs bl ba be v i0 e0 L) F S := by
  have key : ACallsD Tryd.prog W0 20 [pt bl, pt ba, pt be].toArray (.panicking (wrong T i e)) (settle (.panicking [{ v := .iface 54 (.agg #[.int .i64 (posOf T i : Int), .int .i64 e]), recovered := true }])) (outs bl ba be v i0 e0 L) F S := by
    refine ACallsD.recBody (rv := .iface 54 (.agg #[.int .i64 (posOf T i : Int), .int .i64 e])) (um := .panicking [{ v := .iface 54 (.agg #[.int .i64 (posOf T i : Int), .int .i64 e]), recovered := true }]) He Tryd.func20 He Tryd.ntmps20 He He ?_
    refine qs 3 ?_
    refine Gd (AO.eqlI Tryd.underlying20 He He ?_)
    refine qs 5 ?_
    refine Gd (AO.assertT Tryd.underlying54 He He ?_)
    refine Gd (AO.extract He He He ?_)
    refine qs 6 ?_
    refine Gd (GT He (fun b4 => ?_))
    refine qs 3 ?_
    refine GS (fun _ => false) [(b4, _, _)] bxA He (fun hx hX => ?_)
    refine qt [0, 1, 2, 3] ?_
    refine GB (i := 4) Hf He He (fun _ => ?_)
    refine AO.storeB He He He ?_
    refine Gw bxA memB ?_
    refine GB (i := 5) Hf He He (fun _ => ?_)
    refine AO.storeB He He He ?_
    refine Gw bxA memB ?_
    refine GB (i := 6) Hf He He (fun _ => ?_)
    refine AO.storeB He He He ?_
    refine Gw bxA memB ?_
    refine GG Hf ?_
    refine qs 1 ?_
    exact AK.end0 (L' := outs bl ba be nilS (posOf T i : Int) e L) (F' := F) Tryd.results20 (by repeat (first | exact Ga _ _ | exact Gb (fun x hx => by repeat (first | exact hx | refine List.mem_cons_of_mem _ ?_)) | refine Gc Ge ?_)) h
  exact key
theorem scan_cc (g : ScanG W0 F) (s : Bs) (hs : s.length ≤ 100000) (hO : ∀ T, scanB s = .ok T → ∀ a k c, R (.tuple #[.slice a k c, .int .i64 0, .int .i64 0]) L (fTk T (.slice a k c) :: F)) (hE : ∀ i e, scanB s = .error (i, e) → e ≠ 0 → R (.tuple #[nilS, .int .i64 (i : Int), .int .i64 e]) L F) : ACalls Tryd.prog W0 19 #[S s] L F R := by
  refine scan_c g s hs ?_
  have hok := scanB_ok s
  cases h : scanB s with
  | ok T => exact hO T h
  | error p =>
    obtain ⟨i, e⟩ := p
    rw [h] at hok
    exact hE i e h (by have := hok.2; omega)
theorem parsed_c (g : ScanG W0 F) (mN : fNo ∈ F) {fr : FuncId} [FnT Tryd.prog fr] (rule : List Tk → PM Unit) (hG : ∀ K, Wf K → Ahead K 40 ⟨0, [], 0⟩ 0 (rule K ⟨0, [], 0⟩)) (hr : ∀ (T : List Tok) (b : Nat) (tv : Value) (L : List Res), Wf (T.map Tok.tk) → PC W0 T b tv L fr #[pt b] ⟨0, [], 0⟩ (rule (T.map Tok.tk)) vUnit)
    (s : Bs) (hs : s.length ≤ 100000) (h : match treeB (fun K => pwholeU K (rule K)) s with
    | .ok l => ∀ a k c, R (.tuple #[.slice a k c, .int .i64 0, .int .i64 0]) L (.slc (.slice a k c) 4 (l.map eNod) :: F)
    | .error (i, e) => R (.tuple #[nilS, .int .i64 (i : Int), .int .i64 e]) L F) : ACalls Tryd.prog W0 10 #[S s, .func (.func fr) #[] #[]] L F R := by
  have hok := scanB_ok s
  refine ACalls.bodyD Tryd.func10 He Tryd.ntmps10 He ?_
  refine qs 2 ?_
  refine Gd (GT He (fun b4 => (Gd (GT He (fun b5 => (Gd (GT He (fun b6 => ?_))))))))
  refine qs 5 ?_
  refine Gd (Gg He He (scan_cc g s hs (fun T hT ta tk tc => ?_) (fun i e hT he0 => ?_)))
  ·refine qs 13 ?_
   refine Gd (Hb He He He (fun c => absurd He c) (fun _ => ?_))
   refine qs 7 ?_
   rw [hT] at hok
   have w := hok.wf
   replace h := tree_kon (RO := fun l => ∀ a k c, R (.tuple #[.slice a k c, .int .i64 0, .int .i64 0]) L (.slc (.slice a k c) 4 (l.map eNod) :: F)) (RE := fun i e => R (.tuple #[nilS, .int .i64 (i : Int), .int .i64 e]) L F) hT h
   refine Gd (GU He He ?_)
   refine AL.deferC He ?_
   refine qs 6 ?_
   refine Gd (AO.box He He (fun b22 => ?_))
   refine GE ((Sub.ownNil (e := 29) (sz := 4)).trans Sub.swap2) ?_
   refine Gd (AO.assign He He ?_)
   refine qs 6 ?_
   refine Gm (AO.callCX (cs := []) He He He (hr T b22 _ _ w memA memA (h.go (hG _ w) (fun _ s1 v1 _ _ h a1 k1 c1 => ?_) (fun i e hx => ?_))))
   rotate_left
   · exact Gn (Gh (AK.panicD (pdefer_c (AK.retV (rs := [.cell 4 _, .cell 5 _, .cell 6 _]) (L' := L) (F' := F) Tryd.results10 (.cell (j := 2) rfl rfl rfl (.cell (j := 1) rfl rfl rfl (.cell (j := 0) rfl rfl rfl .nil))) (by repeat (first | exact Ga _ _ | exact Gb (fun x hx => by repeat (first | exact hx | refine List.mem_cons_of_mem _ ?_)) | refine Gc Ge ?_)) hx))))
   refine qs 6 ?_
   refine Gd (Gg He He (GO memA v1 ?_))
   refine Gd (GN He He He (Gd (Hb He He He (fun c29 => ?_) (fun c29 => ?_))))
   ·refine qs 5 ?_
    refine Gm (Gi He He (pfail_c memA v1 5 ?_))
    exact Gn (Gh (AK.panicD (pdefer_c (AK.retV (rs := [.cell 4 _, .cell 5 _, .cell 6 _]) (L' := L) (F' := F) Tryd.results10 (.cell (j := 2) rfl rfl rfl (.cell (j := 1) rfl rfl rfl (.cell (j := 0) rfl rfl rfl .nil))) (by repeat (first | exact Ga _ _ | exact Gb (fun x hx => by repeat (first | exact hx | refine List.mem_cons_of_mem _ ?_)) | refine Gc Ge ?_)) (h.2 c29)))))
   refine qs 7 ?_
   refine GE (GF (i := 1) He) ?_
   refine Gd (AO.move He He ?_)
   refine Gd (Gs He He ?_)
   refine qs 8 ?_
   exact AK.retD (pdefer0_c (AK.retV (rs := [.cell 4 _, .cell 5 _, .cell 6 _]) (L' := L) (F' := .slc (.slice a1 k1 c1) 4 ((s1.nodes.map (toNod T)).map eNod) :: F) Tryd.results10 (.cell (j := 4) rfl rfl rfl (.cell (j := 3) rfl rfl rfl (.cell (j := 2) rfl rfl rfl .nil))) (by repeat (first | exact Sub.headF (fun x hx => by repeat (first | exact hx | refine List.mem_cons_of_mem _ ?_)) | refine Gc Ge ?_)) (h.1 c29 a1 k1 c1)))
  refine qs 13 ?_
  refine Gd (Hb He He He (fun _ => ?_) (fun c => absurd c he0))
  refine qs 4 ?_
  refine GS (fun _ => false) [(b5, _, _), (b6, _, _)] bxA He (fun hx hX => ?_)
  refine qt [0, 1] ?_
  refine GB (i := 2) Hf He He (fun _ => ?_)
  refine AO.storeB He He He ?_
  refine Gw bxA memB ?_
  refine GB (i := 3) Hf He He (fun _ => ?_)
  refine AO.storeB He He He ?_
  refine Gw bxA memB ?_
  refine GB (i := 4) Hf He He (fun _ => ?_)
  refine AO.storeB He He He ?_
  refine Gw bxA memB ?_
  refine GG Hf ?_
  refine qs 3 ?_
  unfold treeB at h
  rw [hT] at h
  exact AK.ret0D (AK.retV (rs := [.cell 4 _, .cell 5 _, .cell 6 _]) (L' := L) (F' := F) Tryd.results10 (.cell (j := 2) rfl rfl rfl (.cell (j := 1) rfl rfl rfl (.cell (j := 0) rfl rfl rfl .nil))) (by repeat (first | exact Ga _ _ | exact Gb (fun x hx => by repeat (first | exact hx | refine List.mem_cons_of_mem _ ?_)) | refine Gc Ge ?_)) h)
end
end Go.Sy
namespace Go.Sy
open Go Go.Proofs Go.RowKit
def exprRule (K : List Tk) : PM Unit := ((lev K 40).expr 1).bind fun _ s => if semiB (s.tok K) = true then .ok ((), s.next) else .ok ((), s)
theorem exprRule_eq (K : List Tk) : pwholeU K (exprRule K) = pexprAll K := by
  unfold pwholeU pexprAll pwhole exprRule PM.bind
  cases (lev K 40).expr 1 ⟨0, [], 0⟩ with
  | error e => rfl
  | ok p => obtain ⟨v, s⟩ := p; simp only; split <;> rename_i h <;> (split at h <;> simp_all)
theorem exprRule_go (K : List Tk) (w : Wf K) : Ahead K 40 ⟨0, [], 0⟩ 0 (exprRule K ⟨0, [], 0⟩) := by
  intro a s' e
  obtain ⟨v, s1, h1, h2⟩ := bind_ok e
  have := (((lev_g w 40).expr 1 _ (inv0 w)).go _ _ h1).1
  split at h2
  · rename_i hc
    injection h2 with h2; injection h2 with _ h2; subst h2
    exact ⟨this.next w (GP hc), Nat.zero_le _⟩
  injection h2 with h2; injection h2 with _ h2; subst h2
  exact ⟨this, Nat.zero_le _⟩
attribute [local irreducible] AC AT AO AK AH ACalls ACallsX ACallsD Sub Res.cells Res.obj Res.nix Res.own Res.map Exit.then Exit.inBlock Exit.noGoto bodyPost bodyPostD Code.wp Code.wpIn WL Next Post PostX Kont
attribute [local irreducible] pnamed psignature pfield pelem pliteral pbare punion pexpr poperand pprimary punary plist plines pnode pof pmust psemi pnone pnested pwhen pif PM.bind PM.ret lev
section
variable {W0 : World} {L : List Res} {F : List Fact} {R : Value → List Res → List Fact → Prop}
set_option maxRecDepth 100000
set_option maxHeartbeats 4000000
theorem exprR_c (T : List Tok) (b : Nat) (tv : Value) (L : List Res) (w : Wf (T.map Tok.tk)) : PC W0 T b tv L 11 #[pt b] ⟨0, [], 0⟩ (exprRule (T.map Tok.tk)) vUnit := by
  intro F R X a k c mT mN h
  have rc := lev_c (W0 := W0) (b := b) (tv := tv) w 40
  have hr := lev_g w 40
  have v := inv0 w
  have hw := w.len
  rw [List.length_map] at hw
  unfold exprRule at h
  replace h := Kon.bind h
  refine ACallsX.body Tryd.func11 He Tryd.ntmps11 He ?_
  refine qs 3 ?_
  refine Gm (Gi He He (rc.expr 1 (by decide) v memA memA (h.go (hr.expr _ _ v).go (fun x3 s11 v11 l11 e11 h a11 k11 c11 => ?_) (fun i e hx => Gn (Gh (Gj (by repeat (first | exact Ga _ _ | exact Gb (fun x hx => by repeat (first | exact hx | refine List.mem_cons_of_mem _ ?_)) | refine Gc Ge ?_)) (hx)))))))
  repeat (first | replace h := Kon.bind h | replace h := Kon.retE h | replace h := Kon.okE h)
  refine qs 5 ?_
  refine Gd (Gg He He (GO memA v11 ?_))
  refine Gd (Gg He He (psemiB_c (fun c6 => ?_) (fun c6 => ?_)))
  ·first | replace h := Kon.iteT c6 h | skip
   repeat (first | replace h := Kon.bind h | replace h := Kon.retE h | replace h := Kon.okE h)
   refine qs 3 ?_
   have hlt := (v11).lt
   refine qs 2 ?_
   refine Gd (Gs He He ?_)
   refine qs 3 ?_
   refine Gd (Gs He He ?_)
   refine qs 3 ?_
   exact Gr (AK.end0 (L' := PL T b tv s11.next a11 k11 c11 L) (F' := F) Tryd.results11 (by repeat (first | exact Ga _ _ | exact Gb (fun x hx => by repeat (first | exact hx | refine List.mem_cons_of_mem _ ?_)) | refine Gc Gl ?_)) (h _ _ _))
  first | replace h := Kon.iteF (nott c6) h | skip
  repeat (first | replace h := Kon.bind h | replace h := Kon.retE h | replace h := Kon.okE h)
  refine qs 4 ?_
  exact Gr (AK.end0 (L' := PL T b tv s11 a11 k11 c11 L) (F' := F) Tryd.results11 (by repeat (first | exact Ga _ _ | exact Gb (fun x hx => by repeat (first | exact hx | refine List.mem_cons_of_mem _ ?_)) | refine Gc Gl ?_)) (h _ _ _))
abbrev fNod (l : List Nod) (a : Option Addr) (k c : Nat) : Fact := .slc (.slice a k c) 4 (l.map eNod)
theorem parsed_cc (g : ScanG W0 F) (mN : fNo ∈ F) {fr : FuncId} [FnT Tryd.prog fr] (rule : List Tk → PM Unit) (hG : ∀ K, Wf K → Ahead K 40 ⟨0, [], 0⟩ 0 (rule K ⟨0, [], 0⟩)) (hr : ∀ (T : List Tok) (b : Nat) (tv : Value) (L : List Res), Wf (T.map Tok.tk) → PC W0 T b tv L fr #[pt b] ⟨0, [], 0⟩ (rule (T.map Tok.tk)) vUnit)
    (s : Bs) (hs : s.length ≤ 100000) {res : Except (Nat × Int) (List Nod)} (hB : treeB (fun K => pwholeU K (rule K)) s = res) (hO : ∀ l, res = .ok l → ∀ a k c, R (.tuple #[.slice a k c, .int .i64 0, .int .i64 0]) L (fNod l a k c :: F)) (hE : ∀ i e, res = .error (i, e) → R (.tuple #[nilS, .int .i64 (i : Int), .int .i64 e]) L F) :
    ACalls Tryd.prog W0 10 #[S s, .func (.func fr) #[] #[]] L F R := by
  refine parsed_c g mN rule hG hr s hs ?_
  rw [hB]
  cases h : res with
  | ok l => exact hO l h
  | error p => obtain ⟨i, e⟩ := p; exact hE i e h
theorem expr_c (g : ScanG W0 F) (mN : fNo ∈ F) (s : Bs) (hs : s.length ≤ 100000) (hO : ∀ l, exprB s = .ok l → ∀ a k c, R (.tuple #[.slice a k c, .int .i64 0, .int .i64 0]) L (fNod l a k c :: F)) (hE : ∀ i e, exprB s = .error (i, e) → R (.tuple #[nilS, .int .i64 (i : Int), .int .i64 e]) L F) :
    ACalls Tryd.prog W0 5 #[S s] L F R := by
  have hB : treeB (fun K => pwholeU K (exprRule K)) s = exprB s := by
    have : (fun K => pwholeU K (exprRule K)) = pexprAll := funext exprRule_eq
    rw [this]; rfl
  refine Gu Tryd.func5 He Tryd.ntmps5 He ?_
  refine qs 10 ?_
  refine Gd (Gg He He (parsed_cc g mN exprRule exprRule_go exprR_c s hs hB (fun l hl a6 k6 c6 => ?_) (fun i e hl => ?_)))
  ·refine qs 9 ?_
   exact Gy Tryd.results5 rfl rfl rfl (Ga _ _) (hO l hl _ _ _)
  refine qs 9 ?_
  exact Gy Tryd.results5 rfl rfl rfl (Ga _ _) (hE i e hl)
end
end Go.Sy
namespace Go.Sy
open Go Go.RowKit
class ArS (P : Program) (t : TypeId) (m sz : outParam Nat) : Prop where
  und : ∃ e, P.underlying t = some (.array m e) ∧ ∀ w, (sizeOf e).run P w = .ok sz w
theorem ArS.of {P : Program} {t e : TypeId} {m sz : Nat} (h : P.underlying t = some (.array m e)) (hs : (P.info? e).map (·.size) = some sz) : ArS P t m sz :=
  ⟨e, h, fun w => by
    cases hi : P.info? e with
    | none => simp [hi] at hs
    | some i => simp [hi] at hs; simp [sizeOf, typeInfo, hi, hs]⟩
section
variable {P : Program} {W0 : World} {n : Nat} {Q : Po} {ρ : Rho} {L : List Res} {F : List Fact} {K : Act → World → Prop}
variable {d : Tmp} {t ty : TypeId} {pos : String} {af : Array Edge} {g : Option (Nat × Bool)} {x y : Operand}
end
end Go.Sy
namespace Go.Sy
open Go Go.Proofs Go.RowKit
attribute [local irreducible] AC AT AO AK AH ACalls ACallsX ACallsD Sub Res.cells Res.obj Res.nix Res.own Res.map Exit.then Exit.inBlock Exit.noGoto bodyPost bodyPostD Code.wp Code.wpIn WL Next Post PostX Kont
section
variable {W0 : World} {L : List Res} {F : List Fact} {R : Value → List Res → List Fact → Prop}
set_option maxRecDepth 100000
set_option maxHeartbeats 4000000
end
end Go.Sy
namespace Go.Sy
open Go Go.Proofs Go.RowKit
abbrev fKs (x : Nod) (a : Option Addr) (k c : Nat) : Fact := .slc (.slice a k c) 1 (x.kids.map eInt)
attribute [local irreducible] AC AT AO AK AH ACalls ACallsX ACallsD Sub Res.cells Res.obj Res.nix Res.own Res.map Exit.then Exit.inBlock Exit.noGoto bodyPost bodyPostD Code.wp Code.wpIn WL Next Post PostX Kont
section
variable {W0 : World} {L : List Res} {F : List Fact} {R : Value → List Res → List Fact → Prop}
set_option maxRecDepth 100000
set_option maxHeartbeats 4000000
end
end Go.Sy
namespace Go.Sy
open Go Go.Proofs Go.RowKit
structure TreeR (B : Except (Nat × Int) (List Nod)) (m : Nat) (l : List Nod) (i : Nat) (e : Int) : Prop where
  ok : e = 0 → B = .ok l ∧ RightN l ∧ ∀ n ∈ l, n.pos ≤ m
  bad : e ≠ 0 → l = [] ∧ i ≤ m ∧ ∃ x, B = .error x
theorem TreeR.many {B : Except (Nat × Int) (List Nod)} {m : Nat} {l : List Nod} {i : Nat} {e : Int} (h : TreeR B m l i e) : l.length ≤ 2000 := by
  by_cases he : e = 0
  · exact (h.ok he).2.1.many
  rw [(h.bad he).1]; exact Nat.zero_le _
theorem TreeR.at {B : Except (Nat × Int) (List Nod)} {m : Nat} {l : List Nod} {i : Nat} {e : Int} (h : TreeR B m l i e) : ∀ n ∈ l, n.pos ≤ m := by
  by_cases he : e = 0
  · exact (h.ok he).2.2
  rw [(h.bad he).1]; intro n hn; cases hn
theorem treeR_ok {rule : List Tk → Except (Nat × Int) (List Nd)} (hr : ∀ K, Wf K → match rule K with
    | .ok l => ∃ v, TreeP l v
    | .error (i, e) => i < K.length ∧ (e = 5 ∨ e = 6 ∨ e = 7)) {s : Bs} (hs : s.length ≤ 4000) {l : List Nod} (h : treeB rule s = .ok l) : TreeR (treeB rule s) s.length l 0 0 := by
  have := treeB_ok hr s hs
  rw [h] at this ⊢
  exact ⟨fun _ => ⟨rfl, this⟩, fun h => absurd rfl h⟩
theorem exprR_ok {s : Bs} (hs : s.length ≤ 4000) {l : List Nod} (h : exprB s = .ok l) : TreeR (exprB s) s.length l 0 0 := treeR_ok (rule := pexprAll) (fun _ w => exprAll_tree w) hs h
def aliveL : List Nod := [⟨1, [97], [], 0⟩, ⟨1, [98], [], 2⟩, ⟨2, [50], [], 4⟩, ⟨10, [42], [1, 2], 2⟩, ⟨10, [43], [0, 3], 0⟩]
theorem alive_eq : exprB [97, 43, 98, 42, 50] = .ok aliveL := by kernel_rfl
theorem ScanG.more {W0 : World} {F F' : List Fact} (g : ScanG W0 F) (h : ∀ x ∈ F, x ∈ F') : ScanG W0 F' := ⟨g.big, h _ g.ops, h _ g.keys⟩
attribute [local irreducible] AC AT AO AK AH ACalls ACallsX ACallsD Sub Res.cells Res.obj Res.nix Res.own Res.map Exit.then Exit.inBlock Exit.noGoto bodyPost bodyPostD Code.wp Code.wpIn WL Next Post PostX Kont
attribute [local irreducible] exprB
section
variable {W0 : World} {L : List Res} {F : List Fact} {R : Value → List Res → List Fact → Prop}
set_option maxRecDepth 100000
set_option maxHeartbeats 4000000
theorem alive_c (g : ScanG W0 F) (mN : fNo ∈ F) (h : R (.bool true) L F) : ACalls Tryd.prog W0 7 #[] L F R := by
  refine Gu Tryd.func7 He Tryd.ntmps7 He ?_
  refine qs 7 ?_
  refine Gd (Gg He He (expr_c g mN [97, 43, 98, 42, 50] (by decide) (fun l hl a5 k5 c5 => ?_) (fun i e hl => by rw [alive_eq] at hl; cases hl)))
  obtain rfl : aliveL = l := by rw [alive_eq] at hl; injection hl
  refine qs 12 ?_
  refine Gd (Gq He He He (fun c10 => ?_) (fun c10 => ?_))
  ·refine qs 2 ?_
   refine Gk He He (AO.len He He (fun hl13 => ?_) (hm := by repeat (first | exact mem0 | assumption | refine memS ?_)))
   refine Gk He He (Gq He He He (fun c14 => ?_) (fun c14 => ?_))
   ·refine qs 3 ?_
    refine Gk He He (AO.indexAddr (k := 4) He He He He (enc := eNod) (lst := aliveL) memA (by decide) (fun _ _ => ?_))
    refine Gk He He (AO.fieldAt He He (fun _ => ?_))
    refine Gk He He (AO.loadF He He ?_)
    intros
    refine Gk He He (AO.eqlS He He He (fun c21 => ?_) (fun c21 => ?_))
    ·refine qs 3 ?_
     refine Gk He He (AO.indexAddr (k := 3) He He He He (enc := eNod) (lst := aliveL) memA (by decide) (fun _ _ => ?_))
     refine Gk He He (AO.fieldAt He He (fun _ => ?_))
     refine Gk He He (AO.loadF He He ?_)
     intros
     refine Gk He He (AO.eqlS He He He (fun c28 => ?_) (fun c28 => ?_))
     ·refine qs 5 ?_
      first | exact Gf (L' := L) (F' := F) Tryd.results7 rfl subF h | exact absurd rfl c10 | exact absurd c14 (by decide) | exact absurd c21 (by decide) | exact absurd c28 (by decide)
     refine qs 5 ?_
     first | exact Gf (L' := L) (F' := F) Tryd.results7 rfl subF h | exact absurd rfl c10 | exact absurd c14 (by decide) | exact absurd c21 (by decide) | exact absurd c28 (by decide)
    refine qs 12 ?_
    first | exact Gf (L' := L) (F' := F) Tryd.results7 rfl subF h | exact absurd rfl c10 | exact absurd c14 (by decide) | exact absurd c21 (by decide) | exact absurd c28 (by decide)
   refine qs 19 ?_
   first | exact Gf (L' := L) (F' := F) Tryd.results7 rfl subF h | exact absurd rfl c10 | exact absurd c14 (by decide) | exact absurd c21 (by decide) | exact absurd c28 (by decide)
  refine qs 23 ?_
  first | exact Gf (L' := L) (F' := F) Tryd.results7 rfl subF h | exact absurd rfl c10 | exact absurd c14 (by decide) | exact absurd c21 (by decide) | exact absurd c28 (by decide)
end
end Go.Sy
namespace Go.Sy
open Go
def J (s : PS) : Prop := ∀ nd ∈ s.nodes, nd.tn ≤ s.i
def Mp {α : Type} (s : PS) (r : PR α) : Prop := ∀ a s', r = .ok (a, s') → s.i ≤ s'.i ∧ (J s → J s')
def M0 {α : Type} (b : Nat) (m : PM α) : Prop := ∀ s : PS, b ≤ s.i → Mp s (m s)
section
variable {α β : Type} {K : List Tk} {b : Nat} {s : PS}
theorem J.up {i : Nat} (h : J s) (hi : s.i ≤ i) : ∀ nd ∈ s.nodes, nd.tn ≤ i := fun nd hn => Nat.le_trans (h nd hn) hi
theorem Mp.next {r : PR α} (h : Mp s.next r) : Mp s r := fun a s' e => by
  obtain ⟨h1, h2⟩ := h a s' e
  exact ⟨Nat.le_trans (Nat.le_succ _) h1, fun hj => h2 (fun nd hn => Nat.le_trans (hj nd hn) (Nat.le_succ _))⟩
theorem Mp.ok {a : α} : Mp s (.ok (a, s)) := fun a s' e => by injection e with e; injection e with _ e; subst e; exact ⟨Nat.le_refl _, id⟩
theorem Mp.err {e : Nat × Int} : Mp (α := α) s (.error e) := fun a s' e => by cases e
theorem Mp.bind {m : PM α} {f : α → PM β} (h : Mp s (m s)) (hf : ∀ a, M0 s.i (f a)) : Mp s (m.bind f s) := fun c s' e => by
  unfold PM.bind at e
  cases hm : m s with
  | error x => rw [hm] at e; cases e
  | ok p =>
    obtain ⟨a, s1⟩ := p
    rw [hm] at e
    obtain ⟨h1, h2⟩ := h a s1 hm
    obtain ⟨h3, h4⟩ := hf a s1 h1 c s' e
    exact ⟨Nat.le_trans h1 h3, fun hj => h4 (h2 hj)⟩
theorem M0.mono {b' : Nat} {m : PM α} (h : M0 b m) (hb : b ≤ b') : M0 b' m := fun s hs => h s (Nat.le_trans hb hs)
theorem M0.bind {m : PM α} {f : α → PM β} (h : M0 b m) (hf : ∀ a, M0 b (f a)) : M0 b (m.bind f) := fun s hs => Mp.bind (h s hs) (fun a => (hf a).mono hs)
theorem M0.ret {a : α} : M0 b (PM.ret a) := fun _ _ => Mp.ok
theorem M0.fail {e : Int} : M0 b (pfail (α := α) e) := fun _ _ => Mp.err
theorem M0.when {x : Bs} {m1 m2 : PM α} (h1 : M0 b m1) (h2 : M0 b m2) : M0 b (pwhen K x m1 m2) := fun s hs => by
  unfold pwhen
  split
  · exact (h1 s.next (Nat.le_succ_of_le hs)).next
  exact h2 s hs
theorem M0.pif {x : List Bs} {m1 m2 : PM α} (h1 : M0 b m1) (h2 : M0 b m2) : M0 b (pif K x m1 m2) := fun s hs => by
  unfold Go.Sy.pif
  split
  · exact h1 s hs
  exact h2 s hs
theorem M0.must {x : Bs} : M0 b (pmust K x) := M0.when M0.ret M0.fail
theorem M0.semi : M0 b (psemi K) := fun s _ => by
  unfold psemi; split
  · exact Mp.next Mp.ok
  exact Mp.err
theorem M0.of {k : Int} : M0 b (pof K k) := fun s _ => by
  unfold pof; split
  · exact Mp.next Mp.ok
  exact Mp.err
theorem M0.node {kind : Int} {text : Bs} {tn : Nat} {kids : List Int} (h : tn ≤ b) : M0 b (pnode kind text tn kids) := fun s hs => by
  unfold pnode; split
  · exact Mp.err
  intro a s' e
  injection e with e; injection e with _ e; subst e
  refine ⟨Nat.le_refl _, fun hj nd hn => ?_⟩
  rcases List.mem_append.1 hn with q | q
  · exact hj nd q
  simp at q; subst q; exact Nat.le_trans h hs
theorem M0.none : M0 b pnone := fun s _ => M0.node (Nat.le_refl s.i) s (Nat.le_refl _)
theorem M0.nested {m : PM Int} (h : M0 b m) : M0 b (pnested m) := fun s hs => by
  unfold pnested
  split
  · exact Mp.err
  intro a s' e
  unfold PM.bind at e
  cases hm : m s.down with
  | error x => rw [hm] at e; cases e
  | ok p =>
    obtain ⟨v, s1⟩ := p
    rw [hm] at e
    injection e with e; injection e with _ e; subst e
    exact h s.down hs v s1 hm
theorem M0.here {m : Nat → PS → PM α} (h : ∀ (s : PS), b ≤ s.i → M0 s.i (m s.i s)) : M0 b (fun s => m s.i s s) := fun s hs => h s hs s (Nat.le_refl _)
structure RecM (r : Rec) : Prop where
  typ : M0 0 r.typ
  union : M0 0 r.union
  expr : ∀ n, M0 0 (r.expr n)
  unary : M0 0 r.unary
variable {r : Rec}
theorem RecM.t (h : RecM r) : M0 b r.typ := h.typ.mono (Nat.zero_le _)
theorem RecM.u (h : RecM r) : M0 b r.union := h.union.mono (Nat.zero_le _)
theorem RecM.e (h : RecM r) {n : Nat} : M0 b (r.expr n) := (h.expr n).mono (Nat.zero_le _)
theorem RecM.y (h : RecM r) : M0 b r.unary := h.unary.mono (Nat.zero_le _)
theorem listF_m {one : PM Int} {fin : Bs} (ho : M0 0 one) : ∀ (f : Nat) (out : List Int), M0 b (plistF K fin one f out)
  | 0, _ => M0.fail
  | f + 1, _ => M0.bind (ho.mono (Nat.zero_le _)) (fun _ => M0.when M0.ret (M0.bind M0.must fun _ => M0.when M0.ret (listF_m ho f _)))
theorem list_m {one : PM Int} {fin : Bs} (ho : M0 0 one) : M0 b (plist K fin one) := listF_m ho _ _
theorem linesF_m {one : PM Int} (ho : M0 0 one) : ∀ (f : Nat) (out : List Int), M0 b (plinesF K one f out)
  | 0, _ => M0.fail
  | f + 1, _ => M0.when M0.ret (M0.bind (ho.mono (Nat.zero_le _)) (fun _ => M0.pif (linesF_m ho f _) (M0.bind M0.semi fun _ => linesF_m ho f _)))
theorem lines_m {one : PM Int} (ho : M0 0 one) : M0 b (plines K one) := M0.bind M0.must fun _ => linesF_m ho _ _
theorem named_m (h : RecM r) : M0 b (pnamed K r) := M0.here (m := fun i _ => (pof K 1).bind fun nm => (pnode 1 nm i []).bind fun x =>
    (pwhen K [46] ((pof K 1).bind fun t => pnode 6 t i [x]) (PM.ret x)).bind fun x =>
      pwhen K [91] ((plist K [93] r.typ).bind fun l => pnode 8 [] i (x :: l)) (PM.ret x)) fun _ _ =>
  M0.bind M0.of fun _ => M0.bind (M0.node (Nat.le_refl _)) fun _ => M0.bind (M0.when (M0.bind M0.of fun _ => M0.node (Nat.le_refl _)) M0.ret) fun _ => M0.when (M0.bind (list_m h.typ) fun _ => M0.node (Nat.le_refl _)) M0.ret
theorem param_m (h : RecM r) : M0 0 (fun s => ((pof K 1).bind fun nm => (r.typ).bind fun t => pnode 19 nm s.i [t]) s) :=
  M0.here (m := fun i _ => (pof K 1).bind fun nm => (r.typ).bind fun t => pnode 19 nm i [t]) fun _ _ => M0.bind M0.of fun _ => M0.bind h.t fun _ => M0.node (Nat.le_refl _)
theorem signature_m (h : RecM r) {a : Nat} (ha : a ≤ b) : M0 b (psignature K r a) :=
  M0.bind M0.must fun _ => M0.bind (M0.when M0.ret (list_m (param_m h))) fun _ => fun s hs => by
    split
    · exact (M0.bind h.t fun _ => M0.node (Nat.le_trans ha hs)) s (Nat.le_refl _)
    exact (M0.bind M0.none fun _ => M0.node (Nat.le_trans ha hs)) s (Nat.le_refl _)
theorem field_m (h : RecM r) : M0 b (pfield K r) := fun s hs => by
  unfold pfield
  split
  · exact (M0.bind h.t fun _ => M0.node (Nat.le_refl _)) s (Nat.le_refl _)
  split
  · exact (M0.bind (named_m h) fun _ => M0.node (Nat.le_refl _)) s (Nat.le_refl _)
  exact (M0.bind M0.of fun _ => M0.bind h.t fun _ => M0.node (Nat.le_refl _)) s (Nat.le_refl _)
theorem elem_m (h : RecM r) : M0 b (pelem K r) := fun s hs => by
  unfold pelem
  split
  · refine Mp.bind (M0.of s (Nat.le_refl _)) fun _ => fun s1 h1 => ?_
    exact (M0.bind (b := s1.i) (signature_m h (Nat.le_refl _)) fun _ => M0.node h1) s1 (Nat.le_refl _)
  exact h.u s hs
theorem literal_m (h : RecM r) : M0 b (pliteral K r) := fun s hs => by
  unfold pliteral
  exact (M0.when (b := s.i) (M0.when (M0.bind h.t fun _ => M0.node (Nat.le_refl _)) (M0.bind h.e fun _ => M0.bind M0.must fun _ => M0.bind h.t fun _ => M0.node (Nat.le_refl _)))
    (M0.when (M0.bind M0.must fun _ => M0.bind h.t fun _ => M0.bind M0.must fun _ => M0.bind h.t fun _ => M0.node (Nat.le_refl _))
    (M0.when (signature_m h (Nat.le_refl _))
    (M0.when (M0.bind (lines_m (field_m h)) fun _ => M0.node (Nat.le_refl _))
    (M0.when (M0.bind (lines_m (elem_m h)) fun _ => M0.node (Nat.le_refl _)) M0.fail))))) s (Nat.le_refl _)
theorem bare_m (h : RecM r) : M0 b (pbare K r) := fun s hs => by
  unfold pbare
  split
  · exact named_m h s hs
  exact (M0.when (b := s.i) (M0.bind h.t fun _ => M0.node (Nat.le_refl _)) (M0.when (M0.bind h.t fun _ => M0.bind M0.must fun _ => M0.node (Nat.le_refl _)) (literal_m h))) s (Nat.le_refl _)
theorem unionF_m (h : RecM r) {a : Nat} (ha : a ≤ b) : ∀ (f : Nat) (out : List Int), M0 b (punionF K r a f out)
  | 0, _ => M0.fail
  | f + 1, out => fun s hs => by
    unfold punionF
    exact (M0.bind (b := s.i) (M0.when M0.ret M0.ret) fun _ => M0.bind h.t fun _ => M0.bind (M0.node (Nat.le_refl _)) fun _ => M0.when ((unionF_m h ha f _).mono hs) (M0.node (Nat.le_trans ha hs))) s (Nat.le_refl _)
theorem union_m (h : RecM r) : M0 b (punion K r) := fun s _ => unionF_m h (Nat.le_refl s.i) _ _ s (Nat.le_refl _)
theorem exprF_m (h : RecM r) {n a : Nat} (ha : a ≤ b) : ∀ (f : Nat) (x : Int), M0 b (pexprF K r n a f x)
  | 0, _ => M0.fail
  | f + 1, x => fun s hs => by
    unfold pexprF
    split
    · exact Mp.ok
    exact ((M0.bind (b := b) h.e fun _ => M0.bind (M0.node ha) fun _ => exprF_m h ha f _) s.next (Nat.le_succ_of_le hs)).next
theorem expr_m (h : RecM r) (n : Nat) : M0 b (pexpr K r n) := fun s _ => by
  unfold pexpr
  exact (M0.bind (b := s.i) h.y fun _ => exprF_m h (Nat.le_refl _) _ _) s (Nat.le_refl _)
theorem operand_m (h : RecM r) : M0 b (poperand K r) := fun s hs => by
  unfold poperand
  split
  · exact (M0.node (Nat.le_succ s.i) s.next (Nat.le_refl _)).next
  exact (M0.when (b := s.i) (M0.bind h.e fun _ => M0.bind M0.must fun _ => M0.node (Nat.le_refl _)) (literal_m h)) s (Nat.le_refl _)
theorem primF_m (h : RecM r) {a : Nat} (ha : a ≤ b) : ∀ (f : Nat) (x : Int), M0 b (pprimF K r a f x)
  | 0, _ => M0.fail
  | f + 1, _ => M0.when (M0.bind M0.of fun _ => M0.bind (M0.node ha) fun _ => primF_m h ha f _)
      (M0.when (M0.bind (M0.when M0.ret (M0.bind (list_m (h.expr 1)) fun _ => M0.ret)) fun _ => M0.bind (M0.node ha) fun _ => primF_m h ha f _)
      (M0.when (M0.bind (list_m (h.expr 1)) fun _ => M0.bind (M0.node ha) fun _ => primF_m h ha f _) M0.ret))
theorem primary_m (h : RecM r) : M0 b (pprimary K r) := fun s _ => by
  unfold pprimary
  exact (M0.bind (b := s.i) (operand_m h) fun _ => primF_m h (Nat.le_refl _) _ _) s (Nat.le_refl _)
theorem unary_m (h : RecM r) : M0 b (punary K r) := fun s hs => by
  unfold punary
  split
  · exact ((M0.bind (b := s.i) h.y fun _ => M0.node (Nat.le_refl _)) s.next (Nat.le_succ _)).next
  exact primary_m h s hs
theorem lev_m : ∀ d, RecM (lev K d)
  | 0 => ⟨M0.fail, M0.fail, fun _ => M0.fail, M0.fail⟩
  | d + 1 => ⟨M0.nested (bare_m (lev_m d)), M0.nested (union_m (lev_m d)), fun n => M0.nested (expr_m (lev_m d) n), M0.nested (unary_m (lev_m d))⟩
theorem exprAll_tn {l : List Nd} (w : Wf K) (h : pexprAll K = .ok l) : ∀ nd ∈ l, nd.tn < K.length := by
  unfold pexprAll pwhole at h
  have hm : M0 0 (((lev K 40).expr 1).bind fun v s => if semiB (s.tok K) then .ok (v, s.next) else .ok (v, s)) := M0.bind (lev_m 40).e fun v => fun s _ => by
    split
    · exact Mp.next Mp.ok
    exact Mp.ok
  cases he : (((lev K 40).expr 1).bind fun v s => if semiB (s.tok K) then .ok (v, s.next) else .ok (v, s)) ⟨0, [], 0⟩ with
  | error e => rw [he] at h; cases h
  | ok p =>
    obtain ⟨v, s⟩ := p
    rw [he] at h
    simp only at h
    split at h
    · injection h with h
      subst h
      have hj := (hm ⟨0, [], 0⟩ (Nat.zero_le _) v s he).2 (fun nd hn => by cases hn)
      obtain ⟨a, s1, h1, h2⟩ := bind_ok he
      have hi : Inv K 40 s1 := by
        have hg := (lev_g w 40).expr 1 _ (inv0 w)
        unfold G at hg
        rw [h1] at hg
        exact hg.1
      have hi2 : Inv K 40 s := by
        split at h2
        · rename_i hc
          injection h2 with h2; injection h2 with _ h2; subst h2
          exact hi.next w (GP hc)
        injection h2 with h2; injection h2 with _ h2; subst h2
        exact hi
      intro nd hn
      exact Nat.lt_of_le_of_lt (hj nd hn) hi2.i
    cases h
end
end Go.Sy
namespace Go.Sy
open Go
def shiftT (d : Nat) (T : List Tok) : List Tok := T.map fun t => ⟨t.kind, t.text, t.pos + d⟩
def ShR {α : Type} (f : α → α) (d : Nat) : Except (Nat × Int) α → Except (Nat × Int) α → Prop
  | .ok T, .ok T' => T' = f T
  | .error (i, e), .error (i', e') => e' = e ∧ (e ≠ 7 → i' = i + d)
  | _, _ => False
theorem checkF_shift (d : Nat) : ∀ (f1 f2 : Nat) (s : Bs) (p : Nat), s.length ≤ f1 → s.length ≤ f2 → checkF f1 s (p + d) = (checkF f2 s p).map (· + d)
  | 0, f2, s, p, h1, _ => by
    have : s = [] := List.eq_nil_of_length_eq_zero Hg
    subst this
    cases f2 <;> rfl
  | f1 + 1, 0, s, p, _, h2 => by
    have : s = [] := List.eq_nil_of_length_eq_zero Hg
    subst this; rfl
  | f1 + 1, f2 + 1, s, p, h1, h2 => by
    unfold checkF
    split
    · rfl
    rename_i hs
    split
    · rfl
    split
    · rfl
    have := decS_pos s
    have e : p + d + (decS s).2 = p + (decS s).2 + d := by omega
    rw [e]
    exact checkF_shift d f1 f2 _ _ (by rw [List.length_drop]; omega) (by rw [List.length_drop]; omega)
theorem endsB_shift (d : Nat) (out : List Tok) : endsB (shiftT d out) = endsB out := by
  unfold endsB shiftT
  rw [List.getLast?_map]
  cases out.getLast? <;> rfl
theorem shiftT_snoc (d : Nat) (out : List Tok) (k : Int) (x : Bs) (p : Nat) : shiftT d out ++ [⟨k, x, p + d⟩] = shiftT d (out ++ [⟨k, x, p⟩]) := by
  unfold shiftT; rw [List.map_append]; rfl
theorem closeB_shift (d : Nat) (out : List Tok) (p : Nat) : closeB (shiftT d out) (p + d) = shiftT d (closeB out p) := by
  unfold closeB
  rw [endsB_shift]
  split
  · rw [shiftT_snoc, shiftT_snoc]
  rw [shiftT_snoc]
theorem scanF_shift (d : Nat) : ∀ (f1 f2 : Nat) (s : Bs) (p : Nat) (out : List Tok), s.length < f1 → s.length < f2 → ShR (shiftT d) d (scanF f2 s p out) (scanF f1 s (p + d) (shiftT d out))
  | 0, _, _, _, _, h1, _ => absurd h1 (Nat.not_lt_zero _)
  | _, 0, _, _, _, _, h2 => absurd h2 (Nat.not_lt_zero _)
  | f1 + 1, f2 + 1, s, p, out, h1, h2 => by
    unfold scanF
    rw [closeB_shift, endsB_shift]
    have hl : (shiftT d (closeB out p)).length = (closeB out p).length := by simp [shiftT]
    rw [hl]
    by_cases hs : s = []
    · rw [if_pos hs, if_pos hs]
      split
      · exact ⟨rfl, fun h => absurd rfl h⟩
      rfl
    rw [if_neg hs, if_neg hs]
    have h0 : 0 < s.length := List.length_pos_iff.2 hs
    cases hk : skippedB s with
    | none => exact ⟨rfl, fun _ => rfl⟩
    | some nb =>
      obtain ⟨n, nl⟩ := nb
      simp only
      by_cases hn : 0 < n
      · rw [if_pos hn, if_pos hn]
        have e : p + d + n = p + n + d := by omega
        have := scanF_shift d f1 f2 (s.drop n) (p + n) (if (nl && endsB out) = true then out ++ [⟨6, [10], p⟩] else out) (by rw [List.length_drop]; omega) (by rw [List.length_drop]; omega)
        rw [e]
        split
        · rename_i hc
          rw [if_pos hc] at this
          rw [shiftT_snoc]; exact this
        rename_i hc
        rw [if_neg hc] at this
        exact this
      rw [if_neg hn, if_neg hn]
      cases ht : tokenB s with
      | error e => exact ⟨rfl, fun _ => rfl⟩
      | ok kn =>
        obtain ⟨k, n⟩ := kn
        simp only
        have hp := (tokenB_le hs ht).1
        have e : p + d + n = p + n + d := by omega
        rw [e, shiftT_snoc]
        exact scanF_shift d f1 f2 (s.drop n) (p + n) (out ++ [⟨k, s.take n, p⟩]) (by rw [List.length_drop]; omega) (by rw [List.length_drop]; omega)
def shiftN (d : Nat) (l : List Nod) : List Nod := l.map fun n => ⟨n.kind, n.text, n.kids, n.pos + d⟩
theorem scanF_fuel : ∀ (f1 f2 : Nat) (s : Bs) (p : Nat) (out : List Tok), s.length < f1 → s.length < f2 → scanF f1 s p out = scanF f2 s p out
  | 0, _, _, _, _, h1, _ => absurd h1 (Nat.not_lt_zero _)
  | _, 0, _, _, _, _, h2 => absurd h2 (Nat.not_lt_zero _)
  | f1 + 1, f2 + 1, s, p, out, h1, h2 => by
    unfold scanF
    by_cases hs : s = []
    · rw [if_pos hs, if_pos hs]
    rw [if_neg hs, if_neg hs]
    have h0 : 0 < s.length := List.length_pos_iff.2 hs
    cases hk : skippedB s with
    | none => rfl
    | some nb =>
      obtain ⟨n, nl⟩ := nb
      simp only
      by_cases hn : 0 < n
      · rw [if_pos hn, if_pos hn]
        exact scanF_fuel f1 f2 _ _ _ (by rw [List.length_drop]; omega) (by rw [List.length_drop]; omega)
      rw [if_neg hn, if_neg hn]
      cases ht : tokenB s with
      | error e => rfl
      | ok kn =>
        obtain ⟨k, n⟩ := kn
        simp only
        have hp := (tokenB_le hs ht).1
        exact scanF_fuel f1 f2 _ _ _ (by rw [List.length_drop]; omega) (by rw [List.length_drop]; omega)
def preB : Bs := [32, 47, 42, 32, 99, 32, 42, 47, 9]
theorem checkF_ascii {f p : Nat} {c : UInt8} {r : Bs} (h : c.toNat < 128) (h0 : c.toNat ≠ 0) : checkF (f + 1) (c :: r) p = checkF f r (p + 1) := by
  have hd : decS (c :: r) = (c.toNat, 1) := by
    unfold decS Lib.decodeN
    rw [if_pos (by simpa using h)]
    simp
  rw [checkF, hd, if_neg (by simp), if_neg h0, if_neg (by simp; omega)]
  rfl
theorem checkB_pre (s : Bs) (hs : s.length ≤ 3991) : ShR id 9 (checkB s) (checkB (preB ++ s)) := by
  unfold checkB
  have hl : (preB ++ s).length = s.length + 9 := by simp [preB]
  rw [if_neg Hg, hl, if_neg Hg]
  have : checkF (s.length + 9) (preB ++ s) 0 = checkF s.length s 9 := by
    show checkF (s.length + 8 + 1) (32 :: 47 :: 42 :: 32 :: 99 :: 32 :: 42 :: 47 :: 9 :: s) 0 = _
    rw [checkF_ascii (by decide) (by decide), checkF_ascii (by decide) (by decide), checkF_ascii (by decide) (by decide), checkF_ascii (by decide) (by decide), checkF_ascii (by decide) (by decide), checkF_ascii (by decide) (by decide), checkF_ascii (by decide) (by decide), checkF_ascii (by decide) (by decide), checkF_ascii (by decide) (by decide)]
  rw [this, show (9 : Nat) = 0 + 9 from rfl, checkF_shift 9 _ s.length s 0 (Nat.le_refl _) (Nat.le_refl _)]
  cases checkF s.length s 0 with
  | none => rfl
  | some p => exact ⟨rfl, fun _ => rfl⟩
theorem cut_pre (s : Bs) : Lib.cut (32 :: 99 :: 32 :: 42 :: 47 :: 9 :: s) [42, 47] = ([32, 99, 32], 9 :: s, true) := by
  have : Lib.index (32 :: 99 :: 32 :: 42 :: 47 :: 9 :: s) [42, 47] = 3 := by
    simp [Lib.index, List.isPrefixOf]
  unfold Lib.cut
  rw [this]
  rfl
theorem scanF_pre (s : Bs) (f : Nat) : scanF (f + 3) (preB ++ s) 0 [] = scanF f s 9 [] := by
  have e1 : scanF (f + 3) (32 :: 47 :: 42 :: 32 :: 99 :: 32 :: 42 :: 47 :: 9 :: s) 0 [] = scanF (f + 2) (47 :: 42 :: 32 :: 99 :: 32 :: 42 :: 47 :: 9 :: s) 1 [] := rfl
  have hk : skippedB (47 :: 42 :: 32 :: 99 :: 32 :: 42 :: 47 :: 9 :: s) = some (7, false) := by
    unfold skippedB
    have hc := cut_pre s
    simp only [List.getD_cons_zero, List.drop_succ_cons, List.drop_zero, hc]
    rfl
  have e2 : scanF (f + 2) (47 :: 42 :: 32 :: 99 :: 32 :: 42 :: 47 :: 9 :: s) 1 [] = scanF (f + 1) (9 :: s) 8 [] := by
    rw [scanF, if_neg (by simp), hk]
    rfl
  have e3 : scanF (f + 1) (9 :: s) 8 [] = scanF f s 9 [] := rfl
  show scanF (f + 3) (32 :: 47 :: 42 :: 32 :: 99 :: 32 :: 42 :: 47 :: 9 :: s) 0 [] = _
  rw [e1, e2, e3]
theorem scanB_pre (s : Bs) (hs : s.length ≤ 3991) : ShR (shiftT 9) 9 (scanB s) (scanB (preB ++ s)) := by
  unfold scanB
  have := checkB_pre s hs
  match checkB s, checkB (preB ++ s), this with
  | .error (i, e), .error (i', e'), h => exact h
  | .ok _, .ok _, _ =>
    simp only
    have hl : (preB ++ s).length = s.length + 9 := by simp [preB]
    rw [hl, show s.length + 9 + 1 = s.length + 7 + 3 from rfl, scanF_pre]
    exact scanF_shift 9 (s.length + 7) (s.length + 1) s 0 [] Hg Hg
theorem posOf_shift {T : List Tok} {i d : Nat} (h : i < T.length) : posOf (shiftT d T) i = posOf T i + d := by
  unfold posOf shiftT
  rw [List.getD_eq_getElem?_getD, List.getElem?_map, List.getD_eq_getElem?_getD, List.getElem?_eq_getElem h]
  rfl
theorem tk_shift (d : Nat) (T : List Tok) : (shiftT d T).map Tok.tk = T.map Tok.tk := by
  unfold shiftT; rw [List.map_map]; rfl
theorem exprB_pre (s : Bs) (hs : s.length ≤ 3991) : ShR (shiftN 9) 9 (exprB s) (exprB (preB ++ s)) := by
  unfold exprB treeB
  have h1 := scanB_pre s hs
  have h2 := scanB_ok s
  match scanB s, scanB (preB ++ s), h1, h2 with
  | .error (i, e), .error (i', e'), h, _ => exact h
  | .ok T, .ok T', h, ht =>
    obtain rfl : T' = shiftT 9 T := h
    simp only
    rw [tk_shift]
    have hk := exprAll_tree ht.wf
    cases hp : pexprAll (T.map Tok.tk) with
    | error ie =>
      obtain ⟨i, e⟩ := ie
      rw [hp] at hk
      have hi : i < T.length := by have := hk.1; simpa using this
      exact ⟨rfl, fun _ => posOf_shift hi⟩
    | ok l =>
      have htn := exprAll_tn ht.wf hp
      show (l.map (toNod (shiftT 9 T))) = shiftN 9 (l.map (toNod T))
      unfold shiftN
      rw [List.map_map]
      refine List.map_congr_left fun nd hn => ?_
      have := htn nd hn
      rw [List.length_map] at this
      show (⟨nd.kind, nd.text, nd.kids, (posOf (shiftT 9 T) nd.tn : Int)⟩ : Nod) = ⟨nd.kind, nd.text, nd.kids, (posOf T nd.tn : Int) + ((9 : Nat) : Int)⟩
      rw [posOf_shift this, Int.natCast_add]
def sufB : Bs := [32, 47, 47, 32, 99]
section
variable {s : Bs}
theorem getD_app (r : Bs) {i : Nat} (h : i < s.length) : (s ++ r).getD i 0 = s.getD i 0 := by
  rw [List.getD_eq_getElem?_getD, List.getElem?_append_left h, List.getD_eq_getElem?_getD]
theorem getD_suf : (s ++ sufB).getD s.length 0 = 32 := by
  rw [List.getD_eq_getElem?_getD, List.getElem?_append_right (Nat.le_refl _), Nat.sub_self]; rfl
theorem getD_out {i : Nat} (h : s.length ≤ i) : s.getD i 0 = 0 := by
  rw [List.getD_eq_getElem?_getD, List.getElem?_eq_none h]; rfl
theorem whileF_app {p p' : Nat → UInt8 → Bool} : ∀ (s : Bs) (n : Nat), (∀ i c, i < s.length → p' (n + i) c = p (n + i) c) → p' (n + s.length) 32 = false → whileF p' n (s ++ sufB) = whileF p n s
  | [], n, _, h => by
    show (if p' n 32 = true then _ else n) = n
    have h' : p' n 32 = false := h
    rw [h']; rfl
  | c :: r, n, h1, h2 => by
    have e := h1 0 c (by simp)
    rw [Nat.add_zero] at e
    show (if p' n c = true then whileF p' (n + 1) (r ++ sufB) else n) = if p n c = true then whileF p (n + 1) r else n
    rw [e, whileF_app (p := p) (p' := p') r (n + 1) (fun i c hi => by have := h1 (i + 1) c (by simp; omega); rwa [show n + (i + 1) = n + 1 + i by omega] at this) (by rw [List.length_cons, show n + (r.length + 1) = n + 1 + r.length by omega] at h2; exact h2)]
theorem isPre_app : ∀ (o s : Bs), o.contains 32 = false → o.isPrefixOf (s ++ sufB) = o.isPrefixOf s
  | [], s, _ => by simp
  | x :: o, [], h => by
    have hx : (x == 32) = false := by
      simp only [List.contains_cons, Bool.or_eq_false_iff] at h
      have := h.1
      rw [BEq.comm]; exact this
    show (x == 32 && _) = false
    rw [hx]; rfl
  | x :: o, c :: s, h => by
    simp only [List.contains_cons, Bool.or_eq_false_iff] at h
    show (x == c && o.isPrefixOf (s ++ sufB)) = (x == c && o.isPrefixOf s)
    rw [isPre_app o s h.2]
theorem quotedF_app {q : UInt8} {raw : Bool} (r : Bs) : ∀ (k : Nat) (s : Bs) (n : Nat), s.length ≤ k → quotedF q raw n s ≠ 0 → quotedF q raw n (s ++ r) = quotedF q raw n s
  | 0, s, n, hk, h => by
    have : s = [] := List.eq_nil_of_length_eq_zero Hg
    subst this
    rw [quotedF.eq_def] at h; exact absurd rfl h
  | k + 1, [], n, _, h => by rw [quotedF.eq_def] at h; exact absurd rfl h
  | k + 1, [c], n, hk, h => by
    rw [quotedF.eq_def] at h ⊢
    rw [quotedF.eq_def q raw n [c]]
    simp only [List.cons_append, List.nil_append] at *
    split at h
    · rename_i hc; rw [if_pos hc, if_pos hc]
    rename_i hc
    split at h
    · exact absurd rfl h
    split at h
    · exact absurd rfl h
    rw [quotedF.eq_def] at h; exact absurd rfl h
  | k + 1, c :: e :: s, n, hk, h => by
    have hk1 : s.length + 2 ≤ k + 1 := hk
    rw [quotedF.eq_def] at h ⊢
    rw [quotedF.eq_def q raw n (c :: e :: s)]
    simp only [List.cons_append] at *
    by_cases h1 : c = q
    · rw [if_pos h1, if_pos h1]
    rw [if_neg h1] at h ⊢
    rw [if_neg h1]
    by_cases h2 : (!raw && c.toNat == 10) = true
    · rw [if_pos h2] at h; exact absurd rfl h
    rw [if_neg h2] at h ⊢
    rw [if_neg h2]
    by_cases h3 : (!raw && c.toNat == 92) = true
    · rw [if_pos h3] at h ⊢
      rw [if_pos h3]
      by_cases h4 : e.toNat = 10
      · rw [if_pos h4] at h; exact absurd rfl h
      rw [if_neg h4] at h ⊢
      rw [if_neg h4]
      exact quotedF_app r k s (n + 2) Hg h
    rw [if_neg h3] at h ⊢
    rw [if_neg h3]
    exact quotedF_app r k (e :: s) (n + 1) (by simp; omega) h
theorem opsB_plain : ∀ o ∈ opsB, o.contains 32 = false := by decide +kernel
theorem numP_app {hex : Bool} {i : Nat} {c : UInt8} (h : i < s.length + 1) : numP (s ++ sufB) hex i c = numP s hex i c := by
  unfold numP
  by_cases h0 : 0 < i
  · rw [getD_app sufB (show i - 1 < s.length by omega)]
  have : i = 0 := by omega
  subst this
  simp
theorem numP_end {hex : Bool} {i : Nat} : numP s hex i 32 = false := by
  unfold numP
  rfl
theorem basedB_app (h : s ≠ []) : basedB (s ++ sufB) = basedB s := by
  have h0 : 0 < s.length := List.length_pos_iff.2 h
  unfold basedB
  rw [getD_app sufB h0]
  rcases Nat.lt_or_ge 1 s.length with q | q
  · rw [getD_app sufB q, decide_eq_true q, decide_eq_true (by simp; omega)]
  have e : s.length = 1 := by omega
  have h1 : (s ++ sufB).getD 1 0 = 32 := by rw [← e]; exact getD_suf
  rw [h1, getD_out q, decide_eq_false (show ¬ 1 < s.length by omega)]
  simp
theorem hexB_app (h : s ≠ []) : hexB (s ++ sufB) = hexB s := by
  unfold hexB
  rw [basedB_app h]
  cases hb : basedB s with
  | false => rfl
  | true =>
    have : 1 < s.length := by
      unfold basedB at hb
      simp only [Bool.and_eq_true, decide_eq_true_eq] at hb
      exact hb.1.1
    rw [getD_app sufB this]
theorem take_app {n : Nat} (h : n ≤ s.length) : (s ++ sufB).take n = s.take n := List.take_append_of_le_length h
theorem numberB_app (h : s ≠ []) : numberB (s ++ sufB) = numberB s := by
  unfold numberB
  rw [hexB_app h, basedB_app h]
  have hw : whileF (numP (s ++ sufB) (hexB s)) 0 (s ++ sufB) = whileF (numP s (hexB s)) 0 s := whileF_app s 0 (fun i c hi => numP_app Hg) (by rw [numP_app Hg]; exact numP_end)
  have hl := (whileF_le (numP s (hexB s)) s 0).2
  rw [hw]
  simp only
  rw [take_app Hg]
theorem quotedB_app (h : s ≠ []) (hq : quotedB s ≠ 0) : quotedB (s ++ sufB) = quotedB s := by
  have h0 : 0 < s.length := List.length_pos_iff.2 h
  unfold quotedB at *
  rw [getD_app sufB h0, List.drop_append_of_le_length h0]
  exact quotedF_app sufB _ _ _ (Nat.le_refl _) hq
theorem find_congr {α : Type} {p q : α → Bool} : ∀ (l : List α), (∀ x ∈ l, p x = q x) → l.find? p = l.find? q
  | [], _ => rfl
  | x :: l, h => by
    rw [List.find?_cons, List.find?_cons, h x (List.mem_cons_self ..), find_congr l (fun y hy => h y (List.mem_cons_of_mem _ hy))]
theorem tokenB_app (h : s ≠ []) {k : Int} {n : Nat} (ht : tokenB s = .ok (k, n)) : tokenB (s ++ sufB) = .ok (k, n) := by
  have h0 : 0 < s.length := List.length_pos_iff.2 h
  rw [← ht]
  unfold tokenB at *
  rw [getD_app sufB h0]
  have hw : whileF (fun _ c => wordC c) 0 (s ++ sufB) = whileF (fun _ c => wordC c) 0 s := whileF_app s 0 (fun _ _ _ => rfl) rfl
  have hwl := (whileF_le (fun _ c => wordC c) s 0).2
  have hd : (decide (1 < (s ++ sufB).length) && digC ((s ++ sufB).getD 1 0)) = (decide (1 < s.length) && digC (s.getD 1 0)) := by
    rcases Nat.lt_or_ge 1 s.length with q | q
    · rw [getD_app sufB q, decide_eq_true q, decide_eq_true (by simp; omega)]
    have e : s.length = 1 := by omega
    have h1 : (s ++ sufB).getD 1 0 = 32 := by rw [← e]; exact getD_suf
    rw [h1, getD_out q, decide_eq_false (show ¬ 1 < s.length by omega)]
    have : digC 32 = false := rfl
    rw [this, Bool.and_false, Bool.false_and]
  have hf : opsB.find? (fun o => o.isPrefixOf (s ++ sufB)) = opsB.find? (fun o => o.isPrefixOf s) := find_congr _ (fun o ho => isPre_app o s (opsB_plain o ho))
  simp only [Bool.and_assoc] at ht ⊢
  rw [hw, hd, hf, take_app Hg, numberB_app h]
  split
  · rfl
  split
  · rfl
  split
  · rename_i c1 c2 c3
    rw [if_neg c1, if_neg c2, if_pos c3] at ht
    have hq : quotedB s ≠ 0 := fun e => by rw [if_pos e] at ht; cases ht
    rw [quotedB_app h hq]
  rfl
theorem index_app (a b sub : Bs) : 0 ≤ Lib.index a sub → Lib.index (a ++ b) sub = Lib.index a sub ∧ sub.length ≤ a.length := by
  induction a with
  | nil =>
    intro h
    unfold Lib.index at h
    split at h
    · rename_i he
      have : sub = [] := by simpa using he
      subst this
      cases b <;> simp [Lib.index]
    exact absurd h (by decide)
  | cons x a ih =>
    intro h
    have e1 : Lib.index (x :: a) sub = if sub.isPrefixOf (x :: a) then 0 else if Lib.index a sub == -1 then -1 else Lib.index a sub + 1 := rfl
    have e2 : Lib.index (x :: a ++ b) sub = if sub.isPrefixOf (x :: (a ++ b)) then 0 else if Lib.index (a ++ b) sub == -1 then -1 else Lib.index (a ++ b) sub + 1 := rfl
    rw [e1] at h
    rw [e1, e2]
    by_cases hp : sub.isPrefixOf (x :: a) = true
    · have hp1 := List.isPrefixOf_iff_prefix.1 hp
      have : sub.isPrefixOf (x :: (a ++ b)) = true := by
        rw [List.isPrefixOf_iff_prefix]
        obtain ⟨t, ht⟩ := hp1
        exact ⟨t ++ b, by rw [← List.append_assoc, ht]; rfl⟩
      rw [if_pos hp, if_pos this]
      exact ⟨rfl, hp1.length_le⟩
    rw [if_neg hp] at h
    have hi : 0 ≤ Lib.index a sub := by
      have := Lib.index_ge a sub
      split at h
      · exact absurd h (by decide)
      rename_i hne
      simp at hne; omega
    obtain ⟨q1, q2⟩ := ih hi
    have hn : ¬ sub.isPrefixOf (x :: (a ++ b)) = true := by
      intro hc
      apply hp
      rw [List.isPrefixOf_iff_prefix] at hc ⊢
      exact List.prefix_of_prefix_length_le hc (show (x :: a) <+: x :: (a ++ b) from List.prefix_append (x :: a) b) (by simp; omega)
    rw [if_neg hn, if_neg hp, q1]
    exact ⟨rfl, by simp; omega⟩
theorem index_lt (a sub : Bs) : 0 ≤ Lib.index a sub → (Lib.index a sub).toNat ≤ a.length := by
  induction a with
  | nil =>
    intro h
    unfold Lib.index at h ⊢
    split at h
    · rename_i he; rw [if_pos he]; exact Nat.le_refl _
    exact absurd h (by decide)
  | cons x a ih =>
    intro h
    have e1 : Lib.index (x :: a) sub = if sub.isPrefixOf (x :: a) then 0 else if Lib.index a sub == -1 then -1 else Lib.index a sub + 1 := rfl
    rw [e1] at h ⊢
    split at h
    · rename_i c; rw [if_pos c]; exact Nat.zero_le _
    rename_i c; rw [if_neg c]
    have := Lib.index_ge a sub
    split at h
    · exact absurd h (by decide)
    rename_i hne
    rw [if_neg hne]
    simp at hne
    have := ih Hg
    simp only [List.length_cons]; omega
theorem whileF_nl : ∀ (s : Bs) (n : Nat), whileF (fun _ c => c.toNat != 10) n (s ++ sufB) = whileF (fun _ c => c.toNat != 10) n s ∨ (whileF (fun _ c => c.toNat != 10) n s = n + s.length ∧ whileF (fun _ c => c.toNat != 10) n (s ++ sufB) = n + (s.length + 5))
  | [], n => .inr ⟨rfl, rfl⟩
  | c :: r, n => by
    show (if (c.toNat != 10) = true then whileF _ (n + 1) (r ++ sufB) else n) = (if (c.toNat != 10) = true then whileF _ (n + 1) r else n) ∨ ((if (c.toNat != 10) = true then whileF _ (n + 1) r else n) = _ ∧ (if (c.toNat != 10) = true then whileF _ (n + 1) (r ++ sufB) else n) = _)
    split
    · rcases whileF_nl r (n + 1) with q | ⟨q1, q2⟩
      · exact .inl q
      exact .inr ⟨by rw [q1, List.length_cons]; omega, by rw [q2, List.length_cons]; omega⟩
    exact .inl rfl
theorem cut_app (a b sub : Bs) (h : (Lib.cut a sub).2.2 = true) : (Lib.cut (a ++ b) sub).1 = (Lib.cut a sub).1 ∧ (Lib.cut (a ++ b) sub).2.2 = true := by
  unfold Lib.cut at *
  split at h
  · rename_i hi
    obtain ⟨q1, q2⟩ := index_app a b sub hi
    have hle := Lib.index_ge a sub
    rw [q1, if_pos hi, if_pos hi]
    refine ⟨?_, rfl⟩
    simp only
    rw [List.take_append_of_le_length]
    have := index_lt a sub hi
    omega
  cases h
theorem skippedB_app (h : s ≠ []) {n : Nat} {nl : Bool} (hk : skippedB s = some (n, nl)) : skippedB (s ++ sufB) = some (n, nl) ∨ (n = s.length ∧ skippedB (s ++ sufB) = some (s.length + 5, nl)) := by
  have h0 : 0 < s.length := List.length_pos_iff.2 h
  unfold skippedB at *
  rw [getD_app sufB h0, isPre_app [47, 47] s (by decide), isPre_app [47, 42] s (by decide)]
  simp only at hk ⊢
  split at hk
  · rename_i c; rw [if_pos c]; exact .inl hk
  rename_i c; rw [if_neg c]
  split at hk
  · rename_i c; rw [if_pos c]; exact .inl hk
  rename_i c; rw [if_neg c]
  split at hk
  · rename_i c; rw [if_pos c]
    injection hk with hk; injection hk with h1 h2
    subst h1; subst h2
    rcases whileF_nl s 0 with q | ⟨q1, q2⟩
    · exact .inl (by rw [q])
    rw [Nat.zero_add] at q1 q2
    exact .inr ⟨q1, by rw [q2]⟩
  rename_i c; rw [if_neg c]
  split at hk
  · rename_i c; rw [if_pos c]
    have hl : 2 ≤ s.length := (List.isPrefixOf_iff_prefix.1 c).length_le
    rw [List.drop_append_of_le_length hl]
    split at hk
    · rename_i c
      obtain ⟨q1, q2⟩ := cut_app (s.drop 2) sufB [42, 47] c
      rw [if_pos q2, q1]
      exact .inl hk
    cases hk
  rename_i c; rw [if_neg c]; exact .inl hk
theorem decodeN_more {n n' b0 b1 b2 b3 b1' b2' b3' : Nat} (h0 : 1 ≤ n) (hn : n ≤ n') (h1 : 1 < n → b1' = b1) (h2 : 2 < n → b2' = b2) (h3 : 3 < n → b3' = b3) (hv : (Lib.decodeN n b0 b1 b2 b3).1 ≠ 65533 ∨ (b0 = 239 ∧ b1 = 191 ∧ b2 = 189 ∧ 3 ≤ n)) :
    Lib.decodeN n' b0 b1' b2' b3' = Lib.decodeN n b0 b1 b2 b3 ∧ (Lib.decodeN n b0 b1 b2 b3).2 ≤ n := by
  unfold Lib.decodeN at *
  by_cases c1 : b0 < 128
  · rw [if_pos c1, if_pos c1]; exact ⟨rfl, h0⟩
  rw [if_neg c1] at hv
  rw [if_neg c1, if_neg c1]
  by_cases c2 : b0 / 32 = 6 ∧ (1 < n ∧ b1 / 64 = 2)
  · obtain rfl := h1 c2.2.1
    rw [if_pos c2, if_pos ⟨c2.1, by omega, c2.2.2⟩]
    refine ⟨rfl, ?_⟩
    have := c2.2.1
    split <;> simp <;> omega
  rw [if_neg c2] at hv
  by_cases c3 : b0 / 16 = 14 ∧ (1 < n ∧ b1 / 64 = 2) ∧ (2 < n ∧ b2 / 64 = 2)
  · obtain rfl := h1 c3.2.1.1
    obtain rfl := h2 c3.2.2.1
    rw [if_neg c2, if_neg (show ¬ (b0 / 32 = 6 ∧ (1 < n' ∧ b1' / 64 = 2)) by omega), if_pos c3, if_pos ⟨c3.1, ⟨by omega, c3.2.1.2⟩, by omega, c3.2.2.2⟩]
    refine ⟨rfl, ?_⟩
    have := c3.2.2.1
    split <;> simp <;> omega
  rw [if_neg c3] at hv
  by_cases c4 : b0 / 8 = 30 ∧ (1 < n ∧ b1 / 64 = 2) ∧ (2 < n ∧ b2 / 64 = 2) ∧ (3 < n ∧ b3 / 64 = 2)
  · obtain rfl := h1 c4.2.1.1
    obtain rfl := h2 c4.2.2.1.1
    obtain rfl := h3 c4.2.2.2.1
    rw [if_neg c2, if_neg (show ¬ (b0 / 32 = 6 ∧ (1 < n' ∧ b1' / 64 = 2)) by omega), if_neg c3, if_neg (show ¬ (b0 / 16 = 14 ∧ (1 < n' ∧ b1' / 64 = 2) ∧ (2 < n' ∧ b2' / 64 = 2)) by omega), if_pos c4, if_pos ⟨c4.1, ⟨by omega, c4.2.1.2⟩, ⟨by omega, c4.2.2.1.2⟩, by omega, c4.2.2.2.2⟩]
    refine ⟨rfl, ?_⟩
    have := c4.2.2.2.1
    split <;> simp <;> omega
  rw [if_neg c4] at hv
  rcases hv with q | q
  · exact absurd rfl q
  exfalso; apply c3; omega
theorem decS_app (h : s ≠ []) (hv : (decS s).1 ≠ 65533 ∨ [239, 191, 189].isPrefixOf s = true) : decS (s ++ sufB) = decS s ∧ (decS s).2 ≤ s.length := by
  have h0 : 0 < s.length := List.length_pos_iff.2 h
  unfold decS at *
  rw [getD_app sufB h0]
  refine decodeN_more h0 (by simp) (fun q => by rw [getD_app sufB q]) (fun q => by rw [getD_app sufB q]) (fun q => by rw [getD_app sufB q]) ?_
  rcases hv with q | q
  · exact .inl q
  obtain ⟨t, rfl⟩ := List.isPrefixOf_iff_prefix.1 q
  exact .inr ⟨rfl, rfl, rfl, by simp⟩
theorem checkF_app : ∀ (f1 f2 : Nat) (s : Bs) (p : Nat), s.length + 5 ≤ f1 → s.length ≤ f2 → checkF f2 s p = none → checkF f1 (s ++ sufB) p = none
  | 0, _, _, _, h, _, _ => absurd h Hg
  | f1 + 1, f2, s, p, h1, h2, hn => by
    by_cases hs : s = []
    · subst hs
      have : ∃ f, f1 + 1 = f + 1 + 1 + 1 + 1 + 1 := ⟨f1 - 4, by simp at h1; omega⟩
      obtain ⟨f, hf⟩ := this
      rw [hf]
      show checkF (f + 1 + 1 + 1 + 1 + 1) (32 :: 47 :: 47 :: 32 :: 99 :: []) p = none
      rw [checkF_ascii (by decide) (by decide), checkF_ascii (by decide) (by decide), checkF_ascii (by decide) (by decide), checkF_ascii (by decide) (by decide), checkF_ascii (by decide) (by decide)]
      cases f <;> rfl
    have h0 : 0 < s.length := List.length_pos_iff.2 hs
    match f2, h2, hn with
    | 0, h2, _ => omega
    | f2 + 1, h2, hn =>
      unfold checkF at hn
      rw [if_neg hs] at hn
      split at hn
      · cases hn
      rename_i c1
      split at hn
      · cases hn
      rename_i c2
      have hv : (decS s).1 ≠ 65533 ∨ [239, 191, 189].isPrefixOf s = true := by
        rcases Nat.decEq (decS s).1 65533 with q | q
        · exact .inl q
        cases hp : ([239, 191, 189] : Bs).isPrefixOf s with
        | true => exact .inr rfl
        | false => exact absurd ⟨q, hp⟩ c2
      obtain ⟨q1, q2⟩ := decS_app hs hv
      have hpos := decS_pos s
      unfold checkF
      rw [if_neg (by simp [hs]), q1, if_neg c1, if_neg (by
        rintro ⟨a1, a2⟩
        rcases hv with q | q
        · exact q a1
        rw [isPre_app _ _ (by decide), q] at a2; cases a2), List.drop_append_of_le_length q2]
      exact checkF_app f1 f2 _ _ (by rw [List.length_drop]; omega) (by rw [List.length_drop]; omega) hn
def SameT (T T' : List Tok) : Prop := T'.map Tok.tk = T.map Tok.tk
theorem closeB_same {out : List Tok} {p p' : Nat} : SameT (closeB out p) (closeB out p') := by
  unfold SameT closeB
  split <;> simp [Tok.tk]
theorem scanF_app : ∀ (f1 f2 : Nat) (s : Bs) (p : Nat) (out T : List Tok), s.length + 7 < f1 → s.length < f2 → scanF f2 s p out = .ok T → ∃ T', scanF f1 (s ++ sufB) p out = .ok T' ∧ SameT T T'
  | 0, _, _, _, _, _, h, _, _ => absurd h (Nat.not_lt_zero _)
  | _, 0, _, _, _, _, _, h, _ => absurd h (Nat.not_lt_zero _)
  | f1 + 1, f2 + 1, s, p, out, T, h1, h2, hT => by
    unfold scanF at hT
    by_cases hs : s = []
    · subst hs
      rw [if_pos rfl] at hT
      split at hT
      · cases hT
      rename_i c
      injection hT with hT; subst hT
      have hf : ∃ f, f1 + 1 = f + 1 + 1 + 1 := ⟨f1 - 2, by simp at h1; omega⟩
      obtain ⟨f, hf⟩ := hf
      rw [hf]
      have e1 : scanF (f + 1 + 1 + 1) ([] ++ sufB) p out = scanF (f + 1 + 1) [47, 47, 32, 99] (p + 1) out := rfl
      have e2 : scanF (f + 1 + 1) [47, 47, 32, 99] (p + 1) out = scanF (f + 1) [] (p + 1 + 4) out := rfl
      have e3 : scanF (f + 1) [] (p + 1 + 4) out = if 1500 < (closeB out (p + 1 + 4)).length then .error (0, 7) else .ok (closeB out (p + 1 + 4)) := rfl
      rw [e1, e2, e3]
      have hl : (closeB out (p + 1 + 4)).length = (closeB out p).length := by
        have := congrArg List.length (closeB_same (out := out) (p := p) (p' := p + 1 + 4))
        simpa using this
      rw [hl, if_neg c]
      exact ⟨_, rfl, closeB_same⟩
    have h0 : 0 < s.length := List.length_pos_iff.2 hs
    rw [if_neg hs] at hT
    cases hk : skippedB s with
    | none => rw [hk] at hT; cases hT
    | some nb =>
      obtain ⟨n, nl⟩ := nb
      rw [hk] at hT
      simp only at hT
      have hle := skippedB_le hs hk
      unfold scanF
      rw [if_neg (by simp [hs])]
      by_cases hn : 0 < n
      · rw [if_pos hn] at hT
        rcases skippedB_app hs hk with q | ⟨q1, q2⟩
        · rw [q]
          simp only
          rw [if_pos hn, List.drop_append_of_le_length hle]
          exact scanF_app f1 f2 _ _ _ T (by rw [List.length_drop]; omega) (by rw [List.length_drop]; omega) hT
        rw [q2]
        simp only
        rw [if_pos Hg]
        have e1 : s.drop n = [] := List.drop_of_length_le Hg
        have e2 : (s ++ sufB).drop (s.length + 5) = [] := List.drop_of_length_le (by simp [sufB])
        rw [e1] at hT
        rw [e2]
        have hf : ∃ f, f1 = f + 1 := ⟨f1 - 1, by omega⟩
        obtain ⟨f, rfl⟩ := hf
        have hf : ∃ f, f2 = f + 1 := ⟨f2 - 1, by omega⟩
        obtain ⟨g, rfl⟩ := hf
        unfold scanF at hT ⊢
        rw [if_pos rfl] at hT ⊢
        generalize (if (nl && endsB out) = true then out ++ [⟨6, [10], p⟩] else out) = o at hT ⊢
        have hl : (closeB o (p + (s.length + 5))).length = (closeB o (p + n)).length := by
          have := congrArg List.length (closeB_same (out := o) (p := p + n) (p' := p + (s.length + 5)))
          simpa using this
        rw [hl]
        split at hT
        · cases hT
        rename_i c
        injection hT with hT; subst hT
        rw [if_neg c]
        exact ⟨_, rfl, closeB_same⟩
      rw [if_neg hn] at hT
      have hn0 : n = 0 := by omega
      subst hn0
      rcases skippedB_app hs hk with q | ⟨q1, _⟩
      · rw [q]
        simp only
        rw [if_neg (Nat.lt_irrefl 0)]
        cases ht : tokenB s with
        | error e => rw [ht] at hT; cases hT
        | ok kn =>
          obtain ⟨k, n⟩ := kn
          rw [ht] at hT
          simp only at hT
          obtain ⟨t1, t2, _⟩ := tokenB_le hs ht
          rw [tokenB_app hs ht]
          simp only
          rw [List.drop_append_of_le_length t2, take_app t2]
          exact scanF_app f1 f2 _ _ _ T (by rw [List.length_drop]; omega) (by rw [List.length_drop]; omega) hT
      omega
theorem exprB_suf (s : Bs) (hs : s.length ≤ 3995) {l : List Nod} (h : exprB s = .ok l) : ∃ l', exprB (s ++ sufB) = .ok l' ∧ l'.map (fun n => (n.kind, n.text, n.kids)) = l.map (fun n => (n.kind, n.text, n.kids)) := by
  unfold exprB treeB at *
  split at h
  · cases h
  rename_i T hT
  unfold scanB at hT
  split at hT
  · cases hT
  rename_i hc
  unfold checkB at hc
  split at hc
  · cases hc
  split at hc
  · cases hc
  rename_i hcf
  have hl : (s ++ sufB).length = s.length + 5 := by simp [sufB]
  have hc2 : checkB (s ++ sufB) = .ok () := by
    unfold checkB
    rw [hl, if_neg Hg, checkF_app _ _ s 0 (Nat.le_refl _) (Nat.le_refl _) hcf]
  obtain ⟨T', h1, h2⟩ := scanF_app (s.length + 8) _ s 0 [] T Hg (Nat.lt_succ_self _) hT
  have h3 : scanB (s ++ sufB) = .ok T' := by
    unfold scanB
    rw [hc2, hl]
    simp only
    rw [← h1]
    exact scanF_fuel _ _ _ _ _ (by rw [hl]; omega) (by rw [hl]; omega)
  rw [h3]
  simp only
  have h4 : T'.map Tok.tk = T.map Tok.tk := h2
  rw [h4]
  split at h
  · cases h
  rename_i l0 hl0
  injection h with h; subst h
  refine ⟨_, rfl, ?_⟩
  rw [List.map_map, List.map_map]
  rfl
end
end Go.Sy
namespace Go.Sy
open Go Go.Proofs Go.RowKit
theorem nod_cells {hx : H} {b o : Nat} {t : Nod} (hat : AtR hx b o (eNod t)) : ∃ a k c, (∀ (j : Nat) (v : Value), [Value.int .i64 t.kind, S t.text, .slice a k c, .int .i64 t.pos][j]? = some v → hx b (o + j) = some v) ∧ (fKs t a k c).holds hx := by
  obtain ⟨vs, fs, _, h1, h2, a, k, c, rfl, rfl⟩ := absorb_of (eNod t) o hat (fun vs fs => ∃ a k c, vs = [Value.int .i64 t.kind, S t.text, .slice a k c, .int .i64 t.pos] ∧ fs = [fKs t a k c]) (by
    intro a k c
    exact ⟨a, k, c, rfl, rfl⟩)
  exact ⟨a, k, c, h1, h2 _ (by simp)⟩
abbrev keyN (n : Nod) : Int × Bs × List Int := (n.kind, n.text, n.kids)
theorem same_at {l m : List Nod} (he : m.map keyN = l.map keyN) {q : Nat} (h1 : q < l.length) (h2 : q < m.length) : l[q].kind = m[q].kind ∧ l[q].text = m[q].text ∧ l[q].kids = m[q].kids := by
  have h := congrArg (fun x => x[q]?) he
  simp only [List.getElem?_map, List.getElem?_eq_getElem h1, List.getElem?_eq_getElem h2, Option.map_some, Option.some.injEq, Prod.mk.injEq] at h
  exact ⟨h.1.symm, h.2.1.symm, h.2.2.symm⟩
theorem same_len {l m : List Nod} (he : m.map keyN = l.map keyN) : m.length = l.length := by
  have := congrArg List.length he
  simpa using this
structure TripR (B : Except (Nat × Int) (List Nod)) (m : Nat) (l : List Nod) (i : Nat) (e : Int) : Prop where
  ok : e = 0 → B = .ok l
  bad : e ≠ 0 → l = [] ∧ B = .error (i, e)
  at' : i ≤ m
  pos : ∀ n ∈ l, 0 ≤ n.pos ∧ n.pos ≤ 4000
  len : l.length ≤ 2000
theorem trip_ok {s : Bs} (hs : s.length ≤ 4000) {l : List Nod} (h : exprB s = .ok l) : TripR (exprB s) s.length l 0 0 := by
  have := exprR_ok hs h
  have hr := (this.ok rfl).2.1
  exact ⟨fun _ => h, fun q => absurd rfl q, Nat.zero_le _, fun n hn => by
    obtain ⟨j, hj⟩ := List.mem_iff_getElem?.1 hn
    exact (hr.node j n hj).2.1, hr.many⟩
theorem trip_bad {s : Bs} (hs : s.length ≤ 4000) {i : Nat} {e : Int} (h : exprB s = .error (i, e)) : TripR (exprB s) s.length [] i e := by
  have := treeB_ok (rule := pexprAll) (fun _ w => exprAll_tree w) s hs
  rw [show treeB pexprAll s = .error (i, e) from h] at this
  exact ⟨fun he => by rcases this.2 with q | q | q | q <;> (rw [he] at q; exact absurd q (by decide)), fun _ => ⟨rfl, h⟩, this.1, fun n hn => by (cases hn), Nat.zero_le _⟩
theorem pre_rel {t : Bs} (ht : t.length ≤ 3991) {l m : List Nod} {i k : Nat} {e f : Int} {x y : Nat} (h1 : TripR (exprB t) x l i e) (h2 : TripR (exprB (preB ++ t)) y m k f) : e = f ∧ (e ≠ 0 → e ≠ 7 → (k : Int) = (i : Int) + 9) ∧ m = shiftN 9 l := by
  have h := exprB_pre t ht
  by_cases he : e = 0
  · rw [h1.ok he] at h
    by_cases hf : f = 0
    · rw [h2.ok hf] at h
      exact ⟨by rw [he, hf], fun q => absurd he q, h⟩
    rw [(h2.bad hf).2] at h
    exact h.elim
  rw [(h1.bad he).2] at h
  by_cases hf : f = 0
  · rw [h2.ok hf] at h
    exact h.elim
  rw [(h2.bad hf).2] at h
  refine ⟨h.1.symm, fun _ q => by rw [h.2 q, Int.natCast_add]; rfl, ?_⟩
  rw [(h1.bad he).1, (h2.bad hf).1]; rfl
theorem shift_key (l : List Nod) : (shiftN 9 l).map keyN = l.map keyN := by
  unfold shiftN; rw [List.map_map]; rfl
theorem suf_rel {t : Bs} (ht : t.length ≤ 3995) {l m : List Nod} {i k : Nat} {f : Int} {x y : Nat} {e : Int} (he : e = 0) (h1 : TripR (exprB t) x l i e) (h2 : TripR (exprB (t ++ sufB)) y m k f) : f = 0 ∧ m.map keyN = l.map keyN := by
  obtain ⟨l', h3, h4⟩ := exprB_suf t ht (h1.ok he)
  by_cases hf : f = 0
  · have := h2.ok hf
    rw [h3] at this
    injection this with this
    subst this
    exact ⟨hf, h4⟩
  have := (h2.bad hf).2
  rw [h3] at this
  cases this
attribute [local irreducible] AC AT AO AK AH ACalls ACallsX ACallsD Sub Res.cells Res.obj Res.nix Res.own Res.map Exit.then Exit.inBlock Exit.noGoto bodyPost bodyPostD Code.wp Code.wpIn WL Next Post PostX Kont
attribute [local irreducible] exprB
section
variable {W0 : World} {L : List Res} {F : List Fact} {R : Value → List Res → List Fact → Prop}
set_option maxRecDepth 100000
set_option maxHeartbeats 4000000
theorem expr_t (g : ScanG W0 F) (mN : fNo ∈ F) (m4 : fNod [] none 0 0 ∈ F) (s : Bs) (hs : s.length ≤ 4000) (h : ∀ l i e a k c F', TripR (exprB s) s.length l i e → fNod l a k c ∈ F' → (∀ x ∈ F, x ∈ F') → R (.tuple #[.slice a k c, .int .i64 (i : Nat), .int .i64 e]) L F') : ACalls Tryd.prog W0 5 #[S s] L F R :=
  expr_c g mN s Hg (fun l hl a k c => h l 0 0 a k c _ (trip_ok hs hl) mem0 (fun x hx => memS hx)) (fun i e hl => h [] i e none 0 0 _ (trip_bad hs hl) m4 (fun x hx => hx))
theorem like_c (l m : List Nod) (he : m.map keyN = l.map keyN) {a1 a2 : Option Addr} {k1 c1 k2 c2 : Nat} (m1 : fNod l a1 k1 c1 ∈ F) (m2 : fNod m a2 k2 c2 ∈ F) (h : R (.bool true) L F) : ACalls Tryd.prog W0 6 #[.slice a1 k1 c1, .slice a2 k2 c2] L F R := by
  have hlen := same_len he
  refine Gu Tryd.func6 He Tryd.ntmps6 He ?_
  refine qs 9 ?_
  refine Gd (AO.len He He (fun hl8 => ?_) (enc := eNod) (lst := l) (hm := memA))
  refine qs 1 ?_
  refine Gd (AO.len He He (fun hl10 => ?_) (enc := eNod) (lst := m) (hm := memA))
  refine Gd (Hb He He He (fun c11 => ?_) (fun c11 => ?_))
  ·refine qs 10 ?_
   omega
  refine qs 9 ?_
  refine Gd (AO.len He He (fun hl13 => ?_) (enc := eNod) (lst := l) (hm := memA))
  refine qs 4 ?_
  refine GX (fun (q : Nat) => q ≤ l.length) (fun q => [(0, .slice a1 k1 c1), (1, .slice a2 k2 c2), (13, .int .i64 l.length), (14, .int .i64 (q : Int))]) (fun _ => L) (fun _ => F) (fun q => l.length - q) 0 (Nat.zero_le _) srA (Ga _ _) ?_
  rintro q hq
  refine qs 2 ?_
  refine Gd (Hc He He He (fun c15 => ?_) (fun c15 => ?_))
  ·refine qs 16 ?_
   refine GS (fun _ => false) [] bxA He (fun hx hX => ?_)
   have hkl : q < l.length := by omega
   have hkm : q < m.length := by omega
   have hkk1 := (GL (hX _ m1)).1
   have hkk3 := (GL (hX _ m2)).1
   obtain ⟨p1, o1, rfl, at1⟩ := GK (hX _ m1) hkl
   obtain ⟨p2, o2, rfl, at2⟩ := GK (hX _ m2) hkm
   obtain ⟨w1, x1, y1, hv1, hw1⟩ := nod_cells at1
   obtain ⟨w2, x2, y2, hv2, hw2⟩ := nod_cells at2
   have hs := same_at he hkl hkm
   have d0 := hv1 0 _ rfl
   have d1 := hv1 1 _ rfl
   have d2 := hv1 2 _ rfl
   have f0 := hv2 0 _ rfl
   have f1 := hv2 1 _ rfl
   have f2 := hv2 2 _ rfl
   have hx1 := (GL hw1).1
   have hx2 := (GL hw2).1
   refine qt [0, 1, 2, 3, 4, 5, 6, 7, 8, 9] ?_
   refine AH.takeB (i := 10) He (Y.neq He He) Hf He He (fun c27 => ?_) (fun c27 => ?_)
   ·replace c27 := ne_of_bne c27
    refine qt [11, 12, 13, 14, 15, 16, 17, 18, 19, 20, 21, 22, 23, 24, 25, 26, 27, 28, 29, 30, 31, 32, 33, 34, 35, 36, 37, 38] ?_
    refine GG Hf ?_
    refine qs 14 ?_
    exact absurd hs.1 Hg
   replace c27 := eq_of_bneF c27
   refine qt [11, 12, 13, 14, 15, 16, 17, 18, 19, 20, 21] ?_
   refine AH.takeB (i := 22) He (Y.neqS He He) Hf He He (fun c39 => ?_) (fun c39 => ?_)
   ·replace c39 := ne_of_nbeq c39
    refine qt [23, 24, 25, 26, 27, 28, 29, 30, 31, 32, 33, 34, 35, 36, 37, 38] ?_
    refine GG Hf ?_
    refine qs 14 ?_
    exact absurd hs.2.1 ‹_›
   replace c39 := eq_of_nbeqF c39
   refine qt [23, 24, 25, 26, 27, 28, 29, 30, 31, 32, 33, 34, 35, 36] ?_
   refine AH.takeB (i := 37) He (Y.neq He He) Hf He He (fun c54 => ?_) (fun c54 => ?_)
   ·replace c54 := ne_of_bne c54
    refine qt [38] ?_
    refine GG Hf ?_
    refine qs 14 ?_
    have := congrArg List.length hs.2.2
    omega
   replace c54 := eq_of_bneF c54
   refine qt [38] ?_
   refine GG Hf ?_
   refine qs 8 ?_
   refine Gd (AO.indexAddr He He He He (enc := eNod) (lst := l) memA hkl (fun _ _ => ?_))
   refine Gd (AO.fieldAt He He (fun _ => ?_))
   refine Gd (AO.loadF He He ?_)
   intro a60 k60 c60
   refine Gd (AO.len He He (fun hl61 => ?_) (enc := eInt) (lst := l[q].kids) (hm := memA))
   refine qs 4 ?_
   refine GX (fun (v : Nat) => v ≤ l[q].kids.length) (fun v => [(0, .slice _ k1 c1), (1, .slice _ k2 c2), (5, .int .i64 (q : Int)), (13, .int .i64 l.length), (14, .int .i64 (q : Int)), (61, .int .i64 l[q].kids.length), (62, .int .i64 (v : Int))]) (fun _ => L) (fun _ => F) (fun v => l[q].kids.length - v) 0 (Nat.zero_le _) srA subF ?_
   rintro v hv
   refine qs 2 ?_
   refine Gd (Hc He He He (fun c63 => ?_) (fun c63 => ?_))
   ·refine qs 15 ?_
    refine GS (fun _ => false) [] bxA He (fun hx hX => ?_)
    have hvl : v < l[q].kids.length := by omega
    have hvm : v < m[q].kids.length := by rw [← hs.2.2]; exact hvl
    have hkk1 := (GL (hX _ m1)).1
    have hkk3 := (GL (hX _ m2)).1
    obtain ⟨p1, o1, e1, at1⟩ := GK (hX _ m1) hkl
    obtain ⟨p2, o2, e2, at2⟩ := GK (hX _ m2) hkm
    injection e1 with e1; injection e1 with e1a e1b; subst e1a; subst e1b
    injection e2 with e2; injection e2 with e2a e2b; subst e2a; subst e2b
    obtain ⟨w1, x1, y1, hv1, hw1⟩ := nod_cells at1
    obtain ⟨w2, x2, y2, hv2, hw2⟩ := nod_cells at2
    have hx1 := (GL hw1).1
    have hx2 := (GL hw2).1
    obtain ⟨p3, o3, rfl, at3⟩ := GK hw1 hvl
    obtain ⟨p4, o4, rfl, at4⟩ := GK hw2 hvm
    have d2 := hv1 2 _ rfl
    have f2 := hv2 2 _ rfl
    obtain ⟨u3, g3, hc3⟩ := at3 0 _ rfl
    obtain ⟨u4, g4, hc4⟩ := at4 0 _ rfl
    cases hc3
    cases hc4
    have hsv : l[q].kids[v] = m[q].kids[v] := by simp only [hs.2.2]
    refine qt [0, 1, 2, 3, 4, 5, 6, 7, 8, 9, 10, 11, 12, 13, 14, 15] ?_
    refine AH.takeB (i := 16) He (Y.neq He He) Hf He He (fun c81 => ?_) (fun c81 => ?_)
    ·replace c81 := ne_of_bne c81
     refine GG Hf ?_
     refine qs 17 ?_
     exact absurd hsv ‹_›
    replace c81 := eq_of_bneF c81
    refine GG Hf ?_
    refine qs 9 ?_
    refine GH (v + 1) Hg Hg srA subF
   refine qs 14 ?_
   refine GH (q + 1) Hg Hg srA subF
  refine qs 15 ?_
  exact Gf (L' := L) (F' := F) Tryd.results6 rfl subF h
theorem parseBlanks_c (g0 : ScanG W0 F) (s : Bs) (h : R (.bool true) L F) : ACalls Tryd.prog W0 3 #[S s] L F R := by
  have g : ScanG W0 (fNod [] none 0 0 :: fNo :: F) := g0.more (fun x hx => memS (memS hx))
  have m4 : fNod [] none 0 0 ∈ fNod [] none 0 0 :: fNo :: F := mem0
  have mN : fNo ∈ fNod [] none 0 0 :: fNo :: F := memS mem0
  have hF : ∀ x ∈ F, x ∈ fNod [] none 0 0 :: fNo :: F := fun x hx => memS (memS hx)
  have h3 : (s.take 2000).length ≤ 2000 := by simp; omega
  refine Gu Tryd.func3 He Tryd.ntmps3 He ?_
  refine qs 10 ?_
  refine Gd (AO.min He He He ?_)
  refine Gd (AO.sliceSH (j' := min s.length 2000) He He He Hg Hg ?_)
  have hcut : s.take (min s.length 2000) = s.take 2000 := by
   rcases Nat.le_total s.length 2000 with q | q
   · rw [Nat.min_eq_left q, List.take_of_length_le (Nat.le_refl _), List.take_of_length_le q]
   rw [Nat.min_eq_right q]
  rw [hcut]
  generalize s.take 2000 = t at h3
  refine GE ((Sub.nilF (sz := 1)).trans (Sub.nilF (sz := 4))) ?_
  refine qs 6 ?_
  refine Gd (Gg He He (expr_t g mN m4 t Hg (fun l i e a20 k20 c20 F1 hr1 mL1 hs1 => ?_)))
  refine qs 12 ?_
  refine Gd (AO.addS (a := preB) (b := t) He He He (by simp only [preB, List.length_cons, List.length_nil, maxLen]; omega) ?_)
  have hpl : (preB ++ t).length ≤ 4000 := by simp only [preB, List.length_append, List.length_cons, List.length_nil]; omega
  refine Gd (Gg He He (expr_t (g.more hs1) (hs1 _ mN) (hs1 _ m4) (preB ++ t) hpl (fun m k f a27 k27 c27 F2 hr2 mL2 hs2 => ?_)))
  have mL1' := hs2 _ mL1
  obtain ⟨p1, p2, p3⟩ := pre_rel (show t.length ≤ 3991 by omega) hr1 hr2
  have hkey : m.map keyN = l.map keyN := by rw [p3]; exact shift_key l
  have hai := hr1.at'
  refine qs 14 ?_
  refine Gd (Hb He He He (fun c33 => ?_) (fun c33 => ?_))
  ·refine qs 30 ?_
   exact absurd p1 ‹_›
  refine qs 3 ?_
  refine Gk He He (Gg He He (like_c l m hkey mL1' mL2 ?_))
  refine qs 4 ?_
  refine Gk He He (Hb He He He (fun c42 => ?_) (fun c42 => ?_))
  ·refine qs 2 ?_
   refine Gk He He (Hb He He He (fun c45 => ?_) (fun c45 => ?_))
   ·refine qs 5 ?_
    refine Gk He He (Hb He He He (fun c51 => ?_) (fun c51 => ?_))
    ·refine qs 12 ?_
     exact absurd (p2 ‹_› ‹_›) ‹_›
    refine qs 11 ?_
    refine Gd (AO.len He He (fun hl55 => ?_) (enc := eNod) (lst := l) (hm := memA))
    refine qs 4 ?_
    refine GX (fun (q : Nat) => q ≤ l.length) (fun q => [(0, S t), (3, .slice a20 k20 c20), (5, .int .i64 e), (6, .slice a27 k27 c27), (55, .int .i64 l.length), (56, .int .i64 (q : Int))]) (fun _ => L) (fun _ => F2) (fun q => l.length - q) 0 (Nat.zero_le _) srA (Ga _ _) ?_
    rintro q hq
    refine qs 2 ?_
    refine Gd (Hc He He He (fun c57 => ?_) (fun c57 => ?_))
    ·refine qs 15 ?_
     refine GS (fun _ => false) [] bxA He (fun hx hX => ?_)
     have hml : m.length = l.length := same_len hkey
     have hkl : q < l.length := by omega
     have hkm : q < m.length := by omega
     have hkk1 := (GL (hX _ mL1')).1
     have hkk3 := (GL (hX _ mL2)).1
     obtain ⟨r1, o1, e1, at1⟩ := GK (hX _ mL1') hkl
     obtain ⟨r2, o2, e2, at2⟩ := GK (hX _ mL2) hkm
     subst e1
     subst e2
     obtain ⟨w1, x1, y1, hv1, hw1⟩ := nod_cells at1
     obtain ⟨w2, x2, y2, hv2, hw2⟩ := nod_cells at2
     have d3 := hv1 3 _ rfl
     have f3 := hv2 3 _ rfl
     have hps := hr1.pos _ (List.getElem_mem hkl)
     have hp9 : m[q].pos = l[q].pos + 9 := by subst p3; simp [shiftN]
     refine qt [0, 1, 2, 3, 4, 5, 6, 7, 8, 9, 10] ?_
     refine AH.takeB (i := 11) He (Y.neq He He) Hf He He (fun c70 => ?_) (fun c70 => ?_)
     ·replace c70 := ne_of_bne c70
      refine GG Hf ?_
      refine qs 13 ?_
      exact absurd hp9 ‹_›
     replace c70 := eq_of_bneF c70
     refine GG Hf ?_
     refine qs 9 ?_
     refine GH (q + 1) Hg Hg srA subF
    refine qs 13 ?_
    refine Gd (Hb He He He (fun c73 => ?_) (fun c73 => ?_))
    ·refine qs 5 ?_
     refine Gd (Gg He He (alive_c ((g.more hs1).more hs2) (hs2 _ (hs1 _ mN)) ?_))
     refine qs 5 ?_
     exact Gf (L' := L) (F' := F) Tryd.results3 rfl (Gb (fun x hx => hs2 _ (hs1 _ (hF x hx)))) h
    refine qs 8 ?_
    refine Gd (AO.addS (a := t) (b := sufB) He He He (by simp only [sufB, List.length_cons, List.length_nil, maxLen]; omega) ?_)
    have hsl : (t ++ sufB).length ≤ 4000 := by simp only [sufB, List.length_append, List.length_cons, List.length_nil]; omega
    refine Gd (Gg He He (expr_t ((g.more hs1).more hs2) (hs2 _ (hs1 _ mN)) (hs2 _ (hs1 _ m4)) (t ++ sufB) hsl (fun m' k' f' a78 k78 c78 F3 hr3 mL3 hs3 => ?_)))
    obtain ⟨z1, z2⟩ := suf_rel (show t.length ≤ 3995 by omega) ‹_› hr1 hr3
    have mL1'' := hs3 _ mL1'
    refine qs 11 ?_
    refine Gd (Gg He He (alive_c (((g.more hs1).more hs2).more hs3) (hs3 _ (hs2 _ (hs1 _ mN))) ?_))
    refine qs 2 ?_
    refine Gk He He (Gq He He He (fun c85 => ?_) (fun c85 => ?_))
    ·refine qs 4 ?_
     refine Gk He He (Gg He He (like_c l m' z2 mL1'' mL3 ?_))
     refine qs 5 ?_
     exact Gf (L' := L) (F' := F) Tryd.results3 rfl (Gb (fun x hx => hs3 _ (hs2 _ (hs1 _ (hF x hx))))) h
    refine qs 10 ?_
    exact absurd z1 ‹_›
   refine qs 17 ?_
   refine Gd (AO.len He He (fun hl55 => ?_) (enc := eNod) (lst := l) (hm := memA))
   refine qs 4 ?_
   refine GX (fun (q : Nat) => q ≤ l.length) (fun q => [(0, S t), (3, .slice a20 k20 c20), (5, .int .i64 e), (6, .slice a27 k27 c27), (55, .int .i64 l.length), (56, .int .i64 (q : Int))]) (fun _ => L) (fun _ => F2) (fun q => l.length - q) 0 (Nat.zero_le _) srA (Ga _ _) ?_
   rintro q hq
   refine qs 2 ?_
   refine Gd (Hc He He He (fun c57 => ?_) (fun c57 => ?_))
   ·refine qs 15 ?_
    refine GS (fun _ => false) [] bxA He (fun hx hX => ?_)
    have hml : m.length = l.length := same_len hkey
    have hkl : q < l.length := by omega
    have hkm : q < m.length := by omega
    have hkk1 := (GL (hX _ mL1')).1
    have hkk3 := (GL (hX _ mL2)).1
    obtain ⟨r1, o1, e1, at1⟩ := GK (hX _ mL1') hkl
    obtain ⟨r2, o2, e2, at2⟩ := GK (hX _ mL2) hkm
    subst e1
    subst e2
    obtain ⟨w1, x1, y1, hv1, hw1⟩ := nod_cells at1
    obtain ⟨w2, x2, y2, hv2, hw2⟩ := nod_cells at2
    have d3 := hv1 3 _ rfl
    have f3 := hv2 3 _ rfl
    have hps := hr1.pos _ (List.getElem_mem hkl)
    have hp9 : m[q].pos = l[q].pos + 9 := by subst p3; simp [shiftN]
    refine qt [0, 1, 2, 3, 4, 5, 6, 7, 8, 9, 10] ?_
    refine AH.takeB (i := 11) He (Y.neq He He) Hf He He (fun c70 => ?_) (fun c70 => ?_)
    ·replace c70 := ne_of_bne c70
     refine GG Hf ?_
     refine qs 13 ?_
     exact absurd hp9 ‹_›
    replace c70 := eq_of_bneF c70
    refine GG Hf ?_
    refine qs 9 ?_
    refine GH (q + 1) Hg Hg srA subF
   refine qs 13 ?_
   refine Gd (Hb He He He (fun c73 => ?_) (fun c73 => ?_))
   ·refine qs 5 ?_
    refine Gd (Gg He He (alive_c ((g.more hs1).more hs2) (hs2 _ (hs1 _ mN)) ?_))
    refine qs 5 ?_
    exact Gf (L' := L) (F' := F) Tryd.results3 rfl (Gb (fun x hx => hs2 _ (hs1 _ (hF x hx)))) h
   refine qs 8 ?_
   refine Gd (AO.addS (a := t) (b := sufB) He He He (by simp only [sufB, List.length_cons, List.length_nil, maxLen]; omega) ?_)
   have hsl : (t ++ sufB).length ≤ 4000 := by simp only [sufB, List.length_append, List.length_cons, List.length_nil]; omega
   refine Gd (Gg He He (expr_t ((g.more hs1).more hs2) (hs2 _ (hs1 _ mN)) (hs2 _ (hs1 _ m4)) (t ++ sufB) hsl (fun m' k' f' a78 k78 c78 F3 hr3 mL3 hs3 => ?_)))
   obtain ⟨z1, z2⟩ := suf_rel (show t.length ≤ 3995 by omega) ‹_› hr1 hr3
   have mL1'' := hs3 _ mL1'
   refine qs 11 ?_
   refine Gd (Gg He He (alive_c (((g.more hs1).more hs2).more hs3) (hs3 _ (hs2 _ (hs1 _ mN))) ?_))
   refine qs 2 ?_
   refine Gk He He (Gq He He He (fun c85 => ?_) (fun c85 => ?_))
   ·refine qs 4 ?_
    refine Gk He He (Gg He He (like_c l m' z2 mL1'' mL3 ?_))
    refine qs 5 ?_
    exact Gf (L' := L) (F' := F) Tryd.results3 rfl (Gb (fun x hx => hs3 _ (hs2 _ (hs1 _ (hF x hx))))) h
   refine qs 10 ?_
   exact absurd z1 ‹_›
  refine qs 20 ?_
  refine Gd (AO.len He He (fun hl55 => ?_) (enc := eNod) (lst := l) (hm := memA))
  refine qs 4 ?_
  refine GX (fun (q : Nat) => q ≤ l.length) (fun q => [(0, S t), (3, .slice a20 k20 c20), (5, .int .i64 e), (6, .slice a27 k27 c27), (55, .int .i64 l.length), (56, .int .i64 (q : Int))]) (fun _ => L) (fun _ => F2) (fun q => l.length - q) 0 (Nat.zero_le _) srA (Ga _ _) ?_
  rintro q hq
  refine qs 2 ?_
  refine Gd (Hc He He He (fun c57 => ?_) (fun c57 => ?_))
  ·refine qs 15 ?_
   refine GS (fun _ => false) [] bxA He (fun hx hX => ?_)
   have hml : m.length = l.length := same_len hkey
   have hkl : q < l.length := by omega
   have hkm : q < m.length := by omega
   have hkk1 := (GL (hX _ mL1')).1
   have hkk3 := (GL (hX _ mL2)).1
   obtain ⟨r1, o1, e1, at1⟩ := GK (hX _ mL1') hkl
   obtain ⟨r2, o2, e2, at2⟩ := GK (hX _ mL2) hkm
   subst e1
   subst e2
   obtain ⟨w1, x1, y1, hv1, hw1⟩ := nod_cells at1
   obtain ⟨w2, x2, y2, hv2, hw2⟩ := nod_cells at2
   have d3 := hv1 3 _ rfl
   have f3 := hv2 3 _ rfl
   have hps := hr1.pos _ (List.getElem_mem hkl)
   have hp9 : m[q].pos = l[q].pos + 9 := by subst p3; simp [shiftN]
   refine qt [0, 1, 2, 3, 4, 5, 6, 7, 8, 9, 10] ?_
   refine AH.takeB (i := 11) He (Y.neq He He) Hf He He (fun c70 => ?_) (fun c70 => ?_)
   ·replace c70 := ne_of_bne c70
    refine GG Hf ?_
    refine qs 13 ?_
    exact absurd hp9 ‹_›
   replace c70 := eq_of_bneF c70
   refine GG Hf ?_
   refine qs 9 ?_
   refine GH (q + 1) Hg Hg srA subF
  refine qs 13 ?_
  refine Gd (Hb He He He (fun c73 => ?_) (fun c73 => ?_))
  ·refine qs 5 ?_
   refine Gd (Gg He He (alive_c ((g.more hs1).more hs2) (hs2 _ (hs1 _ mN)) ?_))
   refine qs 5 ?_
   exact Gf (L' := L) (F' := F) Tryd.results3 rfl (Gb (fun x hx => hs2 _ (hs1 _ (hF x hx)))) h
  refine qs 8 ?_
  refine Gd (AO.addS (a := t) (b := sufB) He He He (by simp only [sufB, List.length_cons, List.length_nil, maxLen]; omega) ?_)
  have hsl : (t ++ sufB).length ≤ 4000 := by simp only [sufB, List.length_append, List.length_cons, List.length_nil]; omega
  refine Gd (Gg He He (expr_t ((g.more hs1).more hs2) (hs2 _ (hs1 _ mN)) (hs2 _ (hs1 _ m4)) (t ++ sufB) hsl (fun m' k' f' a78 k78 c78 F3 hr3 mL3 hs3 => ?_)))
  obtain ⟨z1, z2⟩ := suf_rel (show t.length ≤ 3995 by omega) ‹_› hr1 hr3
  have mL1'' := hs3 _ mL1'
  refine qs 11 ?_
  refine Gd (Gg He He (alive_c (((g.more hs1).more hs2).more hs3) (hs3 _ (hs2 _ (hs1 _ mN))) ?_))
  refine qs 2 ?_
  refine Gk He He (Gq He He He (fun c85 => ?_) (fun c85 => ?_))
  ·refine qs 4 ?_
   refine Gk He He (Gg He He (like_c l m' z2 mL1'' mL3 ?_))
   refine qs 5 ?_
   exact Gf (L' := L) (F' := F) Tryd.results3 rfl (Gb (fun x hx => hs3 _ (hs2 _ (hs1 _ (hF x hx))))) h
  refine qs 10 ?_
  exact absurd z1 ‹_›
end
end Go.Sy
