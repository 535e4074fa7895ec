/- Joined of my own texts: SeK, SeL, SeM, SeN, SeO, SeS, TsD, TsE, TsF, TsG, TsH, TsI, TsJ. -/
import Derived.Test.YtinolpaapcpijaaGreatDoorQ18
namespace Go.Sy
open Go Go.Proofs Go.RowKit
abbrev vL (a : Option Addr) (k c : Nat) (a2 : Option Addr) (k2 c2 : Nat) (a3 : Option Addr) (k3 c3 : Nat) (a4 : Option Addr) (k4 c4 : Nat) (a5 : Option Addr) (k5 c5 : Nat) (e : Int) : Value := .agg #[.slice a k c, .slice a2 k2 c2, .slice a3 k3 c3, .slice a4 k4 c4, .slice a5 k5 c5, .int .i64 e]
theorem hadF_app (t : Ty) (e : Ent) (s : List UInt8) (l : List SelV) : ∀ k, hadF t e s l k = l ++ hadF t e s [] k
  | 0 => by simp [hadF]
  | k + 1 => by
    simp only [hadF]
    split
    · rw [hadF_app t e s l k, List.append_assoc]
    exact hadF_app t e s l k
theorem had1_app (T : List Ty) (w : Wht) (e : Ent) (s : List UInt8) (l : List SelV) : had1 T w e s l = l ++ had1 T w e s [] := by
  unfold had1
  simp only
  split
  · rw [hadF_app, hadF_app _ _ _ ([] ++ hadM w e s w.ms.length)]; simp
  simp
def repL (l : List SelV) : Nat → List SelV
  | 0 => []
  | n + 1 => repL l n ++ l
theorem hadE_rep (T : List Ty) (w : Wht) (e : Ent) (s : List UInt8) : hadE T w e s = repL (had1 T w e s []) (if e.many = true then 2 else 1) := by
  unfold hadE
  split <;> simp [repL]
theorem repL_len (l : List SelV) : ∀ n, (repL l n).length = n * l.length
  | 0 => by simp [repL]
  | n + 1 => by rw [repL, List.length_append, repL_len l n, Nat.add_mul, Nat.one_mul]
attribute [local irreducible] AC AT AO AK AH ACalls Sub Res.cells Res.obj Res.nix Res.own Res.map Exit.then Exit.inBlock bodyPost Code.wp Code.wpIn WL Next Post Kont
section
variable {W0 : World} {L : List Res} {F : List Fact} {R : Value → List Res → List Fact → Prop}
set_option maxRecDepth 100000
set_option maxHeartbeats 16000000
theorem rlook_c (T : List Ty) (N : List Nmd) (hu : rightU T N) (lev : List Ent) (p : Nat) (hl : levP T p lev) {a a2 a3 a4 a5 : Option Addr} {k c k2 c2 k3 c3 k4 c4 k5 c5 : Nat} (mL : fL T a k c ∈ F) (mN : fN N a2 k2 c2 ∈ F) (mV : fEn lev a3 k3 c3 ∈ F) (mE : Fact.slc (.slice none 0 0) 5 [] ∈ F)
    (hE : ∀ e, e ≠ 0 → looksR N T lev lev.length = .error e → R (vL none 0 0 none 0 0 none 0 0 none 0 0 none 0 0 e) L F)
    (hO : ∀ o ws a k c a4 k4 c4, looksR N T lev lev.length = .ok (o, ws) → R (vL a k c a2 k2 c2 a3 k3 c3 a4 k4 c4 a5 k5 c5 0) L (fL o a k c :: fWh ws a4 k4 c4 :: F)) :
    ACalls Tryz.prog W0 121 #[vL a k c a2 k2 c2 a3 k3 c3 a4 k4 c4 a5 k5 c5 0] L F R := by
  have hml : 1000000 ≤ maxLen := by decide
  have hlf := hl.few
  have hT4 := hu.1.2.1
  refine Gg Tryz.func121 HZ Tryz.ntmps121 HZ ?_
  refine qs 2 ?_
  refine Ga (GL HZ HZ (fun b1 => (Ga (Gj HZ (fun b2 => ?_)))))
  refine qs 13 ?_
  refine GH (GZ (e := 188) (sz := 2)) ?_
  refine Ga (Gt HZ HZ (fun hl11 => ?_) (enc := eEn) (lst := lev) (hm := memA))
  refine qs 4 ?_
  refine GB (fun (x : Nat × (List Ty × List Wht) × (Option Addr × Nat × Nat) × (Option Addr × Nat × Nat)) => x.1 ≤ lev.length ∧ looksR N T lev x.1 = .ok x.2.1) (fun x => [(1, .pointer (some ⟨b1, 0, none⟩)), (2, .pointer (some ⟨b2, 0, none⟩)), (10, .slice a3 k3 c3), (11, .int .i64 lev.length), (12, .int .i64 (x.1 : Int))]) (fun x => Res.own (.slice x.2.2.2.1 x.2.2.2.2.1 x.2.2.2.2.2) 188 2 (x.2.1.2.map eWh) :: Res.cells b2 _ _ :: Res.cells b1 #[.slice x.2.2.1.1 x.2.2.1.2.1 x.2.2.1.2.2, .slice a2 k2 c2, .slice a3 k3 c3, .slice x.2.2.2.1 x.2.2.2.2.1 x.2.2.2.2.2, .slice a5 k5 c5, .int .i64 0] 103 :: _) (fun x => fL x.2.1.1 x.2.2.1.1 x.2.2.1.2.1 x.2.2.1.2.2 :: _) (fun x => lev.length - x.1) (0, (T, []), (a, k, c), (none, 0, 0)) ⟨Nat.zero_le _, rfl⟩ srA (Gh (mem1 memA (fun x hx => hx))) ?_
  rintro ⟨q, ⟨o, ws⟩, ⟨a1, k1, c1⟩, ⟨a9, k9, c9⟩⟩ ⟨hq, hlk⟩
  simp only at hq hlk ⊢
  refine qs 2 ?_
  refine Ga (Gw HZ HZ HZ (fun c13 => ?_) (fun c13 => ?_))
  ·refine qs 10 ?_
   have hql : q < lev.length := by omega
   obtain ⟨hro, hpo, hlw, hww⟩ := looksR_ok hu hl q hq o ws hlk
   have hle := (hl.1 _ (List.getElem_mem hql)).1
   have hpl := hpo.length_le
   refine Ga (Gd HZ HZ HZ HZ (enc := eEn) (lst := lev) memA hql (fun _ _ => ?_))
   refine Ga (GN HZ HZ ?_)
   intro a15 k15 z15
   refine Ga (Gj HZ (fun b4 => ?_))
   refine qs 9 ?_
   refine Ga (Ge HZ HZ (rundT_c o N hro lev[q].typ hle.1 Jb (show fL o _ _ _ ∈ _ from memA) memA memA (fun e he hx => ?_) (fun o2 r a20 k20 c20 hx => ?_)))
   ·refine Ga (Gj HZ (fun b5 => ?_))
    refine qs 8 ?_
    refine Ga (GG HZ HZ HZ (fun _ => ?_) (fun c23 => absurd c23 he))
    refine qs 18 ?_
    exact Gn (rs := [.cell 2 _]) (L' := L) (F' := F) Tryz.results121 (.agg (j := 3) rfl rfl rfl .nil) subA (hE e he (looks_err hql hlk (look_err1 hx)))
   refine Ga (Gj HZ (fun b5 => ?_))
   refine qs 8 ?_
   obtain ⟨hro2, hpo2, hr0, hrl⟩ := undR_ok hro hle.1 Jb hx
   have hpl2 := hpo2.length_le
   obtain ⟨hrn, hre⟩ := GS hr0 hrl
   refine Ga (GG HZ HZ HZ (fun c23 => absurd HZ c23) (fun _ => ?_))
   refine qs 20 ?_
   refine Ga (Gd (k := r.toNat) HZ HZ HZ Jb (enc := eTy) (lst := o2) memA hrn (fun _ _ => ?_))
   refine Ga (Ha HZ HZ (fun _ => ?_))
   refine Ga (Gs HZ HZ ?_)
   refine Ga (Gr HZ HZ HZ (fun c37 => ?_) (fun c37 => ?_))
   ·refine qs 14 ?_
    have hof : (if (tyAt o2 r).kind = 7 then r else lev[q].typ) = r := by rw [if_pos (by rw [hre]; exact c37)]
    refine Ga (Ge HZ HZ (rownT_c o2 N hro2 r hr0 hrl (show fL o2 _ _ _ ∈ _ from memA) memA memA (fun e he hy => ?_) (fun o3 ms a43 k43 c43 a44 k44 c44 hy => ?_)))
    ·refine Ga (Gj HZ (fun b7 => ?_))
     refine qs 8 ?_
     rw [← hof] at hy
     refine Ga (GG HZ HZ HZ (fun _ => ?_) (fun c46 => absurd c46 he))
     refine qs 18 ?_
     exact Gn (rs := [.cell 2 _]) (L' := L) (F' := F) Tryz.results121 (.agg (j := 4) rfl rfl rfl .nil) subA (hE e he (looks_err hql hlk (look_err2 hx hy)))
    refine Ga (Gj HZ (fun b7 => ?_))
    refine qs 8 ?_
    rw [← hof] at hy
    refine Ga (GG HZ HZ HZ (fun c46 => absurd HZ c46) (fun _ => ?_))
    refine qs 21 ?_
    refine Ga (Gl HZ HZ HZ HZ HZ (fun b60 => ?_))
    refine Ga (GJ (i := 3) (enc := eWh) (lst := ws) [⟨r, ms⟩] HZ HZ HZ HZ (.val (.slc .nil memA)) HZ HZ (fun _ => rfl) Jb Jb (fun a61 k61 c61 => ?_))
    refine qs 9 ?_
    exact Gk (q + 1, (o3, ws ++ [⟨r, ms⟩]), (a43, k43, c43), (a61, k61, c61)) ⟨by simp only; omega, looks_ok hql hlk (look_ok hx hy)⟩ (by simp only; omega) srA (Sub.drop.trans (Sub.drop.trans (Sub.drop.trans (Gh (mem1 memA (fun x hx => by repeat (first | exact hx | refine List.mem_cons_of_mem _ ?_)))))))
   refine qs 10 ?_
   have hof : (if (tyAt o2 r).kind = 7 then r else lev[q].typ) = lev[q].typ := by rw [if_neg (by rw [hre]; exact c37)]
   refine Ga (Ge HZ HZ (rownT_c o2 N hro2 lev[q].typ hle.1 Jb (show fL o2 _ _ _ ∈ _ from memA) memA memA (fun e he hy => ?_) (fun o3 ms a43 k43 c43 a44 k44 c44 hy => ?_)))
   ·refine Ga (Gj HZ (fun b7 => ?_))
    refine qs 8 ?_
    rw [← hof] at hy
    refine Ga (GG HZ HZ HZ (fun _ => ?_) (fun c46 => absurd c46 he))
    refine qs 18 ?_
    exact Gn (rs := [.cell 2 _]) (L' := L) (F' := F) Tryz.results121 (.agg (j := 4) rfl rfl rfl .nil) subA (hE e he (looks_err hql hlk (look_err2 hx hy)))
   refine Ga (Gj HZ (fun b7 => ?_))
   refine qs 8 ?_
   rw [← hof] at hy
   refine Ga (GG HZ HZ HZ (fun c46 => absurd HZ c46) (fun _ => ?_))
   refine qs 21 ?_
   refine Ga (Gl HZ HZ HZ HZ HZ (fun b60 => ?_))
   refine Ga (GJ (i := 3) (enc := eWh) (lst := ws) [⟨r, ms⟩] HZ HZ HZ HZ (.val (.slc .nil memA)) HZ HZ (fun _ => rfl) Jb Jb (fun a61 k61 c61 => ?_))
   refine qs 9 ?_
   exact Gk (q + 1, (o3, ws ++ [⟨r, ms⟩]), (a43, k43, c43), (a61, k61, c61)) ⟨by simp only; omega, looks_ok hql hlk (look_ok hx hy)⟩ (by simp only; omega) srA (Sub.drop.trans (Sub.drop.trans (Sub.drop.trans (Gh (mem1 memA (fun x hx => by repeat (first | exact hx | refine List.mem_cons_of_mem _ ?_)))))))
  refine qs 16 ?_
  obtain rfl : q = lev.length := by omega
  exact Gn (rs := [.cell 2 _]) (L' := L) (F' := fL o a1 k1 c1 :: fWh ws a9 k9 c9 :: F) Tryz.results121 (.agg (j := 1) rfl rfl rfl .nil) ((Gz (i := 0) rfl).trans (Sub.drop.trans (Sub.drop.trans (Sub.drop.trans (Gh (mem2 memA memA (fun x hx => by repeat (first | exact hx | refine List.mem_cons_of_mem _ ?_)))))))) (hO o ws a1 k1 c1 a9 k9 c9 hlk)
end
end Go.Sy
namespace Go.Sy
open Go Go.Proofs Go.RowKit
def hadX (t : Ty) (e : Ent) (s : List UInt8) (l : List SelV) (k : Nat) : List SelV := if t.kind = 6 then hadF t e s l k else l
theorem hadX_len {t : Ty} {e : Ent} {s : List UInt8} {l : List SelV} (k : Nat) : (hadX t e s l k).length ≤ l.length + k := by
  unfold hadX; split
  · exact hadF_len k
  omega
theorem hadX_no {t : Ty} {e : Ent} {s : List UInt8} {l : List SelV} {k : Nat} (hk : k < t.words.length) (h : ¬(t.kind = 6 ∧ fieldN t.words[k] = s)) : hadX t e s l (k + 1) = hadX t e s l k := by
  unfold hadX
  by_cases c : t.kind = 6
  · rw [if_pos c, if_pos c, hadF_no hk (fun e => h ⟨c, e⟩)]
  rw [if_neg c, if_neg c]
theorem hadX_yes {t : Ty} {e : Ent} {s : List UInt8} {l : List SelV} {k : Nat} (hk : k < t.words.length) (hkk : k < t.kids.length) (h6 : t.kind = 6) (h : fieldN t.words[k] = s) : hadX t e s l (k + 1) = hadX t e s l k ++ [⟨false, t.kids[k], false, e.via, e.path ++ [(k : Int)]⟩] := by
  unfold hadX
  rw [if_pos h6, if_pos h6, hadF_yes hk hkk h]
theorem hadX_all {T : List Ty} {w : Wht} {e : Ent} {s : List UInt8} {l : List SelV} {t : Ty} (ht : tyAt T w.under = t) : hadX t e s (l ++ hadM w e s w.ms.length) t.words.length = l ++ had1 T w e s [] := by
  rw [← had1_app]
  unfold hadX had1
  simp only
  rw [ht]
attribute [local irreducible] AC AT AO AK AH ACalls Sub Res.cells Res.obj Res.nix Res.own Res.map Exit.then Exit.inBlock bodyPost Code.wp Code.wpIn WL Next Post Kont
section
variable {W0 : World} {L : List Res} {F : List Fact} {R : Value → List Res → List Fact → Prop}
set_option maxRecDepth 100000
set_option maxHeartbeats 16000000
theorem rHad_c (T : List Ty) (hr : rightP T) (lev : List Ent) (p : Nat) (hp : p ≤ 900) (hl : levP T p lev) (ws : List Wht) (hlen : ws.length = lev.length) (hws : ∀ w ∈ ws, whP T w) (s : List UInt8) {a a2 a3 a4 a5 : Option Addr} {k c k2 c2 k3 c3 k4 c4 k5 c5 : Nat} {e0 : Int} (mL : fL T a k c ∈ F) (mV : fEn lev a3 k3 c3 ∈ F) (mW : fWh ws a4 k4 c4 ∈ F)
    (h : ∀ a k c, R (.slice a k c) L (fSl (foundN T lev ws s lev.length) a k c :: F)) :
    ACalls Tryz.prog W0 68 #[vL a k c a2 k2 c2 a3 k3 c3 a4 k4 c4 a5 k5 c5 e0, S s] L F R := by
  have hml : 1000000 ≤ maxLen := by decide
  have hlf := hl.few
  have hT4 := hr.2.1
  refine Gg Tryz.func68 HZ Tryz.ntmps68 HZ ?_
  refine qs 2 ?_
  refine Ga (GL HZ HZ (fun b2 => ?_))
  refine qs 5 ?_
  refine Ga (He HZ (fun b15 => ?_))
  refine GH (Hz (i := 0) (k := 0) (sz := 5) (enc := eSl) [] HZ .nil (fun _ => rfl) HZ (by decide)) ?_
  refine qs 8 ?_
  refine Ga (Gt HZ HZ (fun hl18 => ?_) (enc := eEn) (lst := lev) (hm := memA))
  refine qs 4 ?_
  refine GB (fun (x : Nat × Option Addr × Nat × Nat) => x.1 ≤ lev.length) (fun x => [(1, S s), (2, .pointer (some ⟨b2, 0, none⟩)), (5, .slice x.2.1 x.2.2.1 x.2.2.2), (17, .slice a3 k3 c3), (18, .int .i64 lev.length), (19, .int .i64 (x.1 : Int))]) (fun x => Res.own (.slice x.2.1 x.2.2.1 x.2.2.2) 47 5 ((foundN T lev ws s x.1).map eSl) :: _) (fun _ => _) (fun x => lev.length - x.1) (0, some ⟨b15, 0, none⟩, 0, 0) (Nat.zero_le _) srA (Gf _ _) ?_
  rintro ⟨q, a6, k6, c6⟩ hq
  simp only at hq ⊢
  refine qs 2 ?_
  refine Ga (Gw HZ HZ HZ (fun c20 => ?_) (fun c20 => ?_))
  ·refine qs 11 ?_
   have hql : q < lev.length := by omega
   have hqw : q < ws.length := by omega
   have hwq := hws _ (List.getElem_mem hqw)
   have hpt := (hl.1 _ (List.getElem_mem hql)).2
   obtain ⟨n, hn⟩ : ∃ n : Nat, ws[q].under = (n : Int) := ⟨ws[q].under.toNat, by have := hwq.1; omega⟩
   have hnl : n < T.length := by have := hwq.2.1; omega
   have hty : tyAt T ws[q].under = T[n] := by rw [hn]; exact HQ hnl
   have hok := Hj hr _ (List.getElem_mem hnl)
   have hwl := hok.words
   have hfq := foundN_len hr hlen hws (s := s) q Jb
   have h1l := had1_len hr hwq (e := lev[q]) (s := s) (l := [])
   have hstep := found_step (T := T) (s := s) hql hqw
   rw [hadE_rep] at hstep
   have hms := hwq.2.2
   simp only [List.length_nil] at h1l
   generalize hH : had1 T ws[q] lev[q] s [] = H at hstep h1l
   refine Ga (Gd HZ HZ HZ HZ (enc := eEn) (lst := lev) memA hql (fun _ _ => ?_))
   refine Ga (GN HZ HZ ?_)
   intro a23 k23 z23
   refine Ga (Gj HZ (fun b7 => ?_))
   refine qs 16 ?_
   refine AC.cond HZ (fun c25 => ?_) (fun c25 => ?_)
   ·refine qs 5 ?_
    refine GP (fun i => Nat.beq i 12) [(b2, _, _)] bxA HZ (fun hx hX => ?_)
    have hll := (Gu (hX (fL T a k c) memA)).1
    have hww := (Gu (hX (fWh ws a4 k4 c4) memA)).1
    obtain ⟨p0, o0, e0, at0⟩ := GA (hX (fWh ws a4 k4 c4) memA) hqw
    subst e0
    obtain ⟨v0, hv0, hc0⟩ := at0 0 _ rfl
    cases hc0
    obtain ⟨p1, o1, e1, at1⟩ := GA (hX (fL T a k c) memA) hnl
    subst e1
    obtain ⟨w1, x1, y1, w2, x2, y2, hv1, hw1, hw2⟩ := ty_cells at1
    refine Hx hw1 memA (Hx hw2 memA ?_)
    refine qt [0, 1, 2, 3, 4, 5] ?_
    refine GD (i := 6) HZ (GE (k := q) HZ HZ HZ Jb) Ja HZ HZ ?_
    refine qt [7] ?_
    refine GR (i := 8) HZ (Ho HZ hv0) Ja Ja HZ HZ HZ ?_
    refine GD (i := 9) HZ (GE (k := n) HZ HZ hn Jb) Ja HZ HZ ?_
    refine GR (i := 10) HZ (HN HZ HZ hv1) Ja Ja HZ HZ HZ ?_
    refine Gm (i := 11) Ja HZ HZ (fun _ => ?_)
    refine Gj HZ (fun b9 => ?_)
    refine Gi bxA memB ?_
    refine Gm (i := 12) Ja HZ HZ (fun _ => ?_)
    refine Gx HZ HZ HZ HZ ?_
    refine GC HZ ?_
    refine Gq Ja ?_
    refine qs 7 ?_
    refine GB (fun (x : Nat × Option Addr × Nat × Nat) => x.1 ≤ 2) (fun x => [(1, S s), (2, .pointer (some ⟨b2, 0, none⟩)), (5, .slice x.2.1 x.2.2.1 x.2.2.2), (6, .int .i64 (q : Int)), (7, .pointer (some ⟨b7, 0, none⟩)), (8, .int .i64 2), (9, .pointer (some ⟨b9, 0, none⟩)), (10, .int .i64 (x.1 : Int)), (17, .slice a3 k3 c3), (18, .int .i64 lev.length), (19, .int .i64 (q : Int))]) (fun x => _ :: _ :: Res.own (.slice x.2.1 x.2.2.1 x.2.2.2) 47 5 ((foundN T lev ws s q ++ repL H x.1).map eSl) :: _) (fun _ => _) (fun x => 2 - x.1) (0, a6, k6, c6) (Nat.zero_le _) srA (Hk (by simp only [repL, List.append_nil] <;> rfl)) ?_
    rintro ⟨r, a5', k5', c5'⟩ hr2
    simp only at hr2 ⊢
    refine qs 5 ?_
    refine Ga (Gw HZ HZ HZ (fun c39 => ?_) (fun c39 => ?_))
    ·refine qs 13 ?_
     have hrep := repL_len H r
     have hmul : r * H.length ≤ 80 := by
      have h1 : r ≤ 2 := by omega
      have h2 : H.length ≤ 40 := by omega
      calc r * H.length ≤ 2 * 40 := Nat.mul_le_mul h1 h2
        _ = 80 := rfl
     have hbl : (foundN T lev ws s q ++ repL H r).length ≤ 33000 := by rw [List.length_append]; omega
     generalize hB : foundN T lev ws s q ++ repL H r = B at hbl ⊢
     refine Ga (Gd HZ HZ HZ HZ (enc := eWh) (lst := ws) memA hqw (fun _ _ => ?_))
     refine Ga (Ha HZ HZ (fun _ => ?_))
     refine Ga (Gs HZ HZ ?_)
     intro a47 k47 z47
     refine Ga (Gt HZ HZ (fun hl48 => ?_) (enc := eMt) (lst := ws[q].ms) (hm := memA))
     refine qs 4 ?_
     refine GB (fun (x : Nat × Option Addr × Nat × Nat) => x.1 ≤ ws[q].ms.length) (fun x => [(1, S s), (2, .pointer (some ⟨b2, 0, none⟩)), (5, .slice x.2.1 x.2.2.1 x.2.2.2), (6, .int .i64 (q : Int)), (7, .pointer (some ⟨b7, 0, none⟩)), (8, _), (9, .pointer (some ⟨b9, 0, none⟩)), (10, .int .i64 (r : Int)), (17, .slice a3 k3 c3), (18, .int .i64 lev.length), (19, .int .i64 (q : Int)), (47, .slice a47 k47 z47), (48, .int .i64 ws[q].ms.length), (49, .int .i64 (x.1 : Int))]) (fun x => _ :: _ :: Res.own (.slice x.2.1 x.2.2.1 x.2.2.2) 47 5 ((B ++ hadM ws[q] lev[q] s x.1).map eSl) :: _) (fun _ => _) (fun x => ws[q].ms.length - x.1) (0, a5', k5', c5') (Nat.zero_le _) srA (Hk (by simp only [hadM, List.append_nil] <;> rfl)) ?_
     rintro ⟨v, a4', k4', c4'⟩ hv
     simp only at hv ⊢
     refine qs 2 ?_
     refine Ga (Gw HZ HZ HZ (fun c50 => ?_) (fun c50 => ?_))
     ·refine qs 10 ?_
      have hvl : v < ws[q].ms.length := by omega
      have hhl := hadM_len (w := ws[q]) (e := lev[q]) (s := s) v
      refine Ga (Gd HZ HZ HZ HZ (enc := eMt) (lst := ws[q].ms) memA hvl (fun _ _ => ?_))
      refine Ga (GN HZ HZ ?_)
      refine Ga (Gj HZ (fun b12 => ?_))
      refine qs 8 ?_
      refine Ga (Hi HZ HZ HZ (fun c56 => ?_) (fun c56 => ?_))
      ·refine qs 13 ?_
       refine Ga (GO HZ HZ HZ ?_)
       refine Ga (Gl HZ HZ HZ HZ HZ (fun b67 => ?_))
       refine Ga (GJ (i := 3) (enc := eSl) (lst := B ++ hadM ws[q] lev[q] s v) [⟨true, ws[q].ms[v].sig, ws[q].ms[v].ptr, lev[q].via, lev[q].path⟩] HZ HZ HZ HZ (.val (.val (.val (.val (.slc .nil memA))))) HZ HZ (fun _ => rfl) (by rw [List.length_append]; omega) (by rw [List.length_append]; omega) (fun a68 k68 c68 => ?_))
       rw [List.append_assoc, ← hadM_yes hvl c56]
       refine qs 8 ?_
       exact Gk (v + 1, a68, k68, c68) (by simp only; omega) (by simp only; omega) srA (Sub.drop.trans subF)
      refine qs 10 ?_
      refine Gk (v + 1, a4', k4', c4') (by simp only; omega) (by simp only; omega) srA ?_
      rw [hadM_no hvl c56]
      exact Sub.drop.trans subF
     refine qs 13 ?_
     obtain rfl : v = ws[q].ms.length := by omega
     have hhl := hadM_len (w := ws[q]) (e := lev[q]) (s := s) ws[q].ms.length
     refine Ga (Gt HZ HZ (fun hl72 => ?_) (enc := eS) (lst := T[n].words) (hm := memA))
     refine qs 4 ?_
     have hal := hadX_all (e := lev[q]) (s := s) (l := B) hty
     rw [hH] at hal
     have hB2 : (B ++ hadM ws[q] lev[q] s ws[q].ms.length).length ≤ 33100 := by rw [List.length_append]; omega
     generalize hB2e : B ++ hadM ws[q] lev[q] s ws[q].ms.length = B2 at hal hB2 ⊢
     refine GB (fun (x : Nat × Option Addr × Nat × Nat) => x.1 ≤ T[n].words.length) (fun x => [(1, S s), (2, .pointer (some ⟨b2, 0, none⟩)), (5, .slice x.2.1 x.2.2.1 x.2.2.2), (6, .int .i64 (q : Int)), (7, .pointer (some ⟨b7, 0, none⟩)), (8, _), (9, .pointer (some ⟨b9, 0, none⟩)), (10, .int .i64 (r : Int)), (17, .slice a3 k3 c3), (18, .int .i64 lev.length), (19, .int .i64 (q : Int)), (71, .slice w1 x1 y1), (72, .int .i64 T[n].words.length), (73, .int .i64 (x.1 : Int))]) (fun x => _ :: _ :: Res.own (.slice x.2.1 x.2.2.1 x.2.2.2) 47 5 ((hadX T[n] lev[q] s B2 x.1).map eSl) :: _) (fun _ => _) (fun x => T[n].words.length - x.1) (0, a4', k4', c4') (Nat.zero_le _) srA (Hk (by simp only [hadX, hadF, ite_self] <;> rfl)) ?_
     rintro ⟨j, a3', k3', c3'⟩ hj
     simp only at hj ⊢
     refine qs 2 ?_
     refine Ga (Gw HZ HZ HZ (fun c74 => ?_) (fun c74 => ?_))
     ·refine qs 11 ?_
      have hjl : j < T[n].words.length := by omega
      have hxl := hadX_len (t := T[n]) (e := lev[q]) (s := s) (l := B2) j
      refine Ga (Gd HZ HZ HZ HZ (enc := eS) (lst := T[n].words) memA hjl (fun _ _ => ?_))
      refine Ga (Gs HZ HZ ?_)
      intros
      refine qs 8 ?_
      refine Ga (Gr HZ HZ HZ (fun c80 => ?_) (fun c80 => ?_))
      ·refine qs 2 ?_
       refine Gc HZ HZ (Ge HZ HZ (sfieldR_c T[n].words[j] (hok.word _ (List.getElem_mem hjl)) ?_))
       refine qs 1 ?_
       refine Gc HZ HZ (Hi HZ HZ HZ (fun c85 => ?_) (fun c85 => ?_))
       ·refine qs 4 ?_
        refine GP (fun _ => false) [(b9, _, _), (b7, _, _)] bxA HZ (fun hx hX => ?_)
        have hst := struct_of hr hnl c80
        have hjk : j < T[n].kids.length := by omega
        have hkk := (Gu (hX (fK T[n] w2 x2 y2) memA)).1
        obtain ⟨p2, o2, e2, atq⟩ := GA (hX (fK T[n] w2 x2 y2) memA) hjk
        subst e2
        obtain ⟨vq, hvq, hcq⟩ := atq 0 _ rfl
        cases hcq
        refine qt [0, 1, 2, 3] ?_
        refine GD (i := 4) HZ (GE (k := j) HZ HZ HZ Jb) Ja HZ HZ ?_
        refine GR (i := 5) HZ (Ho HZ hvq) Ja Ja HZ HZ HZ ?_
        refine qt [6, 7, 8, 9, 10] ?_
        refine Gm (i := 11) Ja HZ HZ (fun _ => ?_)
        refine Ge HZ HZ (rwithp_c lev[q].path (j : Int) Jb (show fI lev[q].path _ _ _ ∈ _ from memA) (fun a98 k98 c98 => ?_))
        refine Gi bxA memB ?_
        refine qt [12] ?_
        refine Gm (i := 13) Ja HZ HZ (fun _ => ?_)
        refine Gl HZ HZ HZ HZ HZ (fun b100 => ?_)
        refine Gi bxA memB ?_
        refine Gm (i := 14) Ja HZ HZ (fun _ => ?_)
        refine GJ (i := 2) (enc := eSl) (lst := hadX T[n] lev[q] s B2 j) [⟨false, T[n].kids[j], false, lev[q].via, lev[q].path ++ [(j : Int)]⟩] HZ HZ HZ HZ (.val (.val (.val (.val (.slc .nil memA))))) HZ HZ (fun _ => rfl) Jb Jb (fun a101 k101 c101 => ?_)
        rw [← hadX_yes hjl hjk c80 c85]
        refine Gi bxA memB ?_
        refine qt [15] ?_
        refine Gq Ja ?_
        refine qs 6 ?_
        exact Gk (j + 1, a101, k101, c101) (by simp only; omega) (by simp only; omega) srA subF
       refine qs 11 ?_
       refine Gk (j + 1, a3', k3', c3') (by simp only; omega) (by simp only; omega) srA ?_
       rw [hadX_no hjl (fun e => c85 e.2)]
       exact subF
      refine qs 16 ?_
      refine Gk (j + 1, a3', k3', c3') (by simp only; omega) (by simp only; omega) srA ?_
      rw [hadX_no hjl (fun e => c80 e.1)]
      exact subF
     refine qs 12 ?_
     obtain rfl : j = T[n].words.length := by omega
     rw [hal, ← hB, List.append_assoc]
     refine Ga (AO.add HZ HZ HZ Jb Jb ?_)
     refine qs 2 ?_
     exact Gk (r + 1, a3', k3', c3') (by simp only; omega) (by simp only; omega) srA subF
    refine qs 13 ?_
    obtain rfl : r = (if lev[q].many = true then 2 else 1) := by first | (rw [if_pos c25]; omega) | (rw [if_neg (by simp [c25])]; omega)
    refine Gk (q + 1, a5', k5', c5') (by simp only; omega) (by simp only; omega) srA ?_
    rw [hstep]
    exact Sub.drop.trans (Sub.drop.trans subF)
   refine qs 3 ?_
   refine GP (fun i => Nat.beq i 12) [(b2, _, _)] bxA HZ (fun hx hX => ?_)
   have hll := (Gu (hX (fL T a k c) memA)).1
   have hww := (Gu (hX (fWh ws a4 k4 c4) memA)).1
   obtain ⟨p0, o0, e0, at0⟩ := GA (hX (fWh ws a4 k4 c4) memA) hqw
   subst e0
   obtain ⟨v0, hv0, hc0⟩ := at0 0 _ rfl
   cases hc0
   obtain ⟨p1, o1, e1, at1⟩ := GA (hX (fL T a k c) memA) hnl
   subst e1
   obtain ⟨w1, x1, y1, w2, x2, y2, hv1, hw1, hw2⟩ := ty_cells at1
   refine Hx hw1 memA (Hx hw2 memA ?_)
   refine qt [0, 1, 2, 3, 4, 5] ?_
   refine GD (i := 6) HZ (GE (k := q) HZ HZ HZ Jb) Ja HZ HZ ?_
   refine qt [7] ?_
   refine GR (i := 8) HZ (Ho HZ hv0) Ja Ja HZ HZ HZ ?_
   refine GD (i := 9) HZ (GE (k := n) HZ HZ hn Jb) Ja HZ HZ ?_
   refine GR (i := 10) HZ (HN HZ HZ hv1) Ja Ja HZ HZ HZ ?_
   refine Gm (i := 11) Ja HZ HZ (fun _ => ?_)
   refine Gj HZ (fun b9 => ?_)
   refine Gi bxA memB ?_
   refine Gm (i := 12) Ja HZ HZ (fun _ => ?_)
   refine Gx HZ HZ HZ HZ ?_
   refine GC HZ ?_
   refine Gq Ja ?_
   refine qs 7 ?_
   refine GB (fun (x : Nat × Option Addr × Nat × Nat) => x.1 ≤ 1) (fun x => [(1, S s), (2, .pointer (some ⟨b2, 0, none⟩)), (5, .slice x.2.1 x.2.2.1 x.2.2.2), (6, .int .i64 (q : Int)), (7, .pointer (some ⟨b7, 0, none⟩)), (8, .int .i64 1), (9, .pointer (some ⟨b9, 0, none⟩)), (10, .int .i64 (x.1 : Int)), (17, .slice a3 k3 c3), (18, .int .i64 lev.length), (19, .int .i64 (q : Int))]) (fun x => _ :: _ :: Res.own (.slice x.2.1 x.2.2.1 x.2.2.2) 47 5 ((foundN T lev ws s q ++ repL H x.1).map eSl) :: _) (fun _ => _) (fun x => 1 - x.1) (0, a6, k6, c6) (Nat.zero_le _) srA (Hk (by simp only [repL, List.append_nil] <;> rfl)) ?_
   rintro ⟨r, a5', k5', c5'⟩ hr2
   simp only at hr2 ⊢
   refine qs 5 ?_
   refine Ga (Gw HZ HZ HZ (fun c39 => ?_) (fun c39 => ?_))
   ·refine qs 13 ?_
    have hrep := repL_len H r
    have hmul : r * H.length ≤ 80 := by
     have h1 : r ≤ 2 := by omega
     have h2 : H.length ≤ 40 := by omega
     calc r * H.length ≤ 2 * 40 := Nat.mul_le_mul h1 h2
       _ = 80 := rfl
    have hbl : (foundN T lev ws s q ++ repL H r).length ≤ 33000 := by rw [List.length_append]; omega
    generalize hB : foundN T lev ws s q ++ repL H r = B at hbl ⊢
    refine Ga (Gd HZ HZ HZ HZ (enc := eWh) (lst := ws) memA hqw (fun _ _ => ?_))
    refine Ga (Ha HZ HZ (fun _ => ?_))
    refine Ga (Gs HZ HZ ?_)
    intro a47 k47 z47
    refine Ga (Gt HZ HZ (fun hl48 => ?_) (enc := eMt) (lst := ws[q].ms) (hm := memA))
    refine qs 4 ?_
    refine GB (fun (x : Nat × Option Addr × Nat × Nat) => x.1 ≤ ws[q].ms.length) (fun x => [(1, S s), (2, .pointer (some ⟨b2, 0, none⟩)), (5, .slice x.2.1 x.2.2.1 x.2.2.2), (6, .int .i64 (q : Int)), (7, .pointer (some ⟨b7, 0, none⟩)), (8, _), (9, .pointer (some ⟨b9, 0, none⟩)), (10, .int .i64 (r : Int)), (17, .slice a3 k3 c3), (18, .int .i64 lev.length), (19, .int .i64 (q : Int)), (47, .slice a47 k47 z47), (48, .int .i64 ws[q].ms.length), (49, .int .i64 (x.1 : Int))]) (fun x => _ :: _ :: Res.own (.slice x.2.1 x.2.2.1 x.2.2.2) 47 5 ((B ++ hadM ws[q] lev[q] s x.1).map eSl) :: _) (fun _ => _) (fun x => ws[q].ms.length - x.1) (0, a5', k5', c5') (Nat.zero_le _) srA (Hk (by simp only [hadM, List.append_nil] <;> rfl)) ?_
    rintro ⟨v, a4', k4', c4'⟩ hv
    simp only at hv ⊢
    refine qs 2 ?_
    refine Ga (Gw HZ HZ HZ (fun c50 => ?_) (fun c50 => ?_))
    ·refine qs 10 ?_
     have hvl : v < ws[q].ms.length := by omega
     have hhl := hadM_len (w := ws[q]) (e := lev[q]) (s := s) v
     refine Ga (Gd HZ HZ HZ HZ (enc := eMt) (lst := ws[q].ms) memA hvl (fun _ _ => ?_))
     refine Ga (GN HZ HZ ?_)
     refine Ga (Gj HZ (fun b12 => ?_))
     refine qs 8 ?_
     refine Ga (Hi HZ HZ HZ (fun c56 => ?_) (fun c56 => ?_))
     ·refine qs 13 ?_
      refine Ga (GO HZ HZ HZ ?_)
      refine Ga (Gl HZ HZ HZ HZ HZ (fun b67 => ?_))
      refine Ga (GJ (i := 3) (enc := eSl) (lst := B ++ hadM ws[q] lev[q] s v) [⟨true, ws[q].ms[v].sig, ws[q].ms[v].ptr, lev[q].via, lev[q].path⟩] HZ HZ HZ HZ (.val (.val (.val (.val (.slc .nil memA))))) HZ HZ (fun _ => rfl) (by rw [List.length_append]; omega) (by rw [List.length_append]; omega) (fun a68 k68 c68 => ?_))
      rw [List.append_assoc, ← hadM_yes hvl c56]
      refine qs 8 ?_
      exact Gk (v + 1, a68, k68, c68) (by simp only; omega) (by simp only; omega) srA (Sub.drop.trans subF)
     refine qs 10 ?_
     refine Gk (v + 1, a4', k4', c4') (by simp only; omega) (by simp only; omega) srA ?_
     rw [hadM_no hvl c56]
     exact Sub.drop.trans subF
    refine qs 13 ?_
    obtain rfl : v = ws[q].ms.length := by omega
    have hhl := hadM_len (w := ws[q]) (e := lev[q]) (s := s) ws[q].ms.length
    refine Ga (Gt HZ HZ (fun hl72 => ?_) (enc := eS) (lst := T[n].words) (hm := memA))
    refine qs 4 ?_
    have hal := hadX_all (e := lev[q]) (s := s) (l := B) hty
    rw [hH] at hal
    have hB2 : (B ++ hadM ws[q] lev[q] s ws[q].ms.length).length ≤ 33100 := by rw [List.length_append]; omega
    generalize hB2e : B ++ hadM ws[q] lev[q] s ws[q].ms.length = B2 at hal hB2 ⊢
    refine GB (fun (x : Nat × Option Addr × Nat × Nat) => x.1 ≤ T[n].words.length) (fun x => [(1, S s), (2, .pointer (some ⟨b2, 0, none⟩)), (5, .slice x.2.1 x.2.2.1 x.2.2.2), (6, .int .i64 (q : Int)), (7, .pointer (some ⟨b7, 0, none⟩)), (8, _), (9, .pointer (some ⟨b9, 0, none⟩)), (10, .int .i64 (r : Int)), (17, .slice a3 k3 c3), (18, .int .i64 lev.length), (19, .int .i64 (q : Int)), (71, .slice w1 x1 y1), (72, .int .i64 T[n].words.length), (73, .int .i64 (x.1 : Int))]) (fun x => _ :: _ :: Res.own (.slice x.2.1 x.2.2.1 x.2.2.2) 47 5 ((hadX T[n] lev[q] s B2 x.1).map eSl) :: _) (fun _ => _) (fun x => T[n].words.length - x.1) (0, a4', k4', c4') (Nat.zero_le _) srA (Hk (by simp only [hadX, hadF, ite_self] <;> rfl)) ?_
    rintro ⟨j, a3', k3', c3'⟩ hj
    simp only at hj ⊢
    refine qs 2 ?_
    refine Ga (Gw HZ HZ HZ (fun c74 => ?_) (fun c74 => ?_))
    ·refine qs 11 ?_
     have hjl : j < T[n].words.length := by omega
     have hxl := hadX_len (t := T[n]) (e := lev[q]) (s := s) (l := B2) j
     refine Ga (Gd HZ HZ HZ HZ (enc := eS) (lst := T[n].words) memA hjl (fun _ _ => ?_))
     refine Ga (Gs HZ HZ ?_)
     intros
     refine qs 8 ?_
     refine Ga (Gr HZ HZ HZ (fun c80 => ?_) (fun c80 => ?_))
     ·refine qs 2 ?_
      refine Gc HZ HZ (Ge HZ HZ (sfieldR_c T[n].words[j] (hok.word _ (List.getElem_mem hjl)) ?_))
      refine qs 1 ?_
      refine Gc HZ HZ (Hi HZ HZ HZ (fun c85 => ?_) (fun c85 => ?_))
      ·refine qs 4 ?_
       refine GP (fun _ => false) [(b9, _, _), (b7, _, _)] bxA HZ (fun hx hX => ?_)
       have hst := struct_of hr hnl c80
       have hjk : j < T[n].kids.length := by omega
       have hkk := (Gu (hX (fK T[n] w2 x2 y2) memA)).1
       obtain ⟨p2, o2, e2, atq⟩ := GA (hX (fK T[n] w2 x2 y2) memA) hjk
       subst e2
       obtain ⟨vq, hvq, hcq⟩ := atq 0 _ rfl
       cases hcq
       refine qt [0, 1, 2, 3] ?_
       refine GD (i := 4) HZ (GE (k := j) HZ HZ HZ Jb) Ja HZ HZ ?_
       refine GR (i := 5) HZ (Ho HZ hvq) Ja Ja HZ HZ HZ ?_
       refine qt [6, 7, 8, 9, 10] ?_
       refine Gm (i := 11) Ja HZ HZ (fun _ => ?_)
       refine Ge HZ HZ (rwithp_c lev[q].path (j : Int) Jb (show fI lev[q].path _ _ _ ∈ _ from memA) (fun a98 k98 c98 => ?_))
       refine Gi bxA memB ?_
       refine qt [12] ?_
       refine Gm (i := 13) Ja HZ HZ (fun _ => ?_)
       refine Gl HZ HZ HZ HZ HZ (fun b100 => ?_)
       refine Gi bxA memB ?_
       refine Gm (i := 14) Ja HZ HZ (fun _ => ?_)
       refine GJ (i := 2) (enc := eSl) (lst := hadX T[n] lev[q] s B2 j) [⟨false, T[n].kids[j], false, lev[q].via, lev[q].path ++ [(j : Int)]⟩] HZ HZ HZ HZ (.val (.val (.val (.val (.slc .nil memA))))) HZ HZ (fun _ => rfl) Jb Jb (fun a101 k101 c101 => ?_)
       rw [← hadX_yes hjl hjk c80 c85]
       refine Gi bxA memB ?_
       refine qt [15] ?_
       refine Gq Ja ?_
       refine qs 6 ?_
       exact Gk (j + 1, a101, k101, c101) (by simp only; omega) (by simp only; omega) srA subF
      refine qs 11 ?_
      refine Gk (j + 1, a3', k3', c3') (by simp only; omega) (by simp only; omega) srA ?_
      rw [hadX_no hjl (fun e => c85 e.2)]
      exact subF
     refine qs 16 ?_
     refine Gk (j + 1, a3', k3', c3') (by simp only; omega) (by simp only; omega) srA ?_
     rw [hadX_no hjl (fun e => c80 e.1)]
     exact subF
    refine qs 12 ?_
    obtain rfl : j = T[n].words.length := by omega
    rw [hal, ← hB, List.append_assoc]
    refine Ga (AO.add HZ HZ HZ Jb Jb ?_)
    refine qs 2 ?_
    exact Gk (r + 1, a3', k3', c3') (by simp only; omega) (by simp only; omega) srA subF
   refine qs 13 ?_
   obtain rfl : r = (if lev[q].many = true then 2 else 1) := by first | (rw [if_pos c25]; omega) | (rw [if_neg (by simp [c25])]; omega)
   refine Gk (q + 1, a5', k5', c5') (by simp only; omega) (by simp only; omega) srA ?_
   rw [hstep]
   exact Sub.drop.trans (Sub.drop.trans subF)
  refine qs 16 ?_
  obtain rfl : q = lev.length := by omega
  exact Gb (L' := L) (F' := fSl (foundN T lev ws s lev.length) a6 k6 c6 :: F) Tryz.results68 rfl ((Gz (i := 0) rfl).trans (Sub.drop.trans (Sub.drop.trans (GX (fun x hx => by repeat (first | exact hx | refine List.mem_cons_of_mem _ ?_)))))) (h _ _ _)
end
end Go.Sy
namespace Go.Sy
open Go Go.Proofs Go.RowKit
theorem plus_ne {w : List UInt8} (h0 : 0 < w.length) : plusW w = true ↔ ((w[0].toNat : Nat) : Int) = 43 := by
  cases w with
  | nil => simp at h0
  | cons y ys =>
    simp only [plusW, List.head?_cons, List.getElem_cons_zero]
    constructor
    · intro h
      have h2 : some y = some 43 := eq_of_beq h
      injection h2 with h2
      subst h2; rfl
    intro h
    have : y = 43 := UInt8.toNat_inj.1 (by simpa using Int.ofNat_inj.1 h)
    subst this; rfl
def innX (T : List Ty) (e : Ent) (t : Ty) (seen : List Int) (out : List Ent) (k : Nat) : List Ent := if t.kind = 6 then innerN T e t seen out k else out
theorem innX_no {T : List Ty} {e : Ent} {t : Ty} {seen : List Int} {out : List Ent} {k : Nat} (h : t.kind ≠ 6) : innX T e t seen out (k + 1) = innX T e t seen out k := by unfold innX; rw [if_neg h, if_neg h]
theorem innX_skip {T : List Ty} {e : Ent} {t : Ty} {seen : List Int} {out : List Ent} {k : Nat} (h6 : t.kind = 6) (hk : k < t.words.length) (h : ¬ plusW t.words[k] = true) : innX T e t seen out (k + 1) = innX T e t seen out k := by unfold innX; rw [if_pos h6, if_pos h6, inner_no hk h]
theorem innX_yes {T : List Ty} {e : Ent} {t : Ty} {seen : List Int} {out : List Ent} {k : Nat} {x : Ent} (h6 : t.kind = 6) (hk : k < t.words.length) (h : plusW t.words[k] = true) (hx : entE T e t k = x) : innX T e t seen out (k + 1) = addE (innX T e t seen out k) seen x := by unfold innX; rw [if_pos h6, if_pos h6, inner_yes hk h hx]
theorem outer_x {T : List Ty} {lev : List Ent} {ws : List Wht} {seen : List Int} {q n : Nat} (hq : q < ws.length) (hql : q < lev.length) (hn : ws[q].under = (n : Int)) (hnl : n < T.length) : outerN T lev ws seen (q + 1) = innX T lev[q] T[n] seen (outerN T lev ws seen q) T[n].words.length := by
  unfold innX
  by_cases c : T[n].kind = 6
  · rw [if_pos c]; exact outer_yes hq hql hn hnl c
  rw [if_neg c]; exact outer_no hq hn hnl c
def docP (r : Except Int (List Ty × List Ent × List Wht × List Int)) (T : List Ty) (lev : List Ent) (ws : List Wht) (seen : List Int) (e : Int) : Prop := (e ≠ 0 ∧ r = .error e) ∨ (e = 0 ∧ r = .ok (T, lev, ws, seen))
theorem docL_err {N : List Nmd} {T : List Ty} {lev : List Ent} {seen : List Int} {e : Int} (h : looksR N T lev lev.length = .error e) : docL N T lev seen = .error e := by unfold docL; rw [h]
theorem docL_ok {N : List Nmd} {T o : List Ty} {lev : List Ent} {ws : List Wht} {seen : List Int} (h : looksR N T lev lev.length = .ok (o, ws)) : docL N T lev seen = .ok (o, lev, ws, seen) := by unfold docL; rw [h]
attribute [local irreducible] AC AT AO AK AH ACalls Sub Res.cells Res.obj Res.nix Res.own Res.map Exit.then Exit.inBlock bodyPost Code.wp Code.wpIn WL Next Post Kont
section
variable {W0 : World} {L : List Res} {F : List Fact} {R : Value → List Res → List Fact → Prop}
set_option maxRecDepth 100000
set_option maxHeartbeats 16000000
theorem rNext_c (T : List Ty) (N : List Nmd) (hu : rightU T N) (lev : List Ent) (p : Nat) (hp : p ≤ 900) (hl : levP T p lev) (ws : List Wht) (hlen : ws.length = lev.length) (hws : ∀ w ∈ ws, whP T w) (seen : List Int) (hse : seen.length ≤ 100000) {a a2 a3 a4 a5 : Option Addr} {k c k2 c2 k3 c3 k4 c4 k5 c5 : Nat} {e0 : Int} (mL : fL T a k c ∈ F) (mN : fN N a2 k2 c2 ∈ F) (mV : fEn lev a3 k3 c3 ∈ F) (mW : fWh ws a4 k4 c4 ∈ F) (mS : fI seen a5 k5 c5 ∈ F) (mE : Fact.slc (.slice none 0 0) 5 [] ∈ F)
    (h : ∀ T1 lev1 ws1 seen1 a k c an kn cn a3 k3 c3 a4 k4 c4 a5 k5 c5 e, docP (docL N T (nextL T lev ws seen) (seen ++ typs (nextL T lev ws seen))) T1 lev1 ws1 seen1 e → (e = 0 → an = a2 ∧ kn = k2 ∧ cn = c2) → R (vL a k c an kn cn a3 k3 c3 a4 k4 c4 a5 k5 c5 e) L (fL T1 a k c :: fEn lev1 a3 k3 c3 :: fWh ws1 a4 k4 c4 :: fI seen1 a5 k5 c5 :: F)) :
    ACalls Tryz.prog W0 69 #[vL a k c a2 k2 c2 a3 k3 c3 a4 k4 c4 a5 k5 c5 e0] L F R := by
  have hml : 1000000 ≤ maxLen := by decide
  have hlf := hl.few
  have hT4 := hu.1.2.1
  have hr := hu.1
  refine Hm ((Hr (sz := 4)).trans ((Hr (sz := 2)).trans (Hr (sz := 1)))) ?_
  refine Gg Tryz.func69 HZ Tryz.ntmps69 HZ ?_
  refine qs 2 ?_
  refine Ga (GL HZ HZ (fun b1 => (Ga (Gj HZ (fun b2 => ?_)))))
  refine qs 4 ?_
  refine Ga (He HZ (fun b14 => ?_))
  refine GH (GI (Hg (i := 0) (enc := eEn) (sz := 4) ([] : List Ent) HZ .nil (fun _ => rfl) HZ (by decide)) Gv) ?_
  refine qs 8 ?_
  refine Ga (Gt HZ HZ (fun hl17 => ?_) (enc := eEn) (lst := lev) (hm := (show fEn lev a3 k3 c3 ∈ _ from memA)))
  refine qs 4 ?_
  refine GB (fun (x : Nat × List Ent × (Option Addr × Nat × Nat)) => x.1 ≤ lev.length ∧ x.2.1 = outerN T lev ws seen x.1) (fun x => [(1, .pointer (some ⟨b1, 0, none⟩)), (2, .pointer (some ⟨b2, 0, none⟩)), (3, .slice x.2.2.1 x.2.2.2.1 x.2.2.2.2), (16, .slice a3 k3 c3), (17, .int .i64 lev.length), (18, .int .i64 (x.1 : Int))]) (fun _ => _) (fun x => fEn x.2.1 x.2.2.1 x.2.2.2.1 x.2.2.2.2 :: _) (fun x => lev.length - x.1) (0, [], (some ⟨b14, 0, none⟩, 0, 0)) ⟨Nat.zero_le _, rfl⟩ srA (Gh (mem1 memA (fun x hx => hx))) ?_
  rintro ⟨q, out, ⟨a9, k9, c9⟩⟩ ⟨hq, hout⟩
  simp only at hq hout ⊢
  refine qs 2 ?_
  refine Ga (Gw HZ HZ HZ (fun c19 => ?_) (fun c19 => ?_))
  ·refine qs 11 ?_
   have hql : q < lev.length := by omega
   have hqw : q < ws.length := by omega
   have hwq := hws _ (List.getElem_mem hqw)
   have hpt := (hl.1 _ (List.getElem_mem hql)).2
   obtain ⟨n, hn⟩ : ∃ n : Nat, ws[q].under = (n : Int) := ⟨ws[q].under.toNat, by have := hwq.1; omega⟩
   have hnl : n < T.length := by have := hwq.2.1; omega
   have hok := Hj hr _ (List.getElem_mem hnl)
   have hrt := GT hr hnl
   have hkin : ∀ x ∈ T[n].kids, 0 ≤ x ∧ x < T.length := fun x hx => by have := hrt.kids x hx; omega
   have hlo : levP T (p + 1) out := hout ▸ outerN_ok (seen := seen) hr hl hlen hws q Jb
   refine Ga (Gd HZ HZ HZ HZ (enc := eEn) (lst := lev) (show fEn lev a3 k3 c3 ∈ _ from memA) hql (fun _ _ => ?_))
   refine Ga (GN HZ HZ ?_)
   intro a22 k22 z22
   refine Ga (Gj HZ (fun b5 => ?_))
   refine qs 5 ?_
   refine GP (fun i => Nat.beq i 12) [(b1, _, _)] bxA HZ (fun hx hX => ?_)
   have hll := (Gu (hX (fL T a k c) memA)).1
   have hww := (Gu (hX (fWh ws a4 k4 c4) memA)).1
   obtain ⟨p0, o0, e0, at0⟩ := GA (hX (fWh ws a4 k4 c4) memA) hqw
   subst e0
   obtain ⟨v0, hv0, hc0⟩ := at0 0 _ rfl
   cases hc0
   obtain ⟨p1, o1, e1, at1⟩ := GA (hX (fL T a k c) memA) hnl
   subst e1
   obtain ⟨w1, x1, y1, w2, x2, y2, hv1, hw1, hw2⟩ := ty_cells at1
   refine Hx hw1 memA (Hx hw2 memA ?_)
   refine qt [0, 1, 2, 3, 4, 5] ?_
   refine GD (i := 6) HZ (GE (k := q) HZ HZ HZ Jb) Ja HZ HZ ?_
   refine qt [7] ?_
   refine GR (i := 8) HZ (Ho HZ hv0) Ja Ja HZ HZ HZ ?_
   refine GD (i := 9) HZ (GE (k := n) HZ HZ hn Jb) Ja HZ HZ ?_
   refine GR (i := 10) HZ (HN HZ HZ hv1) Ja Ja HZ HZ HZ ?_
   refine Gm (i := 11) Ja HZ HZ (fun _ => ?_)
   refine Gj HZ (fun b6 => ?_)
   refine Gi bxA memB ?_
   refine Gm (i := 12) Ja HZ HZ (fun _ => ?_)
   refine Gx HZ HZ HZ HZ ?_
   refine GC HZ ?_
   refine Gq Ja ?_
   refine qs 5 ?_
   refine Ga (Gt HZ HZ (fun hl36 => ?_) (enc := eS) (lst := T[n].words) (hm := memA))
   refine qs 4 ?_
   refine GB (fun (x : Nat × List Ent × (Option Addr × Nat × Nat)) => x.1 ≤ T[n].words.length ∧ x.2.1 = innX T lev[q] T[n] seen out x.1 ∧ levP T (p + 1) x.2.1) (fun x => [(1, .pointer (some ⟨b1, 0, none⟩)), (2, .pointer (some ⟨b2, 0, none⟩)), (3, .slice x.2.2.1 x.2.2.2.1 x.2.2.2.2), (5, .pointer (some ⟨b5, 0, none⟩)), (6, .pointer (some ⟨b6, 0, none⟩)), (16, .slice a3 k3 c3), (17, .int .i64 lev.length), (18, .int .i64 (q : Int)), (35, .slice w1 x1 y1), (36, .int .i64 T[n].words.length), (37, .int .i64 (x.1 : Int))]) (fun _ => _) (fun x => fEn x.2.1 x.2.2.1 x.2.2.2.1 x.2.2.2.2 :: _) (fun x => T[n].words.length - x.1) (0, out, (a9, k9, c9)) ⟨Nat.zero_le _, by simp only [innX, innerN, ite_self], hlo⟩ srA (Gh (mem1 memA (fun x hx => hx))) ?_
   rintro ⟨j, ou, ⟨a8, k8, c8⟩⟩ ⟨hj, hou, hlu⟩
   simp only at hj hou hlu ⊢
   refine qs 2 ?_
   refine Ga (Gw HZ HZ HZ (fun c38 => ?_) (fun c38 => ?_))
   ·refine qs 11 ?_
    have hjl : j < T[n].words.length := by omega
    have hof := hlu.few
    refine Ga (Gd HZ HZ HZ HZ (enc := eS) (lst := T[n].words) memA hjl (fun _ _ => ?_))
    refine Ga (Gs HZ HZ ?_)
    intros
    refine qs 9 ?_
    refine Ga (GG HZ HZ HZ (fun c44 => ?_) (fun c44 => ?_))
    ·refine qs 16 ?_
     exact Gk (j + 1, ou, (a8, k8, c8)) ⟨by simp only; omega, by simp only; rw [innX_no c44]; exact hou, hlu⟩ (by simp only; omega) srA (Gh (mem1 memA (fun x hx => by repeat (first | exact hx | refine List.mem_cons_of_mem _ ?_))))
    refine qs 2 ?_
    have hst := struct_of hr hnl c44
    have hw0 : 0 < T[n].words[j].length := List.length_pos_iff.2 (field_ne hst.2 hjl)
    refine Gc HZ HZ (HF HZ HZ HZ HZ hw0 ?_)
    have hjk : j < T[n].kids.length := by omega
    have hkj := hkin _ (List.getElem_mem hjk)
    obtain ⟨y, hy⟩ : ∃ y : Nat, T[n].kids[j] = (y : Int) := ⟨T[n].kids[j].toNat, by omega⟩
    have hyl : y < T.length := by omega
    refine Gc HZ HZ (GG HZ HZ HZ (fun c48 => ?_) (fun c48 => ?_))
    ·refine qs 12 ?_
     exact Gk (j + 1, ou, (a8, k8, c8)) ⟨by simp only; omega, by simp only; rw [innX_skip c44 hjl (fun e => c48 ((plus_ne hw0).1 e))]; exact hou, hlu⟩ (by simp only; omega) srA (Gh (mem1 memA (fun x hx => by repeat (first | exact hx | refine List.mem_cons_of_mem _ ?_))))
    refine qs 7 ?_
    refine AC.cut (fun (x : Nat × Option Addr × Nat × Nat) ρ => (9, .pointer (some ⟨x.1, 0, none⟩)) :: ρ) (fun x L => Res.cells x.1 #[.int .i64 (y : Int), .bool lev[q].via, .bool lev[q].many, .slice x.2.1 x.2.2.1 x.2.2.2] 186 :: L) (fun x F => fI (lev[q].path ++ [(j : Int)]) x.2.1 x.2.2.1 x.2.2.2 :: F) ?_ (fun key => ?_)
    ·rintro ⟨b9, a62, k62, c62⟩
     refine qs 8 ?_
     refine Ga (Gd (k := y) HZ HZ HZ HZ (show fL T _ _ _ ∈ _ from memA) hyl (fun _ _ => ?_))
     refine Ga (GN HZ HZ ?_)
     intro a70 k70 z70 d70 e70 f70
     refine Ga (Gj HZ (fun b10 => ?_))
     refine qs 8 ?_
     refine Ga (Gr HZ HZ HZ (fun c73 => ?_) (fun c73 => ?_))
     ·refine qs 7 ?_
      have hk1 := ptr_of hr hyl c73
      have hk0 : 0 < T[y].kids.length := by omega
      refine Ga (Gd (k := 0) HZ HZ HZ HZ (show fK T[y] _ _ _ ∈ _ from memA) hk0 (fun _ _ => ?_))
      refine Ga (Gs HZ HZ ?_)
      intros
      refine qs 14 ?_
      have hx := ent_ptr (e := lev[q]) hjk hy hyl c73 hk0
      have hxk := entE_ok hr (e := lev[q]) hpt hjk hkin
      rw [hx] at hxk
      refine Ga (Ge HZ HZ (saddR_c ou Jb seen ⟨T[y].kids[0], true, lev[q].many, lev[q].path ++ [(j : Int)]⟩ memA memA memA (fun a84 k84 c84 => ?_)))
      refine qs 8 ?_
      exact Gk (j + 1, addE ou seen _, (a84, k84, c84)) ⟨by simp only; omega, by simp only; rw [innX_yes c44 hjl ((plus_ne hw0).2 c48) hx, ← hou], addE_ok hlu hxk⟩ (by simp only; omega) srA (Sub.drop.trans (Sub.drop.trans (Gh (mem1 memA (fun x hx => by repeat (first | exact hx | refine List.mem_cons_of_mem _ ?_))))))
     refine qs 10 ?_
     have hx := ent_not (e := lev[q]) hjk hy hyl c73
     have hxk := entE_ok hr (e := lev[q]) hpt hjk hkin
     rw [hx] at hxk
     refine Ga (Ge HZ HZ (saddR_c ou Jb seen ⟨(y : Int), lev[q].via, lev[q].many, lev[q].path ++ [(j : Int)]⟩ memA memA memA (fun a84 k84 c84 => ?_)))
     refine qs 8 ?_
     exact Gk (j + 1, addE ou seen _, (a84, k84, c84)) ⟨by simp only; omega, by simp only; rw [innX_yes c44 hjl ((plus_ne hw0).2 c48) hx, ← hou], addE_ok hlu hxk⟩ (by simp only; omega) srA (Sub.drop.trans (Sub.drop.trans (Gh (mem1 memA (fun x hx => by repeat (first | exact hx | refine List.mem_cons_of_mem _ ?_))))))
    refine GP (fun i => Nat.beq i 15) [(b6, _, _), (b5, _, _)] bxA HZ (fun hx hX => ?_)
    have hkk := (Gu (hX (fK T[n] w2 x2 y2) memA)).1
    obtain ⟨p2, o2, e2, atq⟩ := GA (hX (fK T[n] w2 x2 y2) memA) hjk
    subst e2
    obtain ⟨vq, hvq, hcq⟩ := atq 0 _ rfl
    cases hcq
    rw [hy] at hvq
    refine qt [0, 1, 2] ?_
    refine GD (i := 3) HZ (GE (k := j) HZ HZ HZ Jb) Ja HZ HZ ?_
    refine GR (i := 4) HZ (Ho HZ hvq) Ja Ja HZ HZ HZ ?_
    refine qt [5, 6, 7, 8, 9, 10, 11] ?_
    refine HE (i := 12) (j := 14) Ja HZ HZ HZ HZ (fun _ => ?_) (fun _ => ?_)
    ·refine Ge HZ HZ (rwithp_c lev[q].path (j : Int) Jb (show fI lev[q].path _ _ _ ∈ _ from memA) (fun a62 k62 c62 => ?_))
     refine Gi bxA memB ?_
     refine qt [13] ?_
     refine Gm (i := 14) Ja HZ HZ (fun _ => ?_)
     refine Gj HZ (fun b9 => ?_)
     refine Gi bxA memB ?_
     refine Gm (i := 15) Ja HZ HZ (fun _ => ?_)
     refine Gx HZ HZ HZ HZ ?_
     refine GC HZ ?_
     refine Gq Ja ?_
     exact HH srA (Gh (mem1 memA (fun x hx => by repeat (first | exact hx | refine List.mem_cons_of_mem _ ?_)))) (key (b9, a62, k62, c62))
    refine Gj HZ (fun b9 => ?_)
    refine Gi bxA memB ?_
    refine Gm (i := 12) Ja HZ HZ (fun _ => ?_)
    refine Ge HZ HZ (rwithp_c lev[q].path (j : Int) Jb (show fI lev[q].path _ _ _ ∈ _ from memA) (fun a62 k62 c62 => ?_))
    refine Gi bxA memB ?_
    refine qt [13] ?_
    refine Gm (i := 15) Ja HZ HZ (fun _ => ?_)
    refine Gx HZ HZ HZ HZ ?_
    refine GC HZ ?_
    refine Gq Ja ?_
    exact HH srA (Gh (mem1 memA (fun x hx => by repeat (first | exact hx | refine List.mem_cons_of_mem _ ?_)))) (key (b9, a62, k62, c62))
   refine qs 14 ?_
   obtain rfl : j = T[n].words.length := by omega
   exact Gk (q + 1, ou, (a8, k8, c8)) ⟨by simp only; omega, by simp only; rw [outer_x hqw hql hn hnl, ← hout]; exact hou⟩ (by simp only; omega) srA (Sub.drop.trans (Sub.drop.trans (Gh (mem1 memA (fun x hx => by repeat (first | exact hx | refine List.mem_cons_of_mem _ ?_))))))
  refine qs 11 ?_
  obtain rfl : q = lev.length := by omega
  have hnx : nextL T lev ws seen = out := hout.symm
  have hlo : levP T (p + 1) out := hout ▸ nextL_ok (seen := seen) hr hl hlen hws
  have hof := hlo.few
  rw [hnx] at h
  refine Ga (He HZ (fun b87 => ?_))
  refine GH (Hz (i := 0) (k := 0) (sz := 1) (enc := eI) [] HZ .nil (fun _ => rfl) HZ (by decide)) ?_
  refine qs 8 ?_
  refine Ga (GU (i := 0) (enc := eI) (lst := []) (lst2 := seen) HZ HZ HZ HZ memA (fun x d hd v hv => Hq hd hv) (fun _ => rfl) (by simp only [List.length_nil]; omega) (by simp only [List.length_nil]; omega) (fun a91 k91 c91 => ?_))
  rw [List.nil_append]
  refine qs 7 ?_
  refine Ga (Gt HZ HZ (fun hl93 => ?_) (enc := eEn) (lst := out) (hm := (show fEn out a9 k9 c9 ∈ _ from memA)))
  refine qs 4 ?_
  refine GB (fun (x : Nat × (Option Addr × Nat × Nat)) => x.1 ≤ out.length) (fun x => [(1, .pointer (some ⟨b1, 0, none⟩)), (2, .pointer (some ⟨b2, 0, none⟩)), (3, .slice a9 k9 c9), (11, .slice x.2.1 x.2.2.1 x.2.2.2), (92, .slice a9 k9 c9), (93, .int .i64 out.length), (94, .int .i64 (x.1 : Int))]) (fun x => Res.own (.slice x.2.1 x.2.2.1 x.2.2.2) 3 1 ((seen ++ typs (out.take x.1)).map eI) :: _) (fun _ => _) (fun x => out.length - x.1) (0, (a91, k91, c91)) (Nat.zero_le _) srA (Hk (by simp only [List.take_zero, typs, List.map_nil, List.append_nil] <;> rfl)) ?_
  rintro ⟨v, ⟨a7, k7, c7⟩⟩ hv
  simp only at hv ⊢
  refine qs 2 ?_
  refine Ga (Gw HZ HZ HZ (fun c95 => ?_) (fun c95 => ?_))
  ·refine qs 10 ?_
   have hvl : v < out.length := by omega
   have htl : (seen ++ typs (out.take v)).length = seen.length + v := by rw [List.length_append]; unfold typs; rw [List.length_map, List.length_take]; omega
   refine Ga (Gd HZ HZ HZ HZ (enc := eEn) (lst := out) (show fEn out a9 k9 c9 ∈ _ from memA) hvl (fun _ _ => ?_))
   refine Ga (GN HZ HZ ?_)
   intro a97 k97 z97
   refine Ga (Gj HZ (fun b13 => ?_))
   refine qs 7 ?_
   refine Ga (Gl HZ HZ HZ HZ HZ (fun b101 => ?_))
   refine Ga (GJ (i := 1) (enc := eI) (lst := seen ++ typs (out.take v)) [out[v].typ] HZ HZ HZ HZ (.val .nil) HZ HZ (fun _ => rfl) Jb Jb (fun a102 k102 c102 => ?_))
   rw [List.append_assoc, ← typs_take hvl]
   refine qs 8 ?_
   exact Gk (v + 1, (a102, k102, c102)) (by simp only; omega) (by simp only; omega) srA (Sub.drop.trans subF)
  refine qs 12 ?_
  obtain rfl : v = out.length := by omega
  rw [List.take_length]
  refine GH (Gz (i := 0) HZ) ?_
  refine Ga (HD HZ HZ ?_)
  refine qs 3 ?_
  refine Ga (Ge HZ HZ (rlook_c T N hu out (p + 1) hlo (a5 := a7) (k5 := k7) (c5 := c7) (show fL T a k c ∈ _ from memA) (show fN N a2 k2 c2 ∈ _ from memA) (show fEn out a9 k9 c9 ∈ _ from memA) memA (fun e he hx => ?_) (fun o ws1 a109 k109 c109 a110 k110 c110 hx => ?_)))
  ·refine qs 4 ?_
   exact Gn (rs := [.cell 2 _]) (L' := L) (F' := fL [] none 0 0 :: fEn [] none 0 0 :: fWh [] none 0 0 :: fI [] none 0 0 :: F) Tryz.results69 (.agg (j := 1) rfl rfl rfl .nil) (Sub.drop.trans (Sub.drop.trans (Sub.drop.trans (Gh (mem2 memA memA (mem2 memA memA (fun x hx => by repeat (first | exact hx | refine List.mem_cons_of_mem _ ?_)))))))) (h [] [] [] [] none 0 0 none 0 0 none 0 0 none 0 0 none 0 0 e (.inl ⟨he, docL_err hx⟩) (fun e0 => absurd e0 he))
  refine qs 4 ?_
  exact Gn (rs := [.cell 2 _]) (L' := L) (F' := fL o a109 k109 c109 :: fEn out a9 k9 c9 :: fWh ws1 a110 k110 c110 :: fI (seen ++ typs out) a7 k7 c7 :: F) Tryz.results69 (.agg (j := 1) rfl rfl rfl .nil) (Sub.drop.trans (Sub.drop.trans (Sub.drop.trans (Gh (mem2 memA memA (mem2 memA memA (fun x hx => by repeat (first | exact hx | refine List.mem_cons_of_mem _ ?_)))))))) (h o out ws1 (seen ++ typs out) a109 k109 c109 a2 k2 c2 a9 k9 c9 a110 k110 c110 a7 k7 c7 0 (.inr ⟨rfl, docL_ok hx⟩) (fun _ => ⟨rfl, rfl, rfl⟩))
end
end Go.Sy
namespace Go.Sy
open Go Go.Proofs Go.RowKit
abbrev vF (a : Option Addr) (k c : Nat) (a2 : Option Addr) (k2 c2 : Nat) (x : SelV) (a5 : Option Addr) (k5 c5 : Nat) (e : Int) : Value := .agg #[.slice a k c, .slice a2 k2 c2, .bool x.method, .int .i64 x.typ, .bool x.ptr, .bool x.via, .slice a5 k5 c5, .int .i64 e]
theorem list_one {α : Type} : ∀ {l : List α} (_ : l.length = 1) (h0 : 0 < l.length), l = [l[0]]
  | [x], _, _ => rfl
theorem docFirst_err {N : List Nmd} {T : List Ty} {i e : Int} (h : firstR T N i = .error e) : docFirst N T i = .error e := by unfold docFirst; rw [h]
theorem docFirst_ok {N : List Nmd} {T T1 : List Ty} {lev : List Ent} {i : Int} (h : firstR T N i = .ok (T1, lev)) : docFirst N T i = docL N T1 lev (typs lev) := by unfold docFirst; rw [h]
structure DocOk (N : List Nmd) (n : Nat) (T : List Ty) (lev : List Ent) (ws : List Wht) (seen : List Int) : Prop where
  right : rightU T N
  lv : levP T n lev
  ln : ws.length = lev.length
  wh : ∀ w ∈ ws, whP T w
  few : seen.length ≤ (n + 1) * 400
theorem docL_is {N : List Nmd} {T : List Ty} (hu : rightU T N) {n : Nat} {lev : List Ent} (hl : levP T n lev) {seen : List Int} (hs : seen.length ≤ (n + 1) * 400) {T1 : List Ty} {lev1 : List Ent} {ws1 : List Wht} {seen1 : List Int} (h : docL N T lev seen = .ok (T1, lev1, ws1, seen1)) : DocOk N n T1 lev1 ws1 seen1 := by
  unfold docL at h
  split at h
  · cases h
  rename_i o ws hx
  injection h with h; injection h with e1 h; injection h with e2 h; injection h with e3 e4
  subst e1 e2 e3 e4
  obtain ⟨h1, h2, h3, h4⟩ := looksR_ok hu hl _ (Nat.le_refl _) o ws hx
  exact ⟨h1, hl.up h2, h3, h4, hs⟩
theorem docNext_is {N : List Nmd} {n : Nat} {T : List Ty} {lev : List Ent} {ws : List Wht} {seen : List Int} (hd : DocOk N n T lev ws seen) {T1 : List Ty} {lev1 : List Ent} {ws1 : List Wht} {seen1 : List Int} (h : docL N T (nextL T lev ws seen) (seen ++ typs (nextL T lev ws seen)) = .ok (T1, lev1, ws1, seen1)) : DocOk N (n + 1) T1 lev1 ws1 seen1 := by
  have hl := nextL_ok (seen := seen) hd.right.1 hd.lv hd.ln hd.wh
  refine docL_is hd.right hl ?_ h
  have h1 := hl.few
  have h2 := hd.right.1.2.1
  have h3 := hd.few
  rw [List.length_append, show (typs (nextL T lev ws seen)).length = (nextL T lev ws seen).length from List.length_map _]
  omega
theorem docFirst_is {N : List Nmd} {T : List Ty} (hu : rightU T N) {i : Int} (h0 : 0 ≤ i) (hi : i < T.length) {T1 : List Ty} {lev1 : List Ent} {ws1 : List Wht} {seen1 : List Int} (h : docFirst N T i = .ok (T1, lev1, ws1, seen1)) : DocOk N 0 T1 lev1 ws1 seen1 := by
  unfold docFirst at h
  split at h
  · cases h
  rename_i o lev hx
  obtain ⟨h1, h2, h3⟩ := firstR_ok hu h0 hi hx
  refine docL_is h1 h3 ?_ h
  have h4 := h3.few
  have h5 := h1.1.2.1
  rw [show (typs lev).length = lev.length from List.length_map _]
  omega
theorem docF_err {N : List Nmd} {s : List UInt8} {n : Nat} {e : Int} : docF N s (n + 1) (.error e) = .error e := rfl
theorem docF_one {N : List Nmd} {s : List UInt8} {n : Nat} {T : List Ty} {lev : List Ent} {ws : List Wht} {seen : List Int} {x : SelV} (h : foundN T lev ws s lev.length = [x]) : docF N s (n + 1) (.ok (T, lev, ws, seen)) = .ok (T, x) := by simp only [docF, h]
theorem docF_two {N : List Nmd} {s : List UInt8} {n : Nat} {T : List Ty} {lev : List Ent} {ws : List Wht} {seen : List Int} (h : 1 < (foundN T lev ws s lev.length).length) : docF N s (n + 1) (.ok (T, lev, ws, seen)) = .error 9 := by
  cases hf : foundN T lev ws s lev.length with
  | nil => rw [hf] at h; simp at h
  | cons x l =>
    cases l with
    | nil => rw [hf] at h; simp at h
    | cons y l => simp only [docF, hf]
theorem docF_none {N : List Nmd} {s : List UInt8} {n : Nat} {T : List Ty} {ws : List Wht} {seen : List Int} : docF N s (n + 1) (.ok (T, [], ws, seen)) = .error 8 := by simp [docF, foundN]
theorem docF_next {N : List Nmd} {s : List UInt8} {n : Nat} {T : List Ty} {lev : List Ent} {ws : List Wht} {seen : List Int} (h : (foundN T lev ws s lev.length).length = 0) (hl : lev ≠ []) : docF N s (n + 1) (.ok (T, lev, ws, seen)) = docF N s n (docL N T (nextL T lev ws seen) (seen ++ typs (nextL T lev ws seen))) := by
  have hf : foundN T lev ws s lev.length = [] := List.eq_nil_of_length_eq_zero h
  simp only [docF, hf, if_neg hl]
attribute [local irreducible] AC AT AO AK AH ACalls Sub Res.cells Res.obj Res.nix Res.own Res.map Exit.then Exit.inBlock bodyPost Code.wp Code.wpIn WL Next Post Kont
section
variable {W0 : World} {L : List Res} {F : List Fact} {R : Value → List Res → List Fact → Prop}
set_option maxRecDepth 100000
set_option maxHeartbeats 16000000
theorem rFirst_c (T : List Ty) (N : List Nmd) (hu : rightU T N) (i : Int) (h0 : 0 ≤ i) (hi : i < T.length) {a a2 : Option Addr} {k c k2 c2 : Nat} (mL : fL T a k c ∈ F) (mN : fN N a2 k2 c2 ∈ F) (mE : Fact.slc (.slice none 0 0) 5 [] ∈ F)
    (h : ∀ T1 lev1 ws1 seen1 a k c an kn cn a3 k3 c3 a4 k4 c4 a5 k5 c5 e, docP (docFirst N T i) T1 lev1 ws1 seen1 e → (e = 0 → an = a2 ∧ kn = k2 ∧ cn = c2) → R (vL a k c an kn cn a3 k3 c3 a4 k4 c4 a5 k5 c5 e) L (fL T1 a k c :: fEn lev1 a3 k3 c3 :: fWh ws1 a4 k4 c4 :: fI seen1 a5 k5 c5 :: F)) :
    ACalls Tryz.prog W0 67 #[.agg #[.slice a k c, .slice a2 k2 c2], .int .i64 i] L F R := by
  have hok := Hj hu.1
  obtain ⟨n, rfl⟩ : ∃ n : Nat, i = (n : Int) := ⟨i.toNat, by omega⟩
  have hn : n < T.length := by omega
  refine Hm ((Hr (sz := 4)).trans ((Hr (sz := 2)).trans (Hr (sz := 1)))) ?_
  refine Gg Tryz.func67 HZ Tryz.ntmps67 HZ ?_
  refine qs 2 ?_
  refine Ga (GL HZ HZ (fun b2 => (Ga (Gj HZ (fun b4 => ?_)))))
  refine qs 6 ?_
  refine Ga (Gj HZ (fun b5 => ?_))
  refine qs 8 ?_
  have hkl := (hok _ (List.getElem_mem hn)).kids
  refine Ga (Gd (k := n) HZ HZ HZ HZ (enc := eTy) (lst := T) memA hn (fun _ _ => ?_))
  refine Ga (GN HZ HZ ?_)
  intro a16 k16 z16 d16 e16 f16
  refine Ga (Gj HZ (fun b6 => ?_))
  refine qs 7 ?_
  refine Ga (Gj HZ (fun b7 => ?_))
  refine qs 8 ?_
  refine Ga (Gr HZ HZ HZ (fun c21 => ?_) (fun c21 => ?_))
  ·refine qs 4 ?_
   refine GP (fun i => Nat.beq i 7) [(b2, _, _), (b6, _, _)] bxA HZ (fun hx hX => ?_)
   have hk1 := ptr_of hu.1 hn c21
   have hk0 : 0 < T[n].kids.length := by omega
   have hkd := (GT hu.1 hn).kids _ (List.getElem_mem hk0)
   have hfst := first_is (N := N) hn c21 hk0
   have hkk := (Gu (hX (fK T[n] d16 e16 f16) memA)).1
   obtain ⟨p2, o2, e2, atq⟩ := GA (hX (fK T[n] d16 e16 f16) memA) hk0
   subst e2
   obtain ⟨vq, hvq, hcq⟩ := atq 0 _ rfl
   cases hcq
   refine qt [0, 1, 2] ?_
   refine GD (i := 3) HZ (GE (k := 0) HZ HZ HZ Jb) Ja HZ HZ ?_
   refine GR (i := 4) HZ (Ho HZ hvq) Ja Ja HZ HZ HZ ?_
   refine HE (i := 5) (j := 6) Ja HZ HZ HZ HZ (fun _ => ?_) (fun _ => ?_)
   ·refine Ge HZ HZ (rundT_c T N hu T[n].kids[0] hkd.1 Jb memA memA memA (fun e he hx => ?_) (fun o q a27 k27 c27 hx => ?_))
    all_goals refine Gi bxA memB ?_
    ·refine Gm (i := 6) Ja HZ HZ (fun _ => ?_)
     refine Gj HZ (fun b8 => ?_)
     refine Gi bxA memB ?_
     refine Gm (i := 7) Ja HZ HZ (fun _ => ?_)
     refine Gx HZ HZ HZ HZ ?_
     refine GC HZ ?_
     refine Gq Ja ?_
     refine qs 6 ?_
     refine Ga (GG HZ HZ HZ (fun _ => ?_) (fun c30 => absurd c30 he))
     refine qs 14 ?_
     exact Gn (rs := [.cell 4 _]) (L' := L) (F' := fL [] none 0 0 :: fEn [] none 0 0 :: fWh [] none 0 0 :: fI [] none 0 0 :: F) Tryz.results67 (.agg (j := 4) rfl rfl rfl .nil) (by repeat (first | exact Gh (mem2 memA memA (mem2 memA memA (fun x hx => by repeat (first | exact hx | refine List.mem_cons_of_mem _ ?_)))) | refine GI Gv ?_)) (h [] [] [] [] none 0 0 none 0 0 none 0 0 none 0 0 none 0 0 e (.inl ⟨he, docFirst_err (by rw [hfst, hx])⟩) (fun e0 => absurd e0 he))
    refine Gm (i := 6) Ja HZ HZ (fun _ => ?_)
    refine Gj HZ (fun b8 => ?_)
    refine Gi bxA memB ?_
    refine Gm (i := 7) Ja HZ HZ (fun _ => ?_)
    refine Gx HZ HZ HZ HZ ?_
    refine GC HZ ?_
    refine Gq Ja ?_
    refine qs 6 ?_
    obtain ⟨hro, hpo, hq0, hql⟩ := undR_ok hu hkd.1 Jb hx
    obtain ⟨hqn, hqe⟩ := GS hq0 hql
    refine Ga (GG HZ HZ HZ (fun c30 => absurd HZ c30) (fun _ => ?_))
    refine qs 12 ?_
    refine Ga (Gd (k := q.toNat) HZ HZ HZ Jb (enc := eTy) (lst := o) memA hqn (fun _ _ => ?_))
    refine Ga (Ha HZ HZ (fun _ => ?_))
    refine Ga (Gs HZ HZ ?_)
    refine qs 7 ?_
    refine Ga (Gr HZ HZ HZ (fun c43 => ?_) (fun c43 => ?_))
    ·refine qs 16 ?_
     have hfs : firstR T N (n : Int) = .ok (T, []) := by rw [hfst, hx]; simp only; rw [if_pos (by rw [hqe]; exact .inl c43)]
     exact Gn (rs := [.cell 4 _]) (L' := L) (F' := fL T a k c :: fEn [] none 0 0 :: fWh [] none 0 0 :: fI [] none 0 0 :: F) Tryz.results67 (.agg (j := 4) rfl rfl rfl .nil) (by repeat (first | exact Gh (mem2 memA memA (mem2 memA memA (fun x hx => by repeat (first | exact hx | refine List.mem_cons_of_mem _ ?_)))) | refine GI Gv ?_)) (h T [] [] [] a k c a2 k2 c2 none 0 0 none 0 0 none 0 0 0 (.inr ⟨rfl, by rw [docFirst_ok hfs]; rfl⟩) (fun _ => ⟨rfl, rfl, rfl⟩))
    refine qs 2 ?_
    refine Gc HZ HZ (Gr HZ HZ HZ (fun c46 => ?_) (fun c46 => ?_))
    ·refine qs 13 ?_
     have hfs : firstR T N (n : Int) = .ok (T, []) := by rw [hfst, hx]; simp only; rw [if_pos (by rw [hqe]; exact .inr c46)]
     exact Gn (rs := [.cell 4 _]) (L' := L) (F' := fL T a k c :: fEn [] none 0 0 :: fWh [] none 0 0 :: fI [] none 0 0 :: F) Tryz.results67 (.agg (j := 4) rfl rfl rfl .nil) (by repeat (first | exact Gh (mem2 memA memA (mem2 memA memA (fun x hx => by repeat (first | exact hx | refine List.mem_cons_of_mem _ ?_)))) | refine GI Gv ?_)) (h T [] [] [] a k c a2 k2 c2 none 0 0 none 0 0 none 0 0 0 (.inr ⟨rfl, by rw [docFirst_ok hfs]; rfl⟩) (fun _ => ⟨rfl, rfl, rfl⟩))
    refine qs 17 ?_
    refine Ga (Gd (k := 0) HZ HZ HZ HZ (show fK T[n] _ _ _ ∈ _ from memA) hk0 (fun _ _ => ?_))
    refine Ga (Gs HZ HZ ?_)
    refine qs 7 ?_
    refine GH (GZ (e := 186) (sz := 4)) ?_
    refine Ga (Gy HZ HZ ?_)
    refine qs 1 ?_
    refine Ga (Gl HZ HZ HZ HZ HZ (fun b60 => ?_))
    refine Ga (GJ (i := 0) (enc := eEn) (lst := []) [⟨T[n].kids[0], true, false, []⟩] HZ HZ HZ HZ (.val (.val (.val (.slc .nil memA)))) HZ HZ (fun _ => rfl) (by simp only [List.length_nil, maxLen]; omega) (by simp only [List.length_nil]; omega) (fun a61 k61 c61 => ?_))
    refine qs 7 ?_
    refine GH (Gz (i := 0) HZ) ?_
    refine GH (GZ (e := 3) (sz := 1)) ?_
    refine Ga (Gy HZ HZ ?_)
    refine qs 2 ?_
    refine Ga (Gl HZ HZ HZ HZ HZ (fun b67 => ?_))
    refine Ga (GJ (i := 0) (enc := eI) (lst := []) [T[n].kids[0]] HZ HZ HZ HZ (.val .nil) HZ HZ (fun _ => rfl) (by simp only [List.length_nil, maxLen]; omega) (by simp only [List.length_nil]; omega) (fun a68 k68 c68 => ?_))
    refine qs 6 ?_
    refine GH (Gz (i := 0) HZ) ?_
    refine Ga (HD HZ HZ ?_)
    have hfs : firstR T N (n : Int) = .ok (o, [⟨T[n].kids[0], true, false, []⟩]) := by rw [hfst, hx]; simp only; rw [if_neg (by rw [hqe]; rintro (h | h); exact c43 h; exact c46 h)]
    obtain ⟨h1, h2, h3⟩ := firstR_ok hu h0 hi hfs
    refine Ga (Ge HZ HZ (rlook_c o N hro [⟨T[n].kids[0], true, false, []⟩] 0 h3 (a5 := a68) (k5 := k68) (c5 := c68) (show fL o _ _ _ ∈ _ from memA) memA (show fEn _ a61 k61 c61 ∈ _ from memA) memA (fun e he hx => ?_) (fun o3 ws1 a71 k71 c71 a72 k72 c72 hx => ?_)))
    ·refine qs 4 ?_
     exact Gn (rs := [.cell 4 _]) (L' := L) (F' := fL [] none 0 0 :: fEn [] none 0 0 :: fWh [] none 0 0 :: fI [] none 0 0 :: F) Tryz.results67 (.agg (j := 6) rfl rfl rfl .nil) (by repeat (first | exact Gh (mem2 memA memA (mem2 memA memA (fun x hx => by repeat (first | exact hx | refine List.mem_cons_of_mem _ ?_)))) | refine GI Gv ?_)) (h [] [] [] [] none 0 0 none 0 0 none 0 0 none 0 0 none 0 0 e (.inl ⟨he, by rw [docFirst_ok hfs]; exact docL_err hx⟩) (fun e0 => absurd e0 he))
    refine qs 4 ?_
    exact Gn (rs := [.cell 4 _]) (L' := L) (F' := fL o3 a71 k71 c71 :: fEn [⟨T[n].kids[0], true, false, []⟩] a61 k61 c61 :: fWh ws1 a72 k72 c72 :: fI [T[n].kids[0]] a68 k68 c68 :: F) Tryz.results67 (.agg (j := 6) rfl rfl rfl .nil) (by repeat (first | exact Gh (mem2 memA memA (mem2 memA memA (fun x hx => by repeat (first | exact hx | refine List.mem_cons_of_mem _ ?_)))) | refine GI Gv ?_)) (h o3 _ ws1 [T[n].kids[0]] a71 k71 c71 a2 k2 c2 a61 k61 c61 a72 k72 c72 a68 k68 c68 0 (.inr ⟨rfl, by rw [docFirst_ok hfs]; exact docL_ok hx⟩) (fun _ => ⟨rfl, rfl, rfl⟩))
   refine Gj HZ (fun b8 => ?_)
   refine Gi bxA memB ?_
   refine Gm (i := 5) Ja HZ HZ (fun _ => ?_)
   refine Ge HZ HZ (rundT_c T N hu T[n].kids[0] hkd.1 Jb memA memA memA (fun e he hx => ?_) (fun o q a27 k27 c27 hx => ?_))
   all_goals refine Gi bxA memB ?_
   ·refine Gm (i := 7) Ja HZ HZ (fun _ => ?_)
    refine Gx HZ HZ HZ HZ ?_
    refine GC HZ ?_
    refine Gq Ja ?_
    refine qs 6 ?_
    refine Ga (GG HZ HZ HZ (fun _ => ?_) (fun c30 => absurd c30 he))
    refine qs 14 ?_
    exact Gn (rs := [.cell 4 _]) (L' := L) (F' := fL [] none 0 0 :: fEn [] none 0 0 :: fWh [] none 0 0 :: fI [] none 0 0 :: F) Tryz.results67 (.agg (j := 4) rfl rfl rfl .nil) (by repeat (first | exact Gh (mem2 memA memA (mem2 memA memA (fun x hx => by repeat (first | exact hx | refine List.mem_cons_of_mem _ ?_)))) | refine GI Gv ?_)) (h [] [] [] [] none 0 0 none 0 0 none 0 0 none 0 0 none 0 0 e (.inl ⟨he, docFirst_err (by rw [hfst, hx])⟩) (fun e0 => absurd e0 he))
   refine Gm (i := 7) Ja HZ HZ (fun _ => ?_)
   refine Gx HZ HZ HZ HZ ?_
   refine GC HZ ?_
   refine Gq Ja ?_
   refine qs 6 ?_
   obtain ⟨hro, hpo, hq0, hql⟩ := undR_ok hu hkd.1 Jb hx
   obtain ⟨hqn, hqe⟩ := GS hq0 hql
   refine Ga (GG HZ HZ HZ (fun c30 => absurd HZ c30) (fun _ => ?_))
   refine qs 12 ?_
   refine Ga (Gd (k := q.toNat) HZ HZ HZ Jb (enc := eTy) (lst := o) memA hqn (fun _ _ => ?_))
   refine Ga (Ha HZ HZ (fun _ => ?_))
   refine Ga (Gs HZ HZ ?_)
   refine qs 7 ?_
   refine Ga (Gr HZ HZ HZ (fun c43 => ?_) (fun c43 => ?_))
   ·refine qs 16 ?_
    have hfs : firstR T N (n : Int) = .ok (T, []) := by rw [hfst, hx]; simp only; rw [if_pos (by rw [hqe]; exact .inl c43)]
    exact Gn (rs := [.cell 4 _]) (L' := L) (F' := fL T a k c :: fEn [] none 0 0 :: fWh [] none 0 0 :: fI [] none 0 0 :: F) Tryz.results67 (.agg (j := 4) rfl rfl rfl .nil) (by repeat (first | exact Gh (mem2 memA memA (mem2 memA memA (fun x hx => by repeat (first | exact hx | refine List.mem_cons_of_mem _ ?_)))) | refine GI Gv ?_)) (h T [] [] [] a k c a2 k2 c2 none 0 0 none 0 0 none 0 0 0 (.inr ⟨rfl, by rw [docFirst_ok hfs]; rfl⟩) (fun _ => ⟨rfl, rfl, rfl⟩))
   refine qs 2 ?_
   refine Gc HZ HZ (Gr HZ HZ HZ (fun c46 => ?_) (fun c46 => ?_))
   ·refine qs 13 ?_
    have hfs : firstR T N (n : Int) = .ok (T, []) := by rw [hfst, hx]; simp only; rw [if_pos (by rw [hqe]; exact .inr c46)]
    exact Gn (rs := [.cell 4 _]) (L' := L) (F' := fL T a k c :: fEn [] none 0 0 :: fWh [] none 0 0 :: fI [] none 0 0 :: F) Tryz.results67 (.agg (j := 4) rfl rfl rfl .nil) (by repeat (first | exact Gh (mem2 memA memA (mem2 memA memA (fun x hx => by repeat (first | exact hx | refine List.mem_cons_of_mem _ ?_)))) | refine GI Gv ?_)) (h T [] [] [] a k c a2 k2 c2 none 0 0 none 0 0 none 0 0 0 (.inr ⟨rfl, by rw [docFirst_ok hfs]; rfl⟩) (fun _ => ⟨rfl, rfl, rfl⟩))
   refine qs 17 ?_
   refine Ga (Gd (k := 0) HZ HZ HZ HZ (show fK T[n] _ _ _ ∈ _ from memA) hk0 (fun _ _ => ?_))
   refine Ga (Gs HZ HZ ?_)
   refine qs 7 ?_
   refine GH (GZ (e := 186) (sz := 4)) ?_
   refine Ga (Gy HZ HZ ?_)
   refine qs 1 ?_
   refine Ga (Gl HZ HZ HZ HZ HZ (fun b60 => ?_))
   refine Ga (GJ (i := 0) (enc := eEn) (lst := []) [⟨T[n].kids[0], true, false, []⟩] HZ HZ HZ HZ (.val (.val (.val (.slc .nil memA)))) HZ HZ (fun _ => rfl) (by simp only [List.length_nil, maxLen]; omega) (by simp only [List.length_nil]; omega) (fun a61 k61 c61 => ?_))
   refine qs 7 ?_
   refine GH (Gz (i := 0) HZ) ?_
   refine GH (GZ (e := 3) (sz := 1)) ?_
   refine Ga (Gy HZ HZ ?_)
   refine qs 2 ?_
   refine Ga (Gl HZ HZ HZ HZ HZ (fun b67 => ?_))
   refine Ga (GJ (i := 0) (enc := eI) (lst := []) [T[n].kids[0]] HZ HZ HZ HZ (.val .nil) HZ HZ (fun _ => rfl) (by simp only [List.length_nil, maxLen]; omega) (by simp only [List.length_nil]; omega) (fun a68 k68 c68 => ?_))
   refine qs 6 ?_
   refine GH (Gz (i := 0) HZ) ?_
   refine Ga (HD HZ HZ ?_)
   have hfs : firstR T N (n : Int) = .ok (o, [⟨T[n].kids[0], true, false, []⟩]) := by rw [hfst, hx]; simp only; rw [if_neg (by rw [hqe]; rintro (h | h); exact c43 h; exact c46 h)]
   obtain ⟨h1, h2, h3⟩ := firstR_ok hu h0 hi hfs
   refine Ga (Ge HZ HZ (rlook_c o N hro [⟨T[n].kids[0], true, false, []⟩] 0 h3 (a5 := a68) (k5 := k68) (c5 := c68) (show fL o _ _ _ ∈ _ from memA) memA (show fEn _ a61 k61 c61 ∈ _ from memA) memA (fun e he hx => ?_) (fun o3 ws1 a71 k71 c71 a72 k72 c72 hx => ?_)))
   ·refine qs 4 ?_
    exact Gn (rs := [.cell 4 _]) (L' := L) (F' := fL [] none 0 0 :: fEn [] none 0 0 :: fWh [] none 0 0 :: fI [] none 0 0 :: F) Tryz.results67 (.agg (j := 6) rfl rfl rfl .nil) (by repeat (first | exact Gh (mem2 memA memA (mem2 memA memA (fun x hx => by repeat (first | exact hx | refine List.mem_cons_of_mem _ ?_)))) | refine GI Gv ?_)) (h [] [] [] [] none 0 0 none 0 0 none 0 0 none 0 0 none 0 0 e (.inl ⟨he, by rw [docFirst_ok hfs]; exact docL_err hx⟩) (fun e0 => absurd e0 he))
   refine qs 4 ?_
   exact Gn (rs := [.cell 4 _]) (L' := L) (F' := fL o3 a71 k71 c71 :: fEn [⟨T[n].kids[0], true, false, []⟩] a61 k61 c61 :: fWh ws1 a72 k72 c72 :: fI [T[n].kids[0]] a68 k68 c68 :: F) Tryz.results67 (.agg (j := 6) rfl rfl rfl .nil) (by repeat (first | exact Gh (mem2 memA memA (mem2 memA memA (fun x hx => by repeat (first | exact hx | refine List.mem_cons_of_mem _ ?_)))) | refine GI Gv ?_)) (h o3 _ ws1 [T[n].kids[0]] a71 k71 c71 a2 k2 c2 a61 k61 c61 a72 k72 c72 a68 k68 c68 0 (.inr ⟨rfl, by rw [docFirst_ok hfs]; exact docL_ok hx⟩) (fun _ => ⟨rfl, rfl, rfl⟩))
  refine qs 8 ?_
  refine GH (GZ (e := 186) (sz := 4)) ?_
  refine Ga (Gy HZ HZ ?_)
  refine qs 1 ?_
  refine Ga (Gl HZ HZ HZ HZ HZ (fun b60 => ?_))
  refine Ga (GJ (i := 0) (enc := eEn) (lst := []) [⟨(n : Int), false, false, []⟩] HZ HZ HZ HZ (.val (.val (.val (.slc .nil memA)))) HZ HZ (fun _ => rfl) (by simp only [List.length_nil, maxLen]; omega) (by simp only [List.length_nil]; omega) (fun a61 k61 c61 => ?_))
  refine qs 7 ?_
  refine GH (Gz (i := 0) HZ) ?_
  refine GH (GZ (e := 3) (sz := 1)) ?_
  refine Ga (Gy HZ HZ ?_)
  refine qs 2 ?_
  refine Ga (Gl HZ HZ HZ HZ HZ (fun b67 => ?_))
  refine Ga (GJ (i := 0) (enc := eI) (lst := []) [(n : Int)] HZ HZ HZ HZ (.val .nil) HZ HZ (fun _ => rfl) (by simp only [List.length_nil, maxLen]; omega) (by simp only [List.length_nil]; omega) (fun a68 k68 c68 => ?_))
  refine qs 6 ?_
  refine GH (Gz (i := 0) HZ) ?_
  refine Ga (HD HZ HZ ?_)
  have hfs := first_not (N := N) hn c21
  obtain ⟨h1, h2, h3⟩ := firstR_ok hu h0 hi hfs
  refine Ga (Ge HZ HZ (rlook_c T N hu [⟨(n : Int), false, false, []⟩] 0 h3 (a5 := a68) (k5 := k68) (c5 := c68) (show fL T _ _ _ ∈ _ from memA) memA (show fEn _ a61 k61 c61 ∈ _ from memA) memA (fun e he hx => ?_) (fun o ws1 a71 k71 c71 a72 k72 c72 hx => ?_)))
  ·refine qs 4 ?_
   exact Gn (rs := [.cell 4 _]) (L' := L) (F' := fL [] none 0 0 :: fEn [] none 0 0 :: fWh [] none 0 0 :: fI [] none 0 0 :: F) Tryz.results67 (.agg (j := 5) rfl rfl rfl .nil) (by repeat (first | exact Gh (mem2 memA memA (mem2 memA memA (fun x hx => by repeat (first | exact hx | refine List.mem_cons_of_mem _ ?_)))) | refine GI Gv ?_)) (h [] [] [] [] none 0 0 none 0 0 none 0 0 none 0 0 none 0 0 e (.inl ⟨he, by rw [docFirst_ok hfs]; exact docL_err hx⟩) (fun e0 => absurd e0 he))
  refine qs 4 ?_
  exact Gn (rs := [.cell 4 _]) (L' := L) (F' := fL o a71 k71 c71 :: fEn [⟨(n : Int), false, false, []⟩] a61 k61 c61 :: fWh ws1 a72 k72 c72 :: fI [(n : Int)] a68 k68 c68 :: F) Tryz.results67 (.agg (j := 5) rfl rfl rfl .nil) (by repeat (first | exact Gh (mem2 memA memA (mem2 memA memA (fun x hx => by repeat (first | exact hx | refine List.mem_cons_of_mem _ ?_)))) | refine GI Gv ?_)) (h o _ ws1 [(n : Int)] a71 k71 c71 a2 k2 c2 a61 k61 c61 a72 k72 c72 a68 k68 c68 0 (.inr ⟨rfl, by rw [docFirst_ok hfs]; exact docL_ok hx⟩) (fun _ => ⟨rfl, rfl, rfl⟩))
theorem rFind_c (T0 : List Ty) (N : List Nmd) (hu : rightU T0 N) (i : Int) (h0 : 0 ≤ i) (hi : i < T0.length) (s : List UInt8) {a a2 : Option Addr} {k c k2 c2 : Nat} (mL : fL T0 a k c ∈ F) (mN : fN N a2 k2 c2 ∈ F) (mE : Fact.slc (.slice none 0 0) 5 [] ∈ F)
    (hE : ∀ e, e ≠ 0 → findR N T0 i s = .error e → R (vF none 0 0 none 0 0 ⟨false, 0, false, false, []⟩ none 0 0 e) L F)
    (hO : ∀ o x a k c a5 k5 c5, findR N T0 i s = .ok (o, x) → R (vF a k c a2 k2 c2 x a5 k5 c5 0) L (fL o a k c :: fI x.path a5 k5 c5 :: F)) :
    ACalls Tryz.prog W0 25 #[.agg #[.slice a k c, .slice a2 k2 c2], .int .i64 i, S s] L F R := by
  have hfd := find_doc N T0 i s
  refine Gg Tryz.func25 HZ Tryz.ntmps25 HZ ?_
  refine qs 2 ?_
  refine Ga (GL HZ HZ (fun b3 => (Ga (Gj HZ (fun b6 => ?_)))))
  refine qs 6 ?_
  refine Ga (Ge HZ HZ (rFirst_c T0 N hu i h0 hi memA memA memA (fun T1 lev1 ws1 seen1 a1 k1 c1 an kn cn a3 k3 c3 a4 k4 c4 a5 k5 c5 e hd hn => ?_)))
  refine Ga (Gj HZ (fun b7 => ?_))
  refine qs 10 ?_
  refine GB (fun (x : Nat × Int × (List Ty × List Ent × List Wht × List Int) × ((Option Addr × Nat × Nat) × (Option Addr × Nat × Nat) × (Option Addr × Nat × Nat) × (Option Addr × Nat × Nat) × (Option Addr × Nat × Nat))) => x.1 ≤ 7 ∧ ((x.2.1 ≠ 0 ∧ x.1 < 7 ∧ findR N T0 i s = docF N s (7 - x.1) (.error x.2.1)) ∨ (x.2.1 = 0 ∧ findR N T0 i s = docF N s (7 - x.1) (.ok x.2.2.1) ∧ (x.1 < 7 → DocOk N x.1 x.2.2.1.1 x.2.2.1.2.1 x.2.2.1.2.2.1 x.2.2.1.2.2.2 ∧ x.2.2.2.2.1 = (a2, k2, c2))))) (fun x => [(2, S s), (3, .pointer (some ⟨b3, 0, none⟩)), (6, .pointer (some ⟨b6, 0, none⟩)), (7, .pointer (some ⟨b7, 0, none⟩)), (8, .int .i64 (x.1 : Int))]) (fun x => Res.cells b7 #[.slice x.2.2.2.1.1 x.2.2.2.1.2.1 x.2.2.2.1.2.2, .slice x.2.2.2.2.1.1 x.2.2.2.2.1.2.1 x.2.2.2.2.1.2.2, .slice x.2.2.2.2.2.1.1 x.2.2.2.2.2.1.2.1 x.2.2.2.2.2.1.2.2, .slice x.2.2.2.2.2.2.1.1 x.2.2.2.2.2.2.1.2.1 x.2.2.2.2.2.2.1.2.2, .slice x.2.2.2.2.2.2.2.1 x.2.2.2.2.2.2.2.2.1 x.2.2.2.2.2.2.2.2.2, .int .i64 x.2.1] 103 :: _) (fun x => fL x.2.2.1.1 x.2.2.2.1.1 x.2.2.2.1.2.1 x.2.2.2.1.2.2 :: fEn x.2.2.1.2.1 x.2.2.2.2.2.1.1 x.2.2.2.2.2.1.2.1 x.2.2.2.2.2.1.2.2 :: fWh x.2.2.1.2.2.1 x.2.2.2.2.2.2.1.1 x.2.2.2.2.2.2.1.2.1 x.2.2.2.2.2.2.1.2.2 :: fI x.2.2.1.2.2.2 x.2.2.2.2.2.2.2.1 x.2.2.2.2.2.2.2.2.1 x.2.2.2.2.2.2.2.2.2 :: F) (fun x => 7 - x.1) (0, e, (T1, lev1, ws1, seen1), ((a1, k1, c1), (an, kn, cn), (a3, k3, c3), (a4, k4, c4), (a5, k5, c5))) ⟨Nat.zero_le _, by rcases hd with ⟨h1, h2⟩ | ⟨h1, h2⟩; exact .inl ⟨h1, by simp only; omega, by simp only; rw [hfd, h2]⟩; exact .inr ⟨h1, by simp only; rw [hfd, h2], fun _ => ⟨docFirst_is hu h0 hi h2, by obtain ⟨e1, e2, e3⟩ := hn h1; subst e1 e2 e3; rfl⟩⟩⟩ srA (Gh (mem2 memA memA (mem2 memA memA (fun x hx => by repeat (first | exact hx | refine List.mem_cons_of_mem _ ?_))))) ?_
  clear hd hn
  rintro ⟨n, e, ⟨T, lev, ws, seen⟩, ⟨⟨b1, j1, d1⟩, ⟨b2, j2, d2⟩, ⟨f3, j3, d3⟩, ⟨f4, j4, d4⟩, ⟨f5, j5, d5⟩⟩⟩ ⟨hn7, hrel⟩
  simp only at hn7 hrel ⊢
  refine qs 4 ?_
  refine Ga (Gw HZ HZ HZ (fun c14 => ?_) (fun c14 => ?_))
  ·refine qs 12 ?_
   refine Ga (GG HZ HZ HZ (fun c19 => ?_) (fun c19 => ?_))
   ·refine qs 18 ?_
    have hf : findR N T0 i s = .error e := by
     rcases hrel with ⟨_, h2, h3⟩ | ⟨h, _⟩
     · rw [h3, show 7 - n = 6 - n + 1 by omega, docF_err]
     exact absurd h c19
    exact Gn (rs := [.cell 6 _]) (L' := L) (F' := F) Tryz.results25 (.agg (j := 1) rfl rfl rfl .nil) subA (hE e c19 hf)
   refine qs 9 ?_
   have hlt : n < 7 := by omega
   obtain ⟨hfn, hdo, hnm⟩ : findR N T0 i s = docF N s (6 - n + 1) (.ok (T, lev, ws, seen)) ∧ DocOk N n T lev ws seen ∧ (b2, j2, d2) = (a2, k2, c2) := by
    rcases hrel with ⟨h, _⟩ | ⟨_, h2, h3⟩
    · exact absurd c19 h
    obtain ⟨h4, h5⟩ := h3 hlt
    exact ⟨by rw [h2, show 7 - n = 6 - n + 1 by omega], h4, h5⟩
   injection hnm with e1 e2
   injection e2 with e2 e3
   subst e1 e2 e3
   have hT4 := hdo.right.1.2.1
   have hlf := hdo.lv.few
   refine Ga (Ge HZ HZ (rHad_c T hdo.right.1 lev n Jb hdo.lv ws hdo.ln hdo.wh s (a5 := f5) (k5 := j5) (c5 := d5) (e0 := e) (show fL T b1 j1 d1 ∈ _ from memA) (show fEn lev f3 j3 d3 ∈ _ from memA) (show fWh ws f4 j4 d4 ∈ _ from memA) (fun a25 k25 c25 => ?_)))
   refine qs 7 ?_
   refine Ga (Gt HZ HZ (fun hl27 => ?_) (enc := eSl) (lst := foundN T lev ws s lev.length) (hm := memA))
   refine Ga (Gr HZ HZ HZ (fun c28 => ?_) (fun c28 => ?_))
   ·refine qs 4 ?_
    refine GP (fun _ => false) [(b7, _, _)] bxA HZ (fun hx hX => ?_)
    have hpos : 0 < (foundN T lev ws s lev.length).length := by omega
    have hone := list_one (l := foundN T lev ws s lev.length) Jb hpos
    have hk9 := (Gu (hX (fSl (foundN T lev ws s lev.length) a25 k25 c25) memA)).1
    obtain ⟨p1, o1, e1, at1⟩ := GA (i := 0) (hX (fSl (foundN T lev ws s lev.length) a25 k25 c25) memA) hpos
    subst e1
    generalize hxx : (foundN T lev ws s lev.length)[0] = xx at at1 hone
    obtain ⟨a8, k8, c8, hv8, hp8⟩ := sl_cells (s := xx) at1
    refine Hx hp8 memA ?_
    refine qt [0, 1, 2] ?_
    refine GD (i := 3) HZ (GE (k := 0) HZ HZ HZ Jb) Ja HZ HZ ?_
    refine GR (i := 4) HZ (HN HZ HZ hv8) Ja Ja HZ HZ HZ ?_
    refine qt [5] ?_
    refine Gm (i := 6) Ja HZ HZ (fun _ => ?_)
    refine Gx HZ HZ HZ HZ ?_
    refine Gi bxA memB ?_
    refine Gq Ja ?_
    refine qs 8 ?_
    exact Gn (rs := [.cell 6 _]) (L' := L) (F' := fL T b1 j1 d1 :: fI xx.path a8 k8 c8 :: F) Tryz.results25 (.agg (j := 1) rfl rfl rfl .nil) (Sub.drop.trans (Sub.drop.trans (Sub.drop.trans (Gh (mem2 memA memA (fun x hx => by repeat (first | exact hx | refine List.mem_cons_of_mem _ ?_))))))) (hO T xx b1 j1 d1 a8 k8 c8 (by rw [hfn, docF_one hone]))
   refine qs 9 ?_
   refine Ga (Gt HZ HZ (fun hl36 => ?_) (enc := eSl) (lst := foundN T lev ws s lev.length) (hm := memA))
   refine Ga (Hv HZ HZ HZ (fun c37 => ?_) (fun c37 => ?_))
   ·refine qs 16 ?_
    exact Gn (rs := [.cell 6 _]) (L' := L) (F' := F) Tryz.results25 (.agg (j := 1) rfl rfl rfl .nil) subA (hE 9 (by decide) (by rw [hfn, docF_two Jb]))
   refine qs 10 ?_
   refine Ga (Gt HZ HZ (fun hl41 => ?_) (enc := eEn) (lst := lev) (hm := (show fEn lev f3 j3 d3 ∈ _ from memA)))
   refine Ga (Gr HZ HZ HZ (fun c42 => ?_) (fun c42 => ?_))
   ·refine qs 16 ?_
    have hle : lev = [] := List.eq_nil_of_length_eq_zero Jb
    subst hle
    exact Gn (rs := [.cell 6 _]) (L' := L) (F' := F) Tryz.results25 (.agg (j := 1) rfl rfl rfl .nil) subA (hE 8 (by decide) (by rw [hfn, docF_none]))
   refine qs 8 ?_
   refine Ga (Gw HZ HZ HZ (fun c45 => ?_) (fun c45 => ?_))
   ·refine qs 5 ?_
    have hle : lev ≠ [] := fun e => by subst e; exact c42 rfl
    have hnx := docF_next (N := N) (s := s) (n := 6 - n) (T := T) (ws := ws) (seen := seen) (by omega : (foundN T lev ws s lev.length).length = 0) hle
    refine Ga (Ge HZ HZ (rNext_c T N hdo.right lev n Jb hdo.lv ws hdo.ln hdo.wh seen (by have := hdo.few; omega) (e0 := e) (show fL T b1 j1 d1 ∈ _ from memA) (show fN N b2 j2 d2 ∈ _ from memA) (show fEn lev f3 j3 d3 ∈ _ from memA) (show fWh ws f4 j4 d4 ∈ _ from memA) (show fI seen f5 j5 d5 ∈ _ from memA) memA (fun T2 lev2 ws2 seen2 g1 l1 m1 gn ln mn g3 l3 m3 g4 l4 m4 g5 l5 m5 e2 hd2 hn2 => ?_)))
    refine qs 9 ?_
    refine Gk (n + 1, e2, (T2, lev2, ws2, seen2), ((g1, l1, m1), (gn, ln, mn), (g3, l3, m3), (g4, l4, m4), (g5, l5, m5))) ⟨by simp only; omega, ?_⟩ (by simp only; omega) srA (Gh (mem2 memA memA (mem2 memA memA (fun x hx => by repeat (first | exact hx | refine List.mem_cons_of_mem _ ?_)))))
    simp only
    rcases hd2 with ⟨h1, h2⟩ | ⟨h1, h2⟩
    · exact .inl ⟨h1, by omega, by rw [hfn, hnx, h2, show 7 - (n + 1) = 6 - n by omega]⟩
    exact .inr ⟨h1, by rw [hfn, hnx, h2, show 7 - (n + 1) = 6 - n by omega], fun _ => ⟨docNext_is hdo h2, by obtain ⟨e1, e2, e3⟩ := hn2 h1; subst e1 e2 e3; rfl⟩⟩
   refine qs 11 ?_
   have hle : lev ≠ [] := fun e => by subst e; exact c42 rfl
   have hnx := docF_next (N := N) (s := s) (n := 6 - n) (T := T) (ws := ws) (seen := seen) (by omega : (foundN T lev ws s lev.length).length = 0) hle
   obtain rfl : n = 6 := by omega
   exact Gk (7, e, (T, lev, ws, seen), ((b1, j1, d1), (b2, j2, d2), (f3, j3, d3), (f4, j4, d4), (f5, j5, d5))) ⟨by simp only; omega, .inr ⟨c19, by simp only; rw [hfn, hnx]; rfl, fun h => absurd h (by simp only; omega)⟩⟩ (by simp only; omega) srA (Gh (mem2 memA memA (mem2 memA memA (fun x hx => by repeat (first | exact hx | refine List.mem_cons_of_mem _ ?_)))))
  refine qs 15 ?_
  obtain rfl : n = 7 := by omega
  exact Gn (rs := [.cell 6 _]) (L' := L) (F' := F) Tryz.results25 (.agg (j := 1) rfl rfl rfl .nil) subA (hE 8 (by decide) (by rcases hrel with ⟨_, h, _⟩ | ⟨_, h, _⟩; exact absurd h Jb; rw [h]; rfl))
end
end Go.Sy
namespace Go.Sy
open Go Go.Proofs Go.RowKit
def nmT0 : Ty := ⟨8, [112, 46, 84], 0, [], []⟩
attribute [local irreducible] AC AT AO AK AH ACalls Sub Res.cells Res.obj Res.nix Res.own Res.map Exit.then Exit.inBlock bodyPost Code.wp Code.wpIn WL Next Post Kont
section
variable {W0 : World} {L : List Res} {F : List Fact} {R : Value → List Res → List Fact → Prop}
set_option maxRecDepth 100000
set_option maxHeartbeats 16000000
end
end Go.Sy
namespace Go.Sy
open Go Go.Proofs Go.RowKit
abbrev noS : SelV := ⟨false, 0, false, false, []⟩
def goodS (T : List Ty) (N : List Nmd) (i : Int) (s : List UInt8) : Prop := rightU T N ∧ (0 ≤ i ∧ i < T.length) ∧ isName s = true ∧ s ≠ [95]
def selP (T : List Ty) (N : List Nmd) (i : Int) (s : List UInt8) (o : List Ty) (M : List Nmd) (x : SelV) (e : Int) : Prop :=
  (e ≠ 0 ∧ (badS T N i s e ∨ (goodS T N i s ∧ findR N T i s = .error e)) ∧ o = [] ∧ M = [] ∧ x = noS) ∨ (e = 0 ∧ goodS T N i s ∧ findR N T i s = .ok (o, x) ∧ M = N)
def docS (T : List Ty) (N : List Nmd) (i : Int) (s : List UInt8) (o : List Ty) (M : List Nmd) (x : SelV) (e : Int) : Prop :=
  (e ≠ 0 ∧ findR N T i s = .error e ∧ o = [] ∧ M = [] ∧ x = noS) ∨ (e = 0 ∧ findR N T i s = .ok (o, x) ∧ M = N)
attribute [local irreducible] AC AT AO AK AH ACalls Sub Res.cells Res.obj Res.nix Res.own Res.map Exit.then Exit.inBlock bodyPost Code.wp Code.wpIn WL Next Post Kont
section
variable {W0 : World} {L : List Res} {F : List Fact} {R : Value → List Res → List Fact → Prop}
set_option maxRecDepth 100000
set_option maxHeartbeats 16000000
theorem sFind2_c (g : Glob W0) (T : List Ty) (N : List Nmd) (hok : ∀ t ∈ T, TyOk t) (hno : ∀ n ∈ N, NmOk n) (i : Int) (s : List UInt8) {a a2 : Option Addr} {k c k2 c2 : Nat} (mL : fL T a k c ∈ F) (mN : fN N a2 k2 c2 ∈ F) (mE : Fact.slc (.slice none 0 0) 5 [] ∈ F) (mM : Fact.slc (.slice none 0 0) 3 [] ∈ F) (m4 : Fact.slc (.slice none 0 0) 4 [] ∈ F) (m1 : Fact.slc (.slice none 0 0) 1 [] ∈ F)
    (h : ∀ o M x e a k c an kn cn a5 k5 c5, selP T N i s o M x e → R (.tuple #[.agg #[.slice a k c, .slice an kn cn], vSl x a5 k5 c5, .int .i64 e]) L (fL o a k c :: fN M an kn cn :: fI x.path a5 k5 c5 :: F)) :
    ACalls Tryz.prog W0 19 #[.agg #[.slice a k c, .slice a2 k2 c2], .int .i64 i, S s] L F R := by
  refine ACalls.out (R' := fun v L' F' => ∃ F'', Sub L' F' L' F'' ∧ R v L' F'') ?_ (fun v L' F' ⟨F'', h1, h2⟩ => ⟨L', F'', h1, h2⟩)
  refine sFind_c g T N hok hno i s mL mN mE mM (fun e he hb => ⟨_, Gh ?_, h [] [] noS e none 0 0 none 0 0 none 0 0 (.inl ⟨he, .inl hb, rfl, rfl, rfl⟩)⟩) (fun c1 c2 c3 c4 c5 e he hx => ⟨_, Gh ?_, h [] [] noS e none 0 0 none 0 0 none 0 0 (.inl ⟨he, .inr ⟨⟨c1, ⟨c2, c3⟩, c4, c5⟩, hx⟩, rfl, rfl, rfl⟩)⟩) (fun c1 c2' c3 c4 c5 o x a k c a5 k5 c5' hx => ⟨_, Gh ?_, h o N x 0 a k c a2 k2 c2 a5 k5 c5' (.inr ⟨rfl, ⟨c1, ⟨c2', c3⟩, c4, c5⟩, hx, rfl⟩)⟩)
  · exact mem2 mE m4 (mem1 m1 (fun x hx => hx))
  · exact mem2 mE m4 (mem1 m1 (fun x hx => hx))
  exact mem2 memA (List.mem_cons_of_mem _ (List.mem_cons_of_mem _ mN)) (mem1 memA (fun x hx => List.mem_cons_of_mem _ (List.mem_cons_of_mem _ hx)))
theorem rFind2_c (T : List Ty) (N : List Nmd) (i : Int) (s : List UInt8) (hg : goodS T N i s) {a a2 : Option Addr} {k c k2 c2 : Nat} (mL : fL T a k c ∈ F) (mN : fN N a2 k2 c2 ∈ F) (mE : Fact.slc (.slice none 0 0) 5 [] ∈ F) (m4 : Fact.slc (.slice none 0 0) 4 [] ∈ F) (m1 : Fact.slc (.slice none 0 0) 1 [] ∈ F)
    (h : ∀ o M x e a k c an kn cn a5 k5 c5, docS T N i s o M x e → R (vF a k c an kn cn x a5 k5 c5 e) L (fL o a k c :: fN M an kn cn :: fI x.path a5 k5 c5 :: F)) :
    ACalls Tryz.prog W0 25 #[.agg #[.slice a k c, .slice a2 k2 c2], .int .i64 i, S s] L F R := by
  refine ACalls.out (R' := fun v L' F' => ∃ F'', Sub L' F' L' F'' ∧ R v L' F'') ?_ (fun v L' F' ⟨F'', h1, h2⟩ => ⟨L', F'', h1, h2⟩)
  refine rFind_c T N hg.1 i hg.2.1.1 hg.2.1.2 s mL mN mE (fun e he hx => ⟨_, Gh ?_, h [] [] noS e none 0 0 none 0 0 none 0 0 (.inl ⟨he, hx, rfl, rfl, rfl⟩)⟩) (fun o x a k c a5 k5 c5' hx => ⟨_, Gh ?_, h o N x 0 a k c a2 k2 c2 a5 k5 c5' (.inr ⟨rfl, hx, rfl⟩)⟩)
  · exact mem2 mE m4 (mem1 m1 (fun x hx => hx))
  exact mem2 memA (List.mem_cons_of_mem _ (List.mem_cons_of_mem _ mN)) (mem1 memA (fun x hx => List.mem_cons_of_mem _ (List.mem_cons_of_mem _ hx)))
end
end Go.Sy
namespace Go.Sy
open Go Go.Proofs Go.RowKit
theorem idx_word {l : List (List UInt8)} {w : List UInt8} {n : Nat} (hn : n < l.length) (h : l[n] = w) (hno : ∀ x ∈ l.take n, x ≠ w) : l.idxOf? w = some n := by
  unfold List.idxOf?
  rw [List.findIdx?_eq_some_iff_getElem]
  refine ⟨hn, by simp [h], fun j hj => ?_⟩
  have := hno l[j] (List.mem_take_iff_getElem.2 ⟨j, by omega, rfl⟩)
  simpa using this
theorem idx_not {l : List (List UInt8)} {w : List UInt8} (h : w ∉ l) : l.idxOf? w = none := by
  unfold List.idxOf?
  rw [List.findIdx?_eq_none_iff]
  intro x hx
  have : x ≠ w := fun e => h (e ▸ hx)
  simpa using this
section
variable {N : List Nmd} {B : List Int} {T T1 : List Ty} {i k e : Int} {l : List Tm}
theorem ins_none (h9 : (tyAt T i).kind = 9) (hb : boundR T B (tyAt T i) = none) : insideR N B T i l = .ok none := by unfold insideR; rw [if_pos h9, hb]; rfl
theorem ins_low (h9 : (tyAt T i).kind = 9) {b : Ty} (hb : boundR T B (tyAt T i) = some b) (h2 : ¬ 2 ≤ b.n) : insideR N B T i l = .ok none := by unfold insideR; rw [if_pos h9, hb]; simp only [Option.getD_some]; rw [if_neg h2]
theorem ins_all (h9 : (tyAt T i).kind = 9) {b : Ty} (hb : boundR T B (tyAt T i) = some b) (h2 : 2 ≤ b.n) : insideR N B T i l = allR (fun T x => withinR N T x l) (trmL b) T := by unfold insideR; rw [if_pos h9, hb]; simp only [Option.getD_some]; rw [if_pos h2]
theorem ins_err (h9 : (tyAt T i).kind ≠ 9) (hx : undR T N i = .error e) : insideR N B T i l = .error e := by unfold insideR; rw [if_neg h9, hx]
theorem ins_face (h9 : (tyAt T i).kind ≠ 9) (hx : undR T N i = .ok (T1, k)) (h7 : (tyAt T1 k).kind = 7) : insideR N B T i l = .ok none := by unfold insideR; rw [if_neg h9, hx]; simp only; rw [if_pos h7]
theorem ins_one (h9 : (tyAt T i).kind ≠ 9) (hx : undR T N i = .ok (T1, k)) (h7 : (tyAt T1 k).kind ≠ 7) : insideR N B T i l = withinR N T1 (([61] : List UInt8), i) l := by unfold insideR; rw [if_neg h9, hx]; simp only; rw [if_neg h7]
end
attribute [local irreducible] AC AT AO AK AH ACalls Sub Res.cells Res.obj Res.nix Res.own Res.map Exit.then Exit.inBlock bodyPost Code.wp Code.wpIn WL Next Post Kont
section
variable {W0 : World} {L : List Res} {F : List Fact} {R : Value → List Res → List Fact → Prop}
set_option maxRecDepth 100000
set_option maxHeartbeats 16000000
theorem toldT_c {ba ia : Nat} {a a2 a3 : Option Addr} {k c k2 c2 k3 c3 bm : Nat} (ha : L[ia]? = some (Res.cells ba (aCells a k c a2 k2 c2 a3 k3 c3 bm 0).toArray 140)) (h : R (.tuple #[.bool true, .int .i64 0]) L F) : ACalls Tryz.prog W0 75 #[.pointer (some ⟨ba, 0, none⟩), .bool true] L F R := by
  refine Gg Tryz.func75 HZ Tryz.ntmps75 HZ ?_
  refine qs 7 ?_
  refine GP (fun _ => false) [(ba, _, _)] bxA HZ (fun hx hX => ?_)
  refine GD (i := 0) HZ (Y.move HZ) Ja HZ HZ ?_
  refine qt [1, 2, 3, 4, 5] ?_
  refine Hf (i := 6) HZ (Y.eql HZ HZ) Ja HZ HZ (fun _ => ?_) (fun c12 => absurd c12 (by decide))
  refine qt [7, 8, 9, 10, 11, 12, 13] ?_
  refine Gq Ja ?_
  refine qs 2 ?_
  exact Hp (L' := L) (F' := F) Tryz.results75 rfl rfl subA h
theorem toldF_c {ba ia : Nat} {a a2 a3 : Option Addr} {k c k2 c2 k3 c3 bm : Nat} {e : Int} (ha : L[ia]? = some (Res.cells ba (aCells a k c a2 k2 c2 a3 k3 c3 bm e).toArray 140)) (h : R (.tuple #[.bool false, .int .i64 e]) L F) : ACalls Tryz.prog W0 75 #[.pointer (some ⟨ba, 0, none⟩), .bool false] L F R := by
  refine Gg Tryz.func75 HZ Tryz.ntmps75 HZ ?_
  refine qs 7 ?_
  refine GP (fun _ => false) [(ba, _, _)] bxA HZ (fun hx hX => ?_)
  refine GD (i := 0) HZ (Y.move HZ) Ja HZ HZ ?_
  refine qt [1, 2, 3, 4, 5, 6, 7, 8, 9, 10, 11, 12, 13] ?_
  refine Gq Ja ?_
  refine qs 2 ?_
  exact Hp (L' := L) (F' := F) Tryz.results75 rfl rfl subA h
theorem tindexS_c (l : List (List UInt8)) (hl : l.length ≤ 1000000) (w : List UInt8) {a : Option Addr} {k c : Nat} (m1 : fS l a k c ∈ F)
    (hT : ∀ n : Nat, (hn : n < l.length) → l.idxOf? w = some n → R (.int .i64 n) L F) (hF : l.idxOf? w = none → R (.int .i64 (-1)) L F) : ACalls Tryz.prog W0 134 #[.slice a k c, S w] L F R := by
  refine Gg Tryz.func134 HZ Tryz.ntmps134 HZ ?_
  refine qs 9 ?_
  refine Ga (Gt HZ HZ (fun hl7 => ?_) (enc := eS) (lst := l) (hm := memA))
  refine qs 4 ?_
  refine GB (fun (v : Nat) => v ≤ l.length ∧ ∀ x ∈ l.take v, x ≠ w) (fun v => [(0, .slice a k c), (1, S w), (6, .slice a k c), (7, .int .i64 l.length), (8, .int .i64 (v : Int))]) (fun _ => _) (fun _ => _) (fun v => l.length - v) 0 ⟨Nat.zero_le _, by simp⟩ srA (Gf _ _) ?_
  rintro v ⟨hv, hno⟩
  refine qs 2 ?_
  refine Ga (Gw HZ HZ HZ (fun c9 => ?_) (fun c9 => ?_))
  ·refine qs 19 ?_
   have hvl : v < l.length := by omega
   refine Ga (Gd HZ HZ HZ HZ (enc := eS) (lst := l) memA hvl (fun _ _ => ?_))
   refine Ga (Gs HZ HZ ?_)
   intros
   refine Ga (Hi HZ HZ HZ (fun c16 => ?_) (fun c16 => ?_))
   ·refine qs 15 ?_
    exact Gb (L' := L) (F' := F) Tryz.results134 rfl subA (hT v hvl (idx_word hvl c16.symm hno))
   refine qs 10 ?_
   exact Gk (v + 1) ⟨hvl, fun x hx => by
    rw [List.take_succ_eq_append_getElem hvl] at hx
    rcases List.mem_append.1 hx with hx | hx
    · exact hno x hx
    rw [List.mem_singleton.1 hx]; exact fun e => c16 e.symm⟩ Jb srA subF
  refine qs 15 ?_
  obtain rfl : v = l.length := by omega
  rw [List.take_length] at hno
  exact Gb (L' := L) (F' := F) Tryz.results134 rfl subA (hF (idx_not fun h => hno w h rfl))
theorem twithin2_c (g : Glob W0) (T : List Ty) (N : List Nmd) (hno : ∀ n ∈ N, NmOk n) (hu : rightU T N) (x : Tm) (h0 : 0 ≤ x.2) (hi : x.2 < T.length) (l : List Tm) (hl : l.length ≤ 1000000) (Lf : List Value → List Res) {a a2 a3 a4 : Option Addr} {k c k2 c2 k3 c3 k4 c4 bm ba ia : Nat} (HA : ∀ w, (Lf w)[ia]? = some (Res.cells ba w.toArray 140)) (SA : ∀ w w', (Lf w).set ia (Res.cells ba w'.toArray 140) = Lf w') (mL : fL T a k c ∈ F) (mN : fN N a2 k2 c2 ∈ F) (mE : Fact.slc (.slice none 0 0) 5 [] ∈ F) (mT : fTm l a4 k4 c4 ∈ F)
    (hT : ∀ o a k c, withinR N T x l = .ok (some o) → R (.bool true) (Lf (aCells a k c a2 k2 c2 a3 k3 c3 bm 0)) (fL o a k c :: F))
    (hN : ∀ e a k c, badO (withinR N T x l) e → R (.bool false) (Lf (aCells a k c a2 k2 c2 a3 k3 c3 bm e)) F) :
    ACalls Tryz.prog W0 136 #[.pointer (some ⟨ba, 0, none⟩), vTm x, .slice a4 k4 c4] (Lf (aCells a k c a2 k2 c2 a3 k3 c3 bm 0)) F R :=
  twithin_c g T N hno hu x h0 hi l hl (HA _) mL mN mE mT (fun e he hx => by rw [SA]; exact hN e a k c (.inl ⟨he, hx⟩)) (fun a k c hx => by rw [SA]; exact hN 0 a k c (.inr ⟨rfl, hx⟩)) (fun o a k c hx => by rw [SA]; exact hT o a k c hx)
theorem tunder2_c (g : Glob W0) (T : List Ty) (N : List Nmd) (hno : ∀ n ∈ N, NmOk n) (hu : rightU T N) (i : Int) (h0 : 0 ≤ i) (hi : i < T.length) (Lf : List Value → List Res) {a a2 a3 : Option Addr} {k c k2 c2 k3 c3 bm ba ia : Nat} (HA : ∀ w, (Lf w)[ia]? = some (Res.cells ba w.toArray 140)) (SA : ∀ w w', (Lf w).set ia (Res.cells ba w'.toArray 140) = Lf w') (mL : fL T a k c ∈ F) (mN : fN N a2 k2 c2 ∈ F) (mE : Fact.slc (.slice none 0 0) 5 [] ∈ F)
    (hE : ∀ e, e ≠ 0 → undR T N i = .error e → R (.int .i64 0) (Lf (aCells a k c a2 k2 c2 a3 k3 c3 bm e)) F)
    (hO : ∀ o q a k c, undR T N i = .ok (o, q) → R (.int .i64 q) (Lf (aCells a k c a2 k2 c2 a3 k3 c3 bm 0)) (fL o a k c :: F)) :
    ACalls Tryz.prog W0 129 #[.pointer (some ⟨ba, 0, none⟩), .int .i64 i] (Lf (aCells a k c a2 k2 c2 a3 k3 c3 bm 0)) F R :=
  tunder_c g T N hno hu i h0 hi (HA _) mL mN mE (fun e he hx => by rw [SA]; exact hE e he hx) (fun o q a k c hx => by rw [SA]; exact hO o q a k c hx)
theorem tin1_c (g : Glob W0) (T : List Ty) (N : List Nmd) (hno : ∀ n ∈ N, NmOk n) (hu : rightU T N) (x : Tm) (h0 : 0 ≤ x.2) (hi : x.2 < T.length) (l : List Tm) (hl : l.length ≤ 1000000) (Lf : List Value → List Res) {a a2 a3 a4 : Option Addr} {k c k2 c2 k3 c3 k4 c4 bm ba ia b3 b5 i3 i5 : Nat} (HA : ∀ w, (Lf w)[ia]? = some (Res.cells ba w.toArray 140)) (SA : ∀ w w', (Lf w).set ia (Res.cells ba w'.toArray 140) = Lf w')
    (H3 : ∀ w, (Lf w)[i3]? = some (Res.cells b3 #[.pointer (some ⟨ba, 0, none⟩)] 111)) (H5 : ∀ w, (Lf w)[i5]? = some (Res.cells b5 #[.slice a4 k4 c4] 118)) (mL : fL T a k c ∈ F) (mN : fN N a2 k2 c2 ∈ F) (mE : Fact.slc (.slice none 0 0) 5 [] ∈ F) (mT : fTm l a4 k4 c4 ∈ F)
    (hT : ∀ o a k c, withinR N T x l = .ok (some o) → R (.bool true) (Lf (aCells a k c a2 k2 c2 a3 k3 c3 bm 0)) (fL o a k c :: F))
    (hN : ∀ e a k c, badO (withinR N T x l) e → R (.bool false) (Lf (aCells a k c a2 k2 c2 a3 k3 c3 bm e)) F) :
    ACalls Tryz.prog W0 135 #[vTm x, .pointer (some ⟨b3, 0, none⟩), .pointer (some ⟨b5, 0, none⟩)] (Lf (aCells a k c a2 k2 c2 a3 k3 c3 bm 0)) F R := by
  refine Gg Tryz.func135 HZ Tryz.ntmps135 HZ ?_
  refine qs 2 ?_
  refine Ga (GL HZ HZ (fun b3 => ?_))
  refine qs 5 ?_
  refine Ga (Gy HZ HZ ?_ (i := i3 + 1) (hi := H3 _) (hv := HZ))
  refine qs 1 ?_
  refine Ga (Gy HZ HZ ?_ (i := i5 + 1) (hi := H5 _) (hv := HZ))
  refine Ga (Ge HZ HZ (twithin2_c g T N hno hu x h0 hi l hl (fun w => _ :: Lf w) (ia := ia + 1) HA (fun w w' => congrArg (_ :: ·) (SA w w')) mL mN mE mT (fun o a8 k8 c8 hx => ?_) (fun e a8 k8 c8 hx => ?_)))
  ·refine qs 4 ?_
   exact Gb (L' := Lf (aCells a8 k8 c8 a2 k2 c2 a3 k3 c3 bm 0)) (F' := fL o a8 k8 c8 :: F) Tryz.results135 rfl Gv (hT o a8 k8 c8 hx)
  refine qs 4 ?_
  exact Gb (L' := Lf (aCells a8 k8 c8 a2 k2 c2 a3 k3 c3 bm e)) (F' := F) Tryz.results135 rfl Gv (hN e a8 k8 c8 hx)
theorem tinside_c (g : Glob W0) (N : List Nmd) (hno : ∀ n ∈ N, NmOk n) (B : List Int) (T : List Ty) (hu : rightU T N) (hB : bndP T B) (i : Int) (h0 : 0 ≤ i) (hi : i < T.length) (l : List Tm) (hl : l.length ≤ 1000000) (Lf : List Value → List Res) {a a2 a3 a4 : Option Addr} {k c k2 c2 k3 c3 k4 c4 bm ba ia : Nat} (HA : ∀ w, (Lf w)[ia]? = some (Res.cells ba w.toArray 140)) (SA : ∀ w w', (Lf w).set ia (Res.cells ba w'.toArray 140) = Lf w')
    (mL : fL T a k c ∈ F) (mN : fN N a2 k2 c2 ∈ F) (mB : fI B a3 k3 c3 ∈ F) (mE : Fact.slc (.slice none 0 0) 5 [] ∈ F) (mT : fTm l a4 k4 c4 ∈ F)
    (hT : ∀ o a k c, insideR N B T i l = .ok (some o) → R (.bool true) (Lf (aCells a k c a2 k2 c2 a3 k3 c3 bm 0)) (fL o a k c :: F))
    (hN : ∀ e a k c, badO (insideR N B T i l) e → R (.bool false) (Lf (aCells a k c a2 k2 c2 a3 k3 c3 bm e)) F) :
    ACalls Tryz.prog W0 79 #[.pointer (some ⟨ba, 0, none⟩), .int .i64 i, .slice a4 k4 c4] (Lf (aCells a k c a2 k2 c2 a3 k3 c3 bm 0)) F R := by
  obtain ⟨hin, hie⟩ := GS h0 hi
  refine Gg Tryz.func79 HZ Tryz.ntmps79 HZ ?_
  refine qs 2 ?_
  refine Ga (GL HZ HZ (fun b3 => (Ga (GL HZ HZ (fun b5 => ?_)))))
  refine qs 6 ?_
  refine Ga (GF HZ HZ ?_)
  refine qs 2 ?_
  refine Ga (Gy (cs := aCells a k c a2 k2 c2 a3 k3 c3 bm 0) HZ HZ ?_ (i := ia + 2) (hi := HA _) (hv := HZ))
  refine qs 1 ?_
  refine Ga (Gd (k := i.toNat) HZ HZ HZ Jb (enc := eTy) (lst := T) (show fL T a k c ∈ _ from memA) hin (fun _ _ => ?_))
  refine Ga (GN HZ HZ ?_)
  intro a18 k18 z18 d18 e18 f18
  refine Ga (Gj HZ (fun b7 => ?_))
  refine qs 8 ?_
  refine Ga (Gr HZ HZ HZ (fun c21 => ?_) (fun c21 => ?_))
  ·refine qs 7 ?_
   have h9 : (tyAt T i).kind = 9 := by rw [hie]; exact c21
   have hpn := param_n hu.1 h0 hi h9
   rw [hie] at hpn
   refine Ga (Ge HZ HZ (tbound_c T B hB T[i.toNat] hpn.1 (ia := ia + 3) (HA _) (show fL T a k c ∈ _ from memA) (show fI B a3 k3 c3 ∈ _ from memA) (fun b a5 k5 c5 a6 k6 c6 hb => ?_) (fun hb => ?_)))
   ·refine qs 3 ?_
    refine Ga (Gj HZ (fun b8 => ?_))
    refine qs 5 ?_
    refine GP (fun _ => false) [(b8, _, _), (b3, _, _)] bxA HZ (fun hx hX => ?_)
    refine qt [0] ?_
    have hbd : boundR T B (tyAt T i) = some b := by rw [hie]; exact hb
    obtain ⟨kb, _, kb0, kb1, hbe, hb7, _⟩ := bound_is hB hpn.1 hb
    obtain ⟨hkb, hke⟩ := GS kb0 kb1
    have hif := iface_n hu.1 kb0 kb1 (by rw [← hbe]; exact hb7)
    have htm := trm_there hu.1 kb0 kb1 (by rw [← hbe]; exact hb7)
    have hokb := Hj hu.1 _ (List.getElem_mem hkb)
    rw [← hke, ← hbe] at hokb
    rw [← hbe] at hif htm
    refine Gm (i := 1) Ja HZ HZ (fun _ => ?_)
    refine Ge HZ HZ (trestricts_c b (fun c29 => ?_) (fun c29 => ?_))
    all_goals refine Gi bxA memB ?_
    ·refine qt [2, 3, 4] ?_
     refine GD (i := 6) HZ (Y.makeFunc HZ) Ja HZ HZ ?_
     refine Gm (i := 5) Ja HZ HZ (fun _ => ?_)
     refine Ge HZ HZ (tterms_c b hokb.words (Nat.le_of_eq hif.2.2) (show fW b a5 k5 c5 ∈ _ from memA) (show fK b a6 k6 c6 ∈ _ from memA) (fun a33 k33 c33 => ?_))
     refine Gi bxA memB ?_
     refine Gm (i := 7) Ja HZ HZ (fun _ => ?_)
     have hal := ins_all (N := N) (l := l) h9 hbd c29
     have hwl := trmN_len b b.words.length
     refine Ge HZ HZ (Hm (Gh (F' := fL T a k c :: fTm (trmL b) a33 k33 c33 :: Fact.held hx :: F) (mem2 memA memA (mem1 memA (fun x hx => by repeat (first | exact hx | refine List.mem_cons_of_mem _ ?_))))) (tallT_c (σ := List Ty) (μ := Option Addr × Nat × Nat) (fun s x => withinR N s x l) (trmL b) (by have := hokb.words; unfold trmL; omega) (fun s x => rightU s N ∧ T <+: s) (fun x e => _ :: _ :: _ :: _ :: Lf (aCells x.1 x.2.1 x.2.2 a2 k2 c2 a3 k3 c3 bm e)) (fun s x => fL s x.1 x.2.1 x.2.2 :: fTm (trmL b) a33 k33 c33 :: Fact.held hx :: F) (Fact.held hx :: F) (fun x e => aCells x.1 x.2.1 x.2.2 a2 k2 c2 a3 k3 c3 bm e) (ia := ia + 4) (fun x e => HA _) (fun x e => rfl) (fun s x => .tail _ (.head _)) (cs := [.pointer (some ⟨b3, 0, none⟩), .pointer (some ⟨b5, 0, none⟩)])
     (fun A' q' hq' s x R' hIx hy hn => ACalls.out (R' := fun v L' F' => ∃ F'', Sub L' F' L' F'' ∧ R' v L' F'') (tin1_c g s N hno hIx.1 _ (htm _ (List.getElem_mem hq')).1 (by have := (htm _ (List.getElem_mem hq')).2; have := hIx.2.length_le; omega) l hl (fun w => A' ++ (_ :: _ :: _ :: _ :: Lf w)) (ia := A'.length + (ia + 4)) (i3 := A'.length + 3) (i5 := A'.length + 2) (fun w => (getP _).trans (HA w)) (fun w w' => (setP _ _).trans (congrArg (fun z => A' ++ (_ :: _ :: _ :: _ :: z)) (SA w w'))) (fun w => (getP _).trans rfl) (fun w => (getP _).trans rfl) (.head _) (.tail _ (.tail _ (.tail _ mN))) (.tail _ (.tail _ (.tail _ mE))) (.tail _ (.tail _ (.tail _ mT))) (fun o a k c hx2 => ⟨_, Gh (mem1 (.head _) (fun z hz => .tail _ (.tail _ hz))), hy o (a, k, c) hx2 (by have hw := within_ok hIx.1 (htm _ (List.getElem_mem hq')).1 (by have := (htm _ (List.getElem_mem hq')).2; have := hIx.2.length_le; omega) hx2; exact ⟨hw.1, hIx.2.trans hw.2⟩)⟩) (fun e a k c hb => ⟨_, Gh (fun z hz => .tail _ (.tail _ hz)), hn e (a, k, c) hb⟩)) (fun v L' F' ⟨F'', h1, h2⟩ => ⟨L', F'', h1, h2⟩))
     T (a, k, c) ⟨hu, List.prefix_rfl⟩ (fun s x hx2 hs2 => ?_) (fun e x hb2 => ?_)))
     all_goals refine Gi bxA memB ?_
     ·refine qt [8, 9] ?_
      refine Gq Ja ?_
      refine qs 3 ?_
      exact Gb (L' := Lf (aCells x.1 x.2.1 x.2.2 a2 k2 c2 a3 k3 c3 bm 0)) (F' := fL s x.1 x.2.1 x.2.2 :: F) Tryz.results79 rfl (by repeat (first | exact Gh (mem1 memA (fun x hx => by repeat (first | exact hx | refine List.mem_cons_of_mem _ ?_))) | refine GI Gv ?_)) (hT s _ _ _ (hal.trans hx2))
     refine qt [8, 9] ?_
     refine Gq Ja ?_
     refine qs 3 ?_
     exact Gb (L' := Lf (aCells x.1 x.2.1 x.2.2 a2 k2 c2 a3 k3 c3 bm e)) (F' := F) Tryz.results79 rfl subA (hN e _ _ _ (by rw [hal]; exact hb2))
    refine qt [2, 3, 4, 6, 5, 7, 8, 9] ?_
    refine Gq Ja ?_
    refine qs 3 ?_
    exact Gb (L' := Lf (aCells a k c a2 k2 c2 a3 k3 c3 bm 0)) (F' := F) Tryz.results79 rfl subA (hN 0 a k c (.inr ⟨rfl, ins_low h9 hbd c29⟩))
   refine qs 3 ?_
   refine Ga (Gj HZ (fun b8 => ?_))
   refine qs 5 ?_
   refine GP (fun _ => false) [(b8, _, _), (b3, _, _)] bxA HZ (fun hx hX => ?_)
   refine qt [0] ?_
   refine Gm (i := 1) Ja HZ HZ (fun _ => ?_)
   refine Ge HZ HZ (trestricts_c noTy (fun c29 => absurd c29 (by decide)) (fun c29 => ?_))
   refine Gi bxA memB ?_
   refine qt [2, 3, 4, 6, 5, 7, 8, 9] ?_
   refine Gq Ja ?_
   refine qs 3 ?_
   exact Gb (L' := Lf (aCells a k c a2 k2 c2 a3 k3 c3 bm 0)) (F' := F) Tryz.results79 rfl subA (hN 0 a k c (.inr ⟨rfl, ins_none h9 (by rw [hie]; exact hb)⟩))
  refine qs 9 ?_
  have h9 : (tyAt T i).kind ≠ 9 := by rw [hie]; exact c21
  refine Ga (Ge HZ HZ (tunder2_c g T N hno hu i h0 hi (fun w => _ :: _ :: _ :: Lf w) (ia := ia + 3) HA (fun w w' => congrArg (fun z => _ :: _ :: _ :: z) (SA w w')) (show fL T a k c ∈ _ from memA) (show fN N a2 k2 c2 ∈ _ from memA) memA (fun e he hud => ?_) (fun T1 q a39 k39 c39 hud => ?_)))
  ·refine qs 6 ?_
   refine Ga (GF HZ HZ ?_)
   refine qs 1 ?_
   refine Ga (Gy (cs := aCells a k c a2 k2 c2 a3 k3 c3 bm e) HZ HZ ?_ (i := ia + 3) (hi := HA _) (hv := HZ))
   refine Ga (Gr HZ HZ HZ (fun c44 => absurd c44 he) (fun _ => ?_))
   refine qs 23 ?_
   exact Gb (L' := Lf (aCells a k c a2 k2 c2 a3 k3 c3 bm e)) (F' := F) Tryz.results79 rfl subA (hN e _ _ _ (.inl ⟨he, ins_err h9 hud⟩))
  refine qs 6 ?_
  refine Ga (GF HZ HZ ?_)
  refine qs 1 ?_
  refine Ga (Gy (cs := aCells a39 k39 c39 a2 k2 c2 a3 k3 c3 bm 0) HZ HZ ?_ (i := ia + 3) (hi := HA _) (hv := HZ))
  obtain ⟨u1, u2, u3, u4⟩ := undR_ok hu h0 hi hud
  obtain ⟨hqn, hqe⟩ := GS u3 u4
  refine Ga (Gr HZ HZ HZ (fun _ => ?_) (fun c44 => absurd HZ c44))
  refine qs 2 ?_
  refine Gc HZ HZ (GF HZ HZ ?_)
  refine qs 2 ?_
  refine Gc HZ HZ (Gy (cs := aCells a39 k39 c39 a2 k2 c2 a3 k3 c3 bm 0) HZ HZ ?_ (i := ia + 3) (hi := HA _) (hv := HZ))
  refine qs 1 ?_
  refine Gc HZ HZ (Gd (k := q.toNat) HZ HZ HZ Jb (enc := eTy) (lst := T1) (show fL T1 a39 k39 c39 ∈ _ from memA) hqn (fun _ _ => ?_))
  refine Gc HZ HZ (Ha HZ HZ (fun _ => ?_))
  refine Gc HZ HZ (Gs HZ HZ ?_)
  intros
  refine Gc HZ HZ (GG HZ HZ HZ (fun c55 => ?_) (fun c55 => ?_))
  ·refine qs 4 ?_
   refine Gc HZ HZ (GO HZ HZ HZ ?_)
   refine qs 1 ?_
   have hon := ins_one (N := N) (B := B) (l := l) h9 hud (by rw [hqe]; exact c55)
   have hil : i < T1.length := by have := u2.length_le; omega
   refine Gc HZ HZ (Ge HZ HZ (twithin2_c g T1 N hno u1 ([61], i) h0 hil l hl (fun w => _ :: _ :: _ :: Lf w) (ia := ia + 3) HA (fun w w' => congrArg (fun z => _ :: _ :: _ :: z) (SA w w')) (show fL T1 a39 k39 c39 ∈ _ from memA) (show fN N a2 k2 c2 ∈ _ from memA) memA (show fTm l a4 k4 c4 ∈ _ from memA) (fun o a62 k62 c62 hx => ?_) (fun e a62 k62 c62 hx => ?_)))
   ·refine qs 5 ?_
    exact Gb (L' := Lf (aCells a62 k62 c62 a2 k2 c2 a3 k3 c3 bm 0)) (F' := fL o a62 k62 c62 :: F) Tryz.results79 rfl (by repeat (first | exact Gh (mem1 memA (fun x hx => by repeat (first | exact hx | refine List.mem_cons_of_mem _ ?_))) | refine GI Gv ?_)) (hT o _ _ _ (hon.trans hx))
   refine qs 5 ?_
   exact Gb (L' := Lf (aCells a62 k62 c62 a2 k2 c2 a3 k3 c3 bm e)) (F' := F) Tryz.results79 rfl subA (hN e _ _ _ (by rw [hon]; exact hx))
  refine qs 12 ?_
  exact Gb (L' := Lf (aCells a39 k39 c39 a2 k2 c2 a3 k3 c3 bm 0)) (F' := F) Tryz.results79 rfl subA (hN 0 _ _ _ (.inr ⟨rfl, ins_face h9 hud (by rw [hqe]; exact c55)⟩))
end
end Go.Sy
namespace Go.Sy
open Go Go.Proofs Go.RowKit
def badM (r : Except Int Bool) (e : Int) : Prop := (e ≠ 0 ∧ r = .error e) ∨ (e = 0 ∧ r = .ok false)
def tellB (r : Except Int Bool) (is : Bool) (e : Int) : Prop := (is = true ∧ e = 0 ∧ r = .ok true) ∨ (is = false ∧ badM r e)
def tellC {σ : Type} (r : Except Int (Option σ)) (is : Bool) (e : Int) : Prop := (is = true ∧ e = 0 ∧ ∃ s, r = .ok (some s)) ∨ (is = false ∧ badO r e)
def badA (T : List Ty) (N : List Nmd) (B pl : List Int) (e : Int) : Prop := (¬(rightU T N ∧ bndP T B) ∧ e = 1) ∨ ((rightU T N ∧ bndP T B) ∧ ¬(∀ p ∈ pl, 0 ≤ p ∧ p < T.length) ∧ e = 8)
def goodA (T : List Ty) (N : List Nmd) (B pl : List Int) : Prop := (rightU T N ∧ bndP T B) ∧ ∀ p ∈ pl, 0 ≤ p ∧ p < T.length
theorem meth_par {N : List Nmd} {B : List Int} {T : List Ty} {i g : Int} {w : List UInt8} (h9 : (tyAt T i).kind = 9) : methR N B T i w g = .ok (kidOf ((boundR T B (tyAt T i)).getD noTy) w == some g) := by unfold methR; rw [if_pos h9]
theorem kid_some {b : Ty} {w : List UInt8} {n : Nat} (h : b.words.idxOf? w = some n) (hn : n < b.kids.length) : kidOf b w = some b.kids[n] := by unfold kidOf; rw [h]; simp only [Option.map_some]; rw [GK 0 hn]
theorem kid_none {b : Ty} {w : List UInt8} (h : b.words.idxOf? w = none) : kidOf b w = none := by unfold kidOf; rw [h]; rfl
theorem meth_sel {N M : List Nmd} {B : List Int} {T o : List Ty} {i g e : Int} {w : List UInt8} {x : SelV} (hu : rightU T N) (hi : 0 ≤ i ∧ i < T.length) (hn : isName w = true) (h9 : (tyAt T i).kind ≠ 9) (hs : selP T N i w o M x e) :
    (e = 0 → methR N B T i w g = .ok (x.method && decide (x.typ = g) && (!x.ptr || x.via))) ∧ (e = 1 ∨ e = 8 ∨ e = 9 → methR N B T i w g = .ok false) ∧ (e ≠ 0 → ¬(e = 1 ∨ e = 8 ∨ e = 9) → methR N B T i w g = .error e) := by
  unfold methR
  rw [if_neg h9]
  rcases hs with ⟨h0, hb | ⟨⟨_, _, _, g4⟩, hx⟩, _⟩ | ⟨h0, ⟨_, _, _, g4⟩, hx, _⟩
  · obtain ⟨hw, he⟩ : w = [95] ∧ e = 1 := by
      rcases hb with ⟨h, _⟩ | ⟨_, h, _⟩ | ⟨_, _, h | h, he⟩
      · exact absurd hu h
      · exact absurd hi h
      · rw [hn] at h; cases h
      exact ⟨h, he⟩
    rw [if_pos hw]
    exact ⟨fun h => absurd h h0, fun _ => rfl, fun _ h => absurd (.inl he) h⟩
  · rw [if_neg g4, hx]
    simp only
    exact ⟨fun h => absurd h h0, fun h => if_pos h, fun _ h => if_neg h⟩
  rw [if_neg g4, hx]
  exact ⟨fun _ => rfl, fun h => by omega, fun h => absurd h0 h⟩
attribute [local irreducible] AC AT AO AK AH ACalls Sub Res.cells Res.obj Res.nix Res.own Res.map Exit.then Exit.inBlock bodyPost Code.wp Code.wpIn WL Next Post Kont
section
variable {W0 : World} {L : List Res} {F : List Fact} {R : Value → List Res → List Fact → Prop}
set_option maxRecDepth 100000
set_option maxHeartbeats 16000000
theorem tmethod_c (g : Glob W0) (N : List Nmd) (hno : ∀ n ∈ N, NmOk n) (B : List Int) (T : List Ty) (hu : rightU T N) (hB : bndP T B) (i : Int) (hi : 0 ≤ i ∧ i < T.length) (w : List UInt8) (hnm : isName w = true) (sg : Int) (Lf : List Value → List Res) {a a2 a3 : Option Addr} {k c k2 c2 k3 c3 bm ba ia : Nat} (HA : ∀ w, (Lf w)[ia]? = some (Res.cells ba w.toArray 140)) (SA : ∀ w w', (Lf w).set ia (Res.cells ba w'.toArray 140) = Lf w')
    (mL : fL T a k c ∈ F) (mN : fN N a2 k2 c2 ∈ F) (mB : fI B a3 k3 c3 ∈ F) (mE : Fact.slc (.slice none 0 0) 5 [] ∈ F) (mM : Fact.slc (.slice none 0 0) 3 [] ∈ F) (m4 : Fact.slc (.slice none 0 0) 4 [] ∈ F) (m1 : Fact.slc (.slice none 0 0) 1 [] ∈ F)
    (hT : methR N B T i w sg = .ok true → R (.bool true) (Lf (aCells a k c a2 k2 c2 a3 k3 c3 bm 0)) F)
    (hN : ∀ e, badM (methR N B T i w sg) e → R (.bool false) (Lf (aCells a k c a2 k2 c2 a3 k3 c3 bm e)) F) :
    ACalls Tryz.prog W0 77 #[.pointer (some ⟨ba, 0, none⟩), .int .i64 i, S w, .int .i64 sg] (Lf (aCells a k c a2 k2 c2 a3 k3 c3 bm 0)) F R := by
  obtain ⟨hin, hie⟩ := GS hi.1 hi.2
  have hok := Hj hu.1
  refine Gg Tryz.func77 HZ Tryz.ntmps77 HZ ?_
  refine qs 8 ?_
  refine Ga (GF HZ HZ ?_)
  refine qs 2 ?_
  refine Ga (Gy (cs := aCells a k c a2 k2 c2 a3 k3 c3 bm 0) HZ HZ ?_ (i := ia) (hi := HA _) (hv := HZ))
  refine qs 1 ?_
  refine Ga (Gd (k := i.toNat) HZ HZ HZ Jb (enc := eTy) (lst := T) (show fL T a k c ∈ _ from memA) hin (fun _ _ => ?_))
  refine Ga (GN HZ HZ ?_)
  intro a23 k23 z23 d23 e23 f23
  refine Ga (Gj HZ (fun b9 => ?_))
  refine qs 8 ?_
  refine Ga (GG HZ HZ HZ (fun c26 => ?_) (fun c26 => ?_))
  ·refine qs 6 ?_
   refine Ga (GF HZ HZ ?_)
   refine qs 1 ?_
   refine Ga (HD (cs := aCells a k c a2 k2 c2 a3 k3 c3 bm 0) HZ HZ ?_ (i := ia + 1) (hi := HA _) (hk := HZ))
   refine qs 2 ?_
   refine Ga (Ge HZ HZ (sFind2_c g T N hok hno i w (show fL T a k c ∈ _ from memA) (show fN N a2 k2 c2 ∈ _ from memA) memA memA memA memA (fun o M x e a34 k34 c34 an kn cn a35 k35 c35 hs => ?_)))
   obtain ⟨hm0, hm1, hm2⟩ := meth_sel (B := B) (g := sg) hu hi hnm (by rw [hie]; exact c26) hs
   obtain ⟨mt, ty, pt, vi, pa⟩ := x
   refine qs 4 ?_
   refine Ga (Gj HZ (fun b10 => (Ga (Gj HZ (fun b11 => ?_)))))
   refine qs 14 ?_
   refine Ga (Gr HZ HZ HZ (fun c40 => ?_) (fun c40 => ?_))
   ·refine qs 7 ?_
    rw [c40] at hm0
    replace hm0 := hm0 rfl
    rcases Bool.eq_false_or_eq_true mt with rfl | rfl
    all_goals refine Ga (Gy rfl rfl ?_)
    ·refine qs 4 ?_
     refine Gc HZ HZ (Gr HZ HZ HZ (fun c47 => ?_) (fun c47 => ?_))
     ·refine qs 3 ?_
      rcases Bool.eq_false_or_eq_true pt with rfl | rfl
      all_goals refine Gc rfl rfl (Gy rfl rfl ?_)
      ·refine qs 3 ?_
       rcases Bool.eq_false_or_eq_true vi with rfl | rfl
       all_goals refine Gc rfl rfl (Gy rfl rfl ?_)
       ·refine qs 9 ?_
        exact Gb (L' := Lf (aCells a k c a2 k2 c2 a3 k3 c3 bm 0)) (F' := F) Tryz.results77 rfl subA (hT (by rw [hm0]; have c48 : ty = sg := c47; simp [c48]))
       refine qs 9 ?_
       exact Gb (L' := Lf (aCells a k c a2 k2 c2 a3 k3 c3 bm 0)) (F' := F) Tryz.results77 rfl subA (hN 0 (.inr ⟨rfl, by rw [hm0]; have c48 : ty = sg := c47; simp [c48]⟩))
      refine qs 13 ?_
      exact Gb (L' := Lf (aCells a k c a2 k2 c2 a3 k3 c3 bm 0)) (F' := F) Tryz.results77 rfl subA (hT (by rw [hm0]; have c48 : ty = sg := c47; simp [c48]))
     refine qs 17 ?_
     exact Gb (L' := Lf (aCells a k c a2 k2 c2 a3 k3 c3 bm 0)) (F' := F) Tryz.results77 rfl subA (hN 0 (.inr ⟨rfl, by rw [hm0]; have c48 : ty ≠ sg := c47; simp [c48]⟩))
    refine qs 22 ?_
    exact Gb (L' := Lf (aCells a k c a2 k2 c2 a3 k3 c3 bm 0)) (F' := F) Tryz.results77 rfl subA (hN 0 (.inr ⟨rfl, by rw [hm0]; rfl⟩))
   refine qs 7 ?_
   refine Ga (Gr HZ HZ HZ (fun c59 => ?_) (fun c59 => ?_))
   ·refine qs 16 ?_
    exact Gb (L' := Lf (aCells a k c a2 k2 c2 a3 k3 c3 bm 0)) (F' := F) Tryz.results77 rfl subA (hN 0 (.inr ⟨rfl, hm1 Jb⟩))
   refine qs 6 ?_
   refine Ga (Gr HZ HZ HZ (fun c60 => ?_) (fun c60 => ?_))
   ·refine qs 16 ?_
    exact Gb (L' := Lf (aCells a k c a2 k2 c2 a3 k3 c3 bm 0)) (F' := F) Tryz.results77 rfl subA (hN 0 (.inr ⟨rfl, hm1 Jb⟩))
   refine qs 5 ?_
   refine Ga (Gr HZ HZ HZ (fun c61 => ?_) (fun c61 => ?_))
   ·refine qs 13 ?_
    exact Gb (L' := Lf (aCells a k c a2 k2 c2 a3 k3 c3 bm 0)) (F' := F) Tryz.results77 rfl subA (hN 0 (.inr ⟨rfl, hm1 Jb⟩))
   refine qs 11 ?_
   refine Ga (GF HZ HZ ?_)
   refine qs 1 ?_
   refine Ga (GM (cs := aCells a k c a2 k2 c2 a3 k3 c3 bm 0) HZ HZ HZ ?_ (i := ia + 3) (hi := HA _) (ho := HZ))
   refine AL.weak (SubR.refl _) (Hk (show _ = _ :: _ :: _ :: Lf (aCells a k c a2 k2 c2 a3 k3 c3 bm e) from congrArg (fun z => _ :: _ :: _ :: z) (SA _ _))) ?_
   refine qs 9 ?_
   exact Gb (L' := Lf (aCells a k c a2 k2 c2 a3 k3 c3 bm e)) (F' := F) Tryz.results77 rfl subA (hN e (.inl ⟨c40, hm2 c40 Jb⟩))
  refine qs 9 ?_
  have h9 : (tyAt T i).kind = 9 := by rw [hie]; exact c26
  have hpn := param_n hu.1 hi.1 hi.2 h9
  rw [hie] at hpn
  have hmp := meth_par (N := N) (B := B) (g := sg) (w := w) h9
  rw [hie] at hmp
  refine Ga (Ge HZ HZ (tbound_c T B hB T[i.toNat] hpn.1 (ia := ia + 1) (HA _) (show fL T a k c ∈ _ from memA) (show fI B a3 k3 c3 ∈ _ from memA) (fun b a5 k5 c5 a6 k6 c6 hb => ?_) (fun hb => ?_)))
  all_goals rw [hb] at hmp
  ·refine qs 3 ?_
   refine Ga (Gj HZ (fun b13 => ?_))
   refine qs 9 ?_
   simp only [Option.getD_some] at hmp
   obtain ⟨kb, _, kb0, kb1, hbe, hb7, _⟩ := bound_is hB hpn.1 hb
   obtain ⟨hkb, hke⟩ := GS kb0 kb1
   have hif := iface_n hu.1 kb0 kb1 (by rw [← hbe]; exact hb7)
   have hokb := Hj hu.1 _ (List.getElem_mem hkb)
   rw [← hke, ← hbe] at hokb
   rw [← hbe] at hif
   refine Ga (Ge HZ HZ (tindexS_c b.words (by have := hokb.words; omega) w (show fW b a5 k5 c5 ∈ _ from memA) (fun n hn hx => ?_) (fun hx => ?_)))
   ·refine qs 6 ?_
    refine Ga (GY HZ HZ HZ (fun _ => ?_) (fun c77 => absurd c77 Jb))
    refine qs 4 ?_
    have hnk : n < b.kids.length := by omega
    refine Gc HZ HZ (Gd (k := n) HZ HZ HZ HZ (enc := eI) (lst := b.kids) (show fK b a6 k6 c6 ∈ _ from memA) hnk (fun _ _ => ?_))
    rw [kid_some hx hnk] at hmp
    refine Gc HZ HZ (Gs HZ HZ ?_)
    intros
    refine qs 1 ?_
    refine Gc HZ HZ (Gr HZ HZ HZ (fun c85 => ?_) (fun c85 => ?_))
    ·refine qs 5 ?_
     exact Gb (L' := Lf (aCells a k c a2 k2 c2 a3 k3 c3 bm 0)) (F' := F) Tryz.results77 rfl subA (hT (by rw [hmp, c85]; simp))
    refine qs 5 ?_
    exact Gb (L' := Lf (aCells a k c a2 k2 c2 a3 k3 c3 bm 0)) (F' := F) Tryz.results77 rfl subA (hN 0 (.inr ⟨rfl, by rw [hmp]; simp [c85]⟩))
   refine qs 6 ?_
   refine Ga (GY HZ HZ HZ (fun c77 => absurd c77 (by decide)) (fun _ => ?_))
   refine qs 13 ?_
   exact Gb (L' := Lf (aCells a k c a2 k2 c2 a3 k3 c3 bm 0)) (F' := F) Tryz.results77 rfl subA (hN 0 (.inr ⟨rfl, by rw [hmp, kid_none hx]; rfl⟩))
  refine qs 3 ?_
  refine Ga (Gj HZ (fun b13 => ?_))
  refine qs 9 ?_
  refine Ga (Ge HZ HZ (tindexS_c [] (by simp) w (show fS [] none 0 0 ∈ _ from memA) (fun n hn _ => absurd hn (by simp)) (fun hx => ?_)))
  refine qs 6 ?_
  refine Ga (GY HZ HZ HZ (fun c77 => absurd c77 (by decide)) (fun _ => ?_))
  refine qs 13 ?_
  exact Gb (L' := Lf (aCells a k c a2 k2 c2 a3 k3 c3 bm 0)) (F' := F) Tryz.results77 rfl subA (hN 0 (.inr ⟨rfl, by rw [hmp, kid_none hx]; rfl⟩))
theorem ask1_c (T : List Ty) (s : Int) {a a2 : Option Addr} {k c k2 c2 b i : Nat} (mL : fL T a k c ∈ F) (hb : L[i]? = some (Res.cells b #[.slice a k c, .slice a2 k2 c2] 25)) (hT : s < 0 ∨ s ≥ T.length → R (.bool true) L F) (hF : ¬(s < 0 ∨ s ≥ T.length) → R (.bool false) L F) :
    ACalls Tryz.prog W0 128 #[.int .i64 s, .pointer (some ⟨b, 0, none⟩)] L F R := by
  refine Gg Tryz.func128 HZ Tryz.ntmps128 HZ ?_
  refine qs 8 ?_
  refine Ga (Gw HZ HZ HZ (fun c5 => ?_) (fun c5 => ?_))
  ·refine qs 11 ?_
   exact Gb (L' := L) (F' := F) Tryz.results128 rfl subA (hT (.inl c5))
  refine qs 3 ?_
  refine Gc HZ HZ (Gy (cs := [.slice a k c, .slice a2 k2 c2]) HZ HZ ?_ (hi := hb) (hv := HZ))
  refine Gc HZ HZ (Gt HZ HZ (fun hl10 => ?_) (enc := eTy) (lst := T) (hm := mL))
  refine Gc HZ HZ (GY HZ HZ HZ (fun c11 => ?_) (fun c11 => ?_))
  ·refine qs 5 ?_
   exact Gb (L' := L) (F' := F) Tryz.results128 rfl subA (hT (.inr c11))
  refine qs 5 ?_
  exact Gb (L' := L) (F' := F) Tryz.results128 rfl subA (hF Jb)
theorem task_c (g : Glob W0) (T : List Ty) (N : List Nmd) (hok : ∀ t ∈ T, TyOk t) (hno : ∀ n ∈ N, NmOk n) (B pl : List Int) {a a2 a3 a4 : Option Addr} {k c k2 c2 k3 c3 k4 c4 : Nat} (mL : fL T a k c ∈ F) (mN : fN N a2 k2 c2 ∈ F) (mB : fI B a3 k3 c3 ∈ F) (mP : fI pl a4 k4 c4 ∈ F)
    (hB : ∀ e, e ≠ 0 → badA T N B pl e → R (.tuple #[.pointer none, .int .i64 e]) L F)
    (hO : goodA T N B pl → ∀ ba bm r, R (.tuple #[.pointer (some ⟨ba, 0, none⟩), .int .i64 0]) (Res.cells ba (aCells a k c a2 k2 c2 a3 k3 c3 bm 0).toArray 140 :: Res.map bm vI Value.bool (fun _ => none) :: r :: L) F) :
    ACalls Tryz.prog W0 74 #[.agg #[.slice a k c, .slice a2 k2 c2], .slice a3 k3 c3, .slice a4 k4 c4] L F R := by
  refine Gg Tryz.func74 HZ Tryz.ntmps74 HZ ?_
  refine qs 2 ?_
  refine Ga (GL HZ HZ (fun b3 => ?_))
  refine qs 8 ?_
  refine Ga (Ge HZ HZ (uright_c g T N hok hno mL mN (fun c11 => ?_) (fun c11 => ?_)))
  ·refine qs 3 ?_
   refine Gc HZ HZ (Gt HZ HZ (fun hl15 => ?_) (enc := eI) (lst := B) (hm := memA))
   refine Gc HZ HZ (Hv HZ HZ HZ (fun c16 => ?_) (fun c16 => ?_))
   ·refine qs 12 ?_
    exact Hp (L' := L) (F' := F) Tryz.results74 rfl rfl subA (hB 1 (by decide) (.inl ⟨fun h => by have := h.2.1; omega, rfl⟩))
   refine qs 10 ?_
   refine Ga (Gt HZ HZ (fun hl19 => ?_) (enc := eI) (lst := B) (hm := memA))
   refine qs 4 ?_
   refine GB (fun (v : Nat) => v ≤ B.length ∧ ∀ b ∈ B.take v, 0 ≤ b ∧ b < T.length ∧ (tyAt T b).kind = 7) (fun v => [(2, .slice a4 k4 c4), (1, .slice a3 k3 c3), (3, .pointer (some ⟨b3, 0, none⟩)), (18, .slice a3 k3 c3), (19, .int .i64 B.length), (20, .int .i64 (v : Int))]) (fun _ => _) (fun _ => _) (fun v => B.length - v) 0 ⟨Nat.zero_le _, by simp⟩ srA (Gf _ _) ?_
   rintro v ⟨hv, hall⟩
   refine qs 2 ?_
   refine Ga (Gw HZ HZ HZ (fun c21 => ?_) (fun c21 => ?_))
   ·refine qs 10 ?_
    have hvl : v < B.length := by omega
    refine Ga (Gd HZ HZ HZ HZ (enc := eI) (lst := B) (show fI B a3 k3 c3 ∈ _ from memA) hvl (fun _ _ => ?_))
    refine Ga (Gs HZ HZ ?_)
    intros
    refine qs 6 ?_
    refine Ga (Gw HZ HZ HZ (fun c25 => ?_) (fun c25 => ?_))
    ·refine qs 31 ?_
     exact Hp (L' := L) (F' := F) Tryz.results74 rfl rfl subA (hB 1 (by decide) (.inl ⟨fun h => by have := (h.2.2 _ (List.getElem_mem hvl)).1; omega, rfl⟩))
    refine qs 4 ?_
    refine Gc HZ HZ (Gt HZ HZ (fun hl30 => ?_) (enc := eTy) (lst := T) (hm := memA))
    refine Gc HZ HZ (GY HZ HZ HZ (fun c31 => ?_) (fun c31 => ?_))
    ·refine qs 25 ?_
     exact Hp (L' := L) (F' := F) Tryz.results74 rfl rfl subA (hB 1 (by decide) (.inl ⟨fun h => by have := (h.2.2 _ (List.getElem_mem hvl)).2.1; omega, rfl⟩))
    refine qs 5 ?_
    obtain ⟨hbn, hbe⟩ := GS (T := T) (i := B[v]) Jb Jb
    refine Gc HZ HZ (Gd (k := B[v].toNat) HZ HZ HZ Jb (enc := eTy) (lst := T) (show fL T a k c ∈ _ from memA) hbn (fun _ _ => ?_))
    refine Gc HZ HZ (Ha HZ HZ (fun _ => ?_))
    refine Gc HZ HZ (Gs HZ HZ ?_)
    intros
    refine Gc HZ HZ (GG HZ HZ HZ (fun c40 => ?_) (fun c40 => ?_))
    ·refine qs 16 ?_
     exact Hp (L' := L) (F' := F) Tryz.results74 rfl rfl subA (hB 1 (by decide) (.inl ⟨fun h => by have := (h.2.2 _ (List.getElem_mem hvl)).2.2; rw [hbe] at this; exact c40 this, rfl⟩))
    refine qs 11 ?_
    exact Gk (v + 1) ⟨hvl, fun x hx => by
     rw [List.take_succ_eq_append_getElem hvl] at hx
     rcases List.mem_append.1 hx with hx | hx
     · exact hall x hx
     rw [List.mem_singleton.1 hx]; exact ⟨by omega, by omega, by rw [hbe]; exact c40⟩⟩ Jb srA subF
   refine qs 13 ?_
   refine Ga (HO HZ HZ ?_)
   obtain rfl : v = B.length := by omega
   rw [List.take_length] at hall
   have hbp : bndP T B := ⟨by omega, hall⟩
   refine Ga (Ge HZ HZ (containsFuncI_c pl (show fI pl a4 k4 c4 ∈ _ from memA) 128 [.pointer (some ⟨b3, 0, none⟩)] (fun s => s < 0 ∨ s ≥ T.length) (fun s F' hF' R' h1 h2 => ask1_c T s (hF' _ memA) (i := 0) HZ h1 h2) (fun c45 => ?_) (fun c45 => ?_)))
   ·refine qs 11 ?_
    exact Hp (L' := L) (F' := F) Tryz.results74 rfl rfl subA (hB 8 (by decide) (.inr ⟨⟨c11, hbp⟩, fun h => c45 fun j hj => by have := h _ (List.getElem_mem hj); omega, rfl⟩))
   refine qs 9 ?_
   refine Ga (AO.makeMap vI Value.bool HZ (fun b48 => ?_))
   refine Ga (GO HZ HZ HZ (Ga (GL HZ HZ (fun b50 => ?_))))
   refine qs 5 ?_
   exact Hp Tryz.results74 rfl rfl (Gf _ _) (hO ⟨⟨c11, hbp⟩, fun p hp => by obtain ⟨j, hj, rfl⟩ := List.getElem_of_mem hp; have := c45 j hj; omega⟩ b50 b48 _)
  refine qs 17 ?_
  exact Hp (L' := L) (F' := F) Tryz.results74 rfl rfl subA (hB 1 (by decide) (.inl ⟨fun h => c11 h.1, rfl⟩))
end
end Go.Sy
namespace Go.Sy
open Go Go.Proofs Go.RowKit
theorem cmpI0 {N : List Nmd} {T : List Ty} (hu : rightU T N) : CmpI N T 0 (T, []) := ⟨hu, List.prefix_rfl, List.nodup_nil, fun x hx => (by cases hx), Nat.zero_le _⟩
theorem seen0 : seenP [] (fun _ => none) := fun t => by simp
def cmpP (T : List Ty) (N : List Nmd) (B : List Int) (i : Int) (is : Bool) (e : Int) : Prop := (e ≠ 0 ∧ badA T N B [i] e ∧ is = false) ∨ (goodA T N B [i] ∧ tellC (cmpR N B 400 (T, []) i) is e)
def hasTP (T : List Ty) (N : List Nmd) (B : List Int) (i c : Int) (is : Bool) (e : Int) : Prop := (e ≠ 0 ∧ badA T N B [i, c] e ∧ is = false) ∨ (goodA T N B [i, c] ∧ (((tyAt T c).kind ≠ 7 ∧ e = 1 ∧ is = false) ∨ ((tyAt T c).kind = 7 ∧ tellB (isR N B T i c) is e)))
section
variable {N : List Nmd} {B : List Int} {T T1 : List Ty} {i c e : Int} {t : Ty} {q : Nat}
theorem words_step (hq : q < t.words.length) (hk : q < t.kids.length) (h : wordsR N B T i t q = .ok true) : wordsR N B T i t (q + 1) = if isName t.words[q] = true then methR N B T i t.words[q] t.kids[q] else .ok true := by
  simp only [wordsR, h]; rw [GK [] hq, GK 0 hk]
theorem words_stop (hb : badM (wordsR N B T i t q) e) : ∀ r, q ≤ r → badM (wordsR N B T i t r) e
  | 0, h => by obtain rfl : q = 0 := by omega
               exact hb
  | r + 1, h => by
    by_cases c : q = r + 1
    · exact c ▸ hb
    have ih := words_stop hb r Jb
    rcases ih with ⟨h1, h2⟩ | ⟨h1, h2⟩
    · exact .inl ⟨h1, by simp only [wordsR, h2]⟩
    exact .inr ⟨h1, by simp only [wordsR, h2]⟩
theorem inside_ok (hu : rightU T N) (hB : bndP T B) (h0 : 0 ≤ i) (hi : i < T.length) {l : List Tm} (h : insideR N B T i l = .ok (some T1)) : rightU T1 N ∧ T <+: T1 := by
  unfold insideR at h
  split at h
  · rename_i h9
    split at h
    · rename_i h2
      cases hb : boundR T B (tyAt T i) with
      | none => rw [hb] at h2; exact absurd h2 (by decide)
      | some b =>
        rw [hb] at h
        simp only [Option.getD_some] at h
        obtain ⟨kb, _, kb0, kb1, hbe, hb7, _⟩ := bound_is hB (param_n hu.1 h0 hi h9).1 hb
        have htm := trm_there hu.1 kb0 kb1 (by rw [← hbe]; exact hb7)
        rw [← hbe] at htm
        exact all_inv (f := fun T x => withinR N T x l) (fun s => rightU s N ∧ T <+: s) (trmL b) T T1 ⟨hu, List.prefix_rfl⟩ (fun x hx a c ha hac => by
          have hx2 := htm x hx
          have := ha.2.length_le
          have := within_ok ha.1 hx2.1 Jb hac
          exact ⟨this.1, ha.2.trans this.2⟩) h
    cases h
  split at h
  · cases h
  rename_i hx
  obtain ⟨u1, u2, _⟩ := undR_ok hu h0 hi hx
  split at h
  · cases h
  have := u2.length_le
  have h3 := within_ok u1 (x := (([61] : List UInt8), i)) h0 (by simp only; omega) h
  exact ⟨h3.1, u2.trans h3.2⟩
theorem is_bad (h : badM (wordsR N B T i (tyAt T c) (tyAt T c).words.length) e) : badM (isR N B T i c) e := by
  rcases h with ⟨h1, h2⟩ | ⟨h1, h2⟩
  · exact .inl ⟨h1, by unfold isR; rw [h2]⟩
  exact .inr ⟨h1, by unfold isR; rw [h2]⟩
theorem is_out (hw : wordsR N B T i (tyAt T c) (tyAt T c).words.length = .ok true) (h2 : 2 ≤ (tyAt T c).n) (h : badO (insideR N B T i (trmL (tyAt T c))) e) : badM (isR N B T i c) e := by
  rcases h with ⟨h1, h3⟩ | ⟨h1, h3⟩
  · exact .inl ⟨h1, by unfold isR; rw [hw]; simp only; rw [if_pos h2, h3]⟩
  exact .inr ⟨h1, by unfold isR; rw [hw]; simp only; rw [if_pos h2, h3]⟩
theorem is_even (hw : wordsR N B T i (tyAt T c) (tyAt T c).words.length = .ok true) (h : (if 2 ≤ (tyAt T c).n then insideR N B T i (trmL (tyAt T c)) else .ok (some T)) = .ok (some T1)) (he : (tyAt T c).n % 2 = 0) : isR N B T i c = .ok true := by
  unfold isR; rw [hw]; simp only; rw [h]; simp only; rw [if_neg Jb]
theorem is_odd (hw : wordsR N B T i (tyAt T c) (tyAt T c).words.length = .ok true) (h : (if 2 ≤ (tyAt T c).n then insideR N B T i (trmL (tyAt T c)) else .ok (some T)) = .ok (some T1)) (he : (tyAt T c).n % 2 ≠ 0) (h0 : 0 ≤ (tyAt T c).n) :
    (∀ s, cmpR N B 400 (T1, []) i = .ok (some s) → isR N B T i c = .ok true) ∧ (badO (cmpR N B 400 (T1, []) i) e → badM (isR N B T i c) e) := by
  have hx : isR N B T i c = match cmpR N B 400 (T1, []) i with | .error e => .error e | .ok none => .ok false | .ok (some _) => .ok true := by
    unfold isR; rw [hw]; simp only; rw [h]; simp only; rw [if_pos Jb]
    cases cmpR N B 400 (T1, []) i with
    | error e => rfl
    | ok o => cases o <;> rfl
  refine ⟨fun s hs => by rw [hx, hs], fun hb => ?_⟩
  rcases hb with ⟨h1, h2⟩ | ⟨h1, h2⟩
  · exact .inl ⟨h1, by rw [hx, h2]⟩
  exact .inr ⟨h1, by rw [hx, h2]⟩
end
attribute [local irreducible] AC AT AO AK AH ACalls Sub Res.cells Res.obj Res.nix Res.own Res.map Exit.then Exit.inBlock bodyPost Code.wp Code.wpIn WL Next Post Kont
section
variable {W0 : World} {L : List Res} {F : List Fact} {R : Value → List Res → List Fact → Prop}
set_option maxRecDepth 100000
set_option maxHeartbeats 16000000
theorem tComparable_c (g : Glob W0) (T : List Ty) (N : List Nmd) (hok : ∀ t ∈ T, TyOk t) (hno : ∀ n ∈ N, NmOk n) (B : List Int) (i : Int) {a a2 a3 : Option Addr} {k c k2 c2 k3 c3 : Nat} (mL : fL T a k c ∈ F) (mN : fN N a2 k2 c2 ∈ F) (mB : fI B a3 k3 c3 ∈ F) (mE : Fact.slc (.slice none 0 0) 5 [] ∈ F)
    (h : ∀ is e, cmpP T N B i is e → R (.tuple #[.bool is, .int .i64 e]) L F) :
    ACalls Tryz.prog W0 30 #[.agg #[.slice a k c, .slice a2 k2 c2], .slice a3 k3 c3, .int .i64 i] L F R := by
  refine Gg Tryz.func30 HZ Tryz.ntmps30 HZ ?_
  refine qs 2 ?_
  refine Ga (GL HZ HZ (fun b3 => ?_))
  refine qs 9 ?_
  refine Ga (Gl HZ HZ HZ HZ HZ (fun b14 => ?_))
  refine GH (GI (Hg (i := 0) (enc := eI) (sz := 1) [i] HZ (.val .nil) (fun _ => rfl) HZ (by simp only [List.length_cons, List.length_nil, maxLen]; omega)) Gv) ?_
  refine Ga (Ge HZ HZ (task_c g T N hok hno B [i] (show fL T a k c ∈ _ from memA) (show fN N a2 k2 c2 ∈ _ from memA) (show fI B a3 k3 c3 ∈ _ from memA) (show fI [i] _ _ _ ∈ _ from memA) (fun e he hb => ?_) (fun hg ba bm r => ?_)))
  ·refine qs 11 ?_
   refine Ga (GG HZ HZ HZ (fun _ => ?_) (fun c19 => absurd c19 he))
   refine qs 12 ?_
   exact Hp (L' := L) (F' := F) Tryz.results30 rfl rfl subA (h false e (.inl ⟨he, hb, rfl⟩))
  refine qs 11 ?_
  have hi := hg.2 i (.head _)
  refine Ga (GG HZ HZ HZ (fun c19 => absurd HZ c19) (fun _ => ?_))
  refine qs 10 ?_
  refine Ga (Ge HZ HZ (tcompares_c g N hno B (a2 := a2) (k2 := k2) (c2 := c2) (a3 := a3) (k3 := k3) (c3 := c3) 400 (fun w m => Res.cells ba w.toArray 140 :: Res.map bm vI Value.bool m :: _) (ia := 0) (im := 1) (fun _ _ => rfl) (fun _ _ => rfl) (fun _ _ _ => rfl) (fun _ _ _ => rfl) 0 (Nat.le_refl _) T T [] (cmpI0 hg.1.1) hg.1.2 i hi.1 hi.2 _ seen0 (show fL T a k c ∈ _ from memA) (show fN N a2 k2 c2 ∈ _ from memA) (show fI B a3 k3 c3 ∈ _ from memA) memA (fun T' A' m' a6 k6 c6 hx hs => ?_) (fun e m' a6 k6 c6 hx => ?_)))
  ·refine Ga (Ge HZ HZ (toldT_c (ia := 0) HZ ?_))
   refine qs 7 ?_
   exact Hp (L' := L) (F' := F) Tryz.results30 rfl rfl subA (h true 0 (.inr ⟨hg, .inl ⟨rfl, rfl, _, hx⟩⟩))
  refine Ga (Ge HZ HZ (toldF_c (ia := 0) HZ ?_))
  refine qs 7 ?_
  exact Hp (L' := L) (F' := F) Tryz.results30 rfl rfl subA (h false e (.inr ⟨hg, .inr ⟨rfl, hx⟩⟩))
theorem tHas_c (g : Glob W0) (T : List Ty) (N : List Nmd) (hok : ∀ t ∈ T, TyOk t) (hno : ∀ n ∈ N, NmOk n) (B : List Int) (i cc : Int) {a a2 a3 : Option Addr} {k c k2 c2 k3 c3 : Nat} (mL : fL T a k c ∈ F) (mN : fN N a2 k2 c2 ∈ F) (mB : fI B a3 k3 c3 ∈ F) (mE : Fact.slc (.slice none 0 0) 5 [] ∈ F) (mM : Fact.slc (.slice none 0 0) 3 [] ∈ F) (m4 : Fact.slc (.slice none 0 0) 4 [] ∈ F) (m1 : Fact.slc (.slice none 0 0) 1 [] ∈ F)
    (h : ∀ is e, hasTP T N B i cc is e → R (.tuple #[.bool is, .int .i64 e]) L F) :
    ACalls Tryz.prog W0 31 #[.agg #[.slice a k c, .slice a2 k2 c2], .slice a3 k3 c3, .int .i64 i, .int .i64 cc] L F R := by
  refine Gg Tryz.func31 HZ Tryz.ntmps31 HZ ?_
  refine qs 2 ?_
  refine Ga (GL HZ HZ (fun b4 => ?_))
  refine qs 10 ?_
  refine Ga (Gl HZ HZ HZ HZ HZ (fun b20 => ?_))
  refine GH (GI (Hg (i := 0) (enc := eI) (sz := 1) [i, cc] HZ (.val (.val .nil)) (fun _ => rfl) HZ (by simp only [List.length_cons, List.length_nil, maxLen]; omega)) Gv) ?_
  refine Ga (Ge HZ HZ (task_c g T N hok hno B [i, cc] (show fL T a k c ∈ _ from memA) (show fN N a2 k2 c2 ∈ _ from memA) (show fI B a3 k3 c3 ∈ _ from memA) (show fI [i, cc] _ _ _ ∈ _ from memA) (fun e he hb => ?_) (fun hg ba bm r => ?_)))
  ·refine qs 12 ?_
   refine Ga (GG HZ HZ HZ (fun _ => ?_) (fun c26 => absurd c26 he))
   refine qs 14 ?_
   exact Hp (L' := L) (F' := F) Tryz.results31 rfl rfl subA (h false e (.inl ⟨he, hb, rfl⟩))
  refine qs 12 ?_
  have hi := hg.2 i (.head _)
  have hc := hg.2 cc (.tail _ (.head _))
  obtain ⟨hcn, hce⟩ := GS hc.1 hc.2
  have hokc := hok _ (List.getElem_mem hcn)
  refine Ga (GG HZ HZ HZ (fun c26 => absurd HZ c26) (fun _ => ?_))
  refine qs 9 ?_
  refine Ga (Gd (k := cc.toNat) HZ HZ HZ Jb (enc := eTy) (lst := T) (show fL T a k c ∈ _ from memA) hcn (fun _ _ => ?_))
  refine Ga (Ha HZ HZ (fun _ => ?_))
  refine Ga (Gs HZ HZ ?_)
  intros
  refine Ga (GG HZ HZ HZ (fun c35 => ?_) (fun c35 => ?_))
  ·refine qs 13 ?_
   exact Hp (L' := L) (F' := F) Tryz.results31 rfl rfl subA (h false 1 (.inr ⟨hg, .inl ⟨by rw [hce]; exact c35, rfl, rfl⟩⟩))
  refine qs 12 ?_
  have hif := iface_n hg.1.1.1 hc.1 hc.2 (by rw [hce]; exact c35)
  rw [hce] at hif
  refine Ga (Gd (k := cc.toNat) HZ HZ HZ Jb (enc := eTy) (lst := T) (show fL T a k c ∈ _ from memA) hcn (fun _ _ => ?_))
  refine Ga (GN HZ HZ ?_)
  intro a40 k40 z40 d40 e40 f40
  refine Ga (Gj HZ (fun b12 => ?_))
  refine qs 8 ?_
  refine Ga (Gt HZ HZ (fun hl43 => ?_) (enc := eS) (lst := T[cc.toNat].words) (hm := memA))
  refine qs 4 ?_
  refine GB (fun (v : Nat) => v ≤ T[cc.toNat].words.length ∧ wordsR N B T i T[cc.toNat] v = .ok true) (fun v => [(2, .int .i64 i), (10, .pointer (some ⟨ba, 0, none⟩)), (12, .pointer (some ⟨b12, 0, none⟩)), (42, .slice a40 k40 z40), (43, .int .i64 T[cc.toNat].words.length), (44, .int .i64 (v : Int))]) (fun _ => _) (fun _ => _) (fun v => T[cc.toNat].words.length - v) 0 ⟨Nat.zero_le _, rfl⟩ srA (Gf _ _) ?_
  rintro v ⟨hv, hw⟩
  refine qs 2 ?_
  refine Ga (Gw HZ HZ HZ (fun c45 => ?_) (fun c45 => ?_))
  ·refine qs 11 ?_
   have hvl : v < T[cc.toNat].words.length := by omega
   have hvk : v < T[cc.toNat].kids.length := by omega
   have hstep := words_step hvl hvk hw
   refine Ga (Gd HZ HZ HZ HZ (enc := eS) (lst := T[cc.toNat].words) (show fW T[cc.toNat] a40 k40 z40 ∈ _ from memA) hvl (fun _ _ => ?_))
   refine Ga (Gs HZ HZ ?_)
   intros
   refine qs 7 ?_
   refine Ga (Ge HZ HZ (HP T[cc.toNat].words[v] (fun c50 => ?_) (fun c50 => ?_)))
   ·refine qs 7 ?_
    refine Gc HZ HZ (Gd HZ HZ HZ HZ (enc := eI) (lst := T[cc.toNat].kids) (show fK T[cc.toNat] d40 e40 f40 ∈ _ from memA) hvk (fun _ _ => ?_))
    refine Gc HZ HZ (Gs HZ HZ ?_)
    intros
    rw [if_pos c50] at hstep
    refine Gc HZ HZ (Ge HZ HZ (tmethod_c g N hno B T hg.1.1 hg.1.2 i hi T[cc.toNat].words[v] c50 T[cc.toNat].kids[v] (fun w => _ :: Res.cells ba w.toArray 140 :: _) (bm := bm) (ia := 1) (fun _ => rfl) (fun _ _ => rfl) (show fL T a k c ∈ _ from memA) (show fN N a2 k2 c2 ∈ _ from memA) (show fI B a3 k3 c3 ∈ _ from memA) memA memA memA memA (fun hx => ?_) (fun e hx => ?_)))
    ·refine qs 12 ?_
     exact Gk (v + 1) ⟨hvl, by rw [hstep, hx]⟩ Jb srA subF
    refine qs 8 ?_
    refine Ga (Ge HZ HZ (toldF_c (ia := 1) HZ ?_))
    refine qs 12 ?_
    exact Hp (L' := L) (F' := F) Tryz.results31 rfl rfl subA (h false e (.inr ⟨hg, .inr ⟨by rw [hce]; exact c35, .inr ⟨rfl, is_bad (words_stop (by rw [hce, hstep]; exact hx) _ (by rw [hce]; exact hvl))⟩⟩⟩))
   refine qs 22 ?_
   rw [if_neg (by rw [c50]; decide)] at hstep
   exact Gk (v + 1) ⟨hvl, hstep⟩ Jb srA subF
  refine qs 13 ?_
  obtain rfl : v = T[cc.toNat].words.length := by omega
  have hwl := trmN_len T[cc.toNat] T[cc.toNat].words.length
  have hww := hokc.words
  rw [← hce] at hw
  refine Ga (Ge HZ HZ (trestricts_c T[cc.toNat] (fun c69 => ?_) (fun c69 => ?_)))
  ·refine qs 4 ?_
   refine Gc HZ HZ (Ge HZ HZ (tterms_c T[cc.toNat] hokc.words (Nat.le_of_eq hif.2.2) (show fW T[cc.toNat] a40 k40 z40 ∈ _ from memA) (show fK T[cc.toNat] d40 e40 f40 ∈ _ from memA) (fun a74 k74 c74 => ?_)))
   refine Gc HZ HZ (Ge HZ HZ (tinside_c g N hno B T hg.1.1 hg.1.2 i hi.1 hi.2 (trmL T[cc.toNat]) (by unfold trmL; omega) (fun w => _ :: Res.cells ba w.toArray 140 :: _) (bm := bm) (ia := 1) (fun _ => rfl) (fun _ _ => rfl) (show fL T a k c ∈ _ from memA) (show fN N a2 k2 c2 ∈ _ from memA) (show fI B a3 k3 c3 ∈ _ from memA) memA (show fTm _ a74 k74 c74 ∈ _ from memA) (fun T1 a75 k75 c75 hx => ?_) (fun e a75 k75 c75 hx => ?_)))
   ·refine qs 12 ?_
    refine Ga (AO.and1 HZ HZ hif.1 hif.2.1 HZ ?_)
    refine Ga (Gr HZ HZ HZ (fun c86 => ?_) (fun c86 => ?_))
    ·refine qs 5 ?_
     refine Ga (Ge HZ HZ (toldT_c (ia := 1) HZ ?_))
     refine qs 7 ?_
     exact Hp (L' := L) (F' := F) Tryz.results31 rfl rfl subA (h true 0 (.inr ⟨hg, .inr ⟨by rw [hce]; exact c35, .inl ⟨rfl, rfl, is_even hw (by rw [hce, if_pos c69]; exact hx) (by rw [hce]; exact c86)⟩⟩⟩))
    refine qs 3 ?_
    have hi1 := inside_ok hg.1.1 hg.1.2 hi.1 hi.2 hx
    have hl1 := hi1.2.length_le
    refine Gc HZ HZ (Ge HZ HZ (tcompares_c g N hno B (a2 := a2) (k2 := k2) (c2 := c2) (a3 := a3) (k3 := k3) (c3 := c3) 400 (fun w m => _ :: Res.cells ba w.toArray 140 :: Res.map bm vI Value.bool m :: _) (ia := 1) (im := 2) (fun _ _ => rfl) (fun _ _ => rfl) (fun _ _ _ => rfl) (fun _ _ _ => rfl) 0 (Nat.le_refl _) T1 T1 [] (cmpI0 hi1.1) (hg.1.2.up hi1.2) i hi.1 Jb _ seen0 (show fL T1 a75 k75 c75 ∈ _ from memA) (show fN N a2 k2 c2 ∈ _ from memA) (show fI B a3 k3 c3 ∈ _ from memA) memA (fun T' A' m' a6 k6 c6 hx2 hs => ?_) (fun e m' a6 k6 c6 hx2 => ?_)))
    ·refine qs 1 ?_
     refine Ga (Ge HZ HZ (toldT_c (ia := 1) HZ ?_))
     refine qs 7 ?_
     exact Hp (L' := L) (F' := F) Tryz.results31 rfl rfl subA (h true 0 (.inr ⟨hg, .inr ⟨by rw [hce]; exact c35, .inl ⟨rfl, rfl, (is_odd (e := 0) hw (by rw [hce, if_pos c69]; exact hx) (by rw [hce]; exact c86) (by rw [hce]; exact hif.1)).1 _ hx2⟩⟩⟩))
    refine qs 1 ?_
    refine Ga (Ge HZ HZ (toldF_c (ia := 1) HZ ?_))
    refine qs 7 ?_
    exact Hp (L' := L) (F' := F) Tryz.results31 rfl rfl subA (h false e (.inr ⟨hg, .inr ⟨by rw [hce]; exact c35, .inr ⟨rfl, (is_odd hw (by rw [hce, if_pos c69]; exact hx) (by rw [hce]; exact c86) (by rw [hce]; exact hif.1)).2 hx2⟩⟩⟩))
   refine qs 8 ?_
   refine Ga (Ge HZ HZ (toldF_c (ia := 1) HZ ?_))
   refine qs 8 ?_
   exact Hp (L' := L) (F' := F) Tryz.results31 rfl rfl subA (h false e (.inr ⟨hg, .inr ⟨by rw [hce]; exact c35, .inr ⟨rfl, is_out hw (by rw [hce]; exact c69) (by rw [hce]; exact hx)⟩⟩⟩))
  refine qs 18 ?_
  refine Ga (AO.and1 HZ HZ hif.1 hif.2.1 HZ ?_)
  refine Ga (Gr HZ HZ HZ (fun c86 => ?_) (fun c86 => ?_))
  ·refine qs 5 ?_
   refine Ga (Ge HZ HZ (toldT_c (ia := 1) HZ ?_))
   refine qs 7 ?_
   exact Hp (L' := L) (F' := F) Tryz.results31 rfl rfl subA (h true 0 (.inr ⟨hg, .inr ⟨by rw [hce]; exact c35, .inl ⟨rfl, rfl, is_even hw (by rw [hce, if_neg c69]) (by rw [hce]; exact c86)⟩⟩⟩))
  refine qs 3 ?_
  refine Gc HZ HZ (Ge HZ HZ (tcompares_c g N hno B (a2 := a2) (k2 := k2) (c2 := c2) (a3 := a3) (k3 := k3) (c3 := c3) 400 (fun w m => _ :: Res.cells ba w.toArray 140 :: Res.map bm vI Value.bool m :: _) (ia := 1) (im := 2) (fun _ _ => rfl) (fun _ _ => rfl) (fun _ _ _ => rfl) (fun _ _ _ => rfl) 0 (Nat.le_refl _) T T [] (cmpI0 hg.1.1) hg.1.2 i hi.1 hi.2 _ seen0 (show fL T a k c ∈ _ from memA) (show fN N a2 k2 c2 ∈ _ from memA) (show fI B a3 k3 c3 ∈ _ from memA) memA (fun T' A' m' a6 k6 c6 hx2 hs => ?_) (fun e m' a6 k6 c6 hx2 => ?_)))
  ·refine qs 1 ?_
   refine Ga (Ge HZ HZ (toldT_c (ia := 1) HZ ?_))
   refine qs 7 ?_
   exact Hp (L' := L) (F' := F) Tryz.results31 rfl rfl subA (h true 0 (.inr ⟨hg, .inr ⟨by rw [hce]; exact c35, .inl ⟨rfl, rfl, (is_odd (e := 0) hw (by rw [hce, if_neg c69]) (by rw [hce]; exact c86) (by rw [hce]; exact hif.1)).1 _ hx2⟩⟩⟩))
  refine qs 1 ?_
  refine Ga (Ge HZ HZ (toldF_c (ia := 1) HZ ?_))
  refine qs 7 ?_
  exact Hp (L' := L) (F' := F) Tryz.results31 rfl rfl subA (h false e (.inr ⟨hg, .inr ⟨by rw [hce]; exact c35, .inr ⟨rfl, (is_odd hw (by rw [hce, if_neg c69]) (by rw [hce]; exact c86) (by rw [hce]; exact hif.1)).2 hx2⟩⟩⟩))
end
end Go.Sy
namespace Go.Sy
open Go Go.Proofs
def tLo : Ty := ⟨7, [], 2, [[126]], [2]⟩
def tEq : Ty := ⟨7, [], 2, [[61]], [2]⟩
def aliveT : List Ty := startL ++ [nmT0, tLo, tEq]
def nmD : Nmd := ⟨[112, 46, 84], [], 2, []⟩
theorem aliveT_len : aliveT.length = 25 := by decide
theorem lo_elems (l : List Ty) (h7 : kindAt l 2 ≠ 7) (h9 : kindAt l 2 ≠ 9) : elemsP l tLo := by
  refine ⟨rfl, by decide, by decide, fun i hi => ?_⟩
  have : i = 0 := by simp [tLo] at hi; exact hi
  subst this
  exact .inl ⟨.inr rfl, by decide, h7, h9, by decide, fun h => absurd h Jb⟩
theorem eq_elems (l : List Ty) (h7 : kindAt l 2 ≠ 7) (h9 : kindAt l 2 ≠ 9) : elemsP l tEq := by
  refine ⟨rfl, by decide, by decide, fun i hi => ?_⟩
  have : i = 0 := by simp [tEq] at hi; exact hi
  subst this
  exact .inl ⟨.inl rfl, by decide, h7, h9, by decide, fun h => absurd h Jb⟩
theorem aliveT_right : rightP aliveT := by
  have h : aliveT = ((startL ++ [nmT0]) ++ [tLo]) ++ [tEq] := by unfold aliveT; simp
  rw [h]
  refine right_snoc (right_snoc (right_snoc start_right (by decide) ⟨fun k hk => ?_, by decide, fun e => absurd rfl e, fun _ _ => rfl, (madeK_8 rfl).2 ⟨rfl, by unfold namedP; decide⟩⟩ (by decide)) (by decide) ⟨fun k hk => ?_, by decide, fun _ => rfl, fun _ h7 => absurd rfl h7, (madeK_7 rfl).2 (lo_elems _ (by decide) (by decide))⟩ (by decide)) (by decide) ⟨fun k hk => ?_, by decide, fun _ => rfl, fun _ h7 => absurd rfl h7, (madeK_7 rfl).2 (eq_elems _ (by decide) (by decide))⟩ (by decide)
  · simp [nmT0] at hk
  · have : k = 2 := by simpa [tLo] using hk
    rw [this]; decide
  have : k = 2 := by simpa [tEq] using hk
  rw [this]; decide
theorem nmD_named : namedU aliveT nmD := by
  refine ⟨by unfold namedP; decide, ⟨by decide, fun b hb => absurd hb (by simp [nmD])⟩, ⟨by unfold fewA; decide, by unfold isK; decide, by unfold isK; decide, by decide⟩, by decide, fun j hj => absurd hj (by simp [nmD]), fun e => absurd HZ e⟩
theorem aliveT_rightU : rightU aliveT [nmD] := by
  refine ⟨aliveT_right, by decide, fun i hi => ?_, fun t ht h8 => ?_⟩
  · have h0 : i = 0 := by simp at hi; exact hi
    subst h0
    exact ⟨nmD_named, fun h => absurd h (by decide)⟩
  have hn : ∀ t ∈ startL ++ [tLo, tEq], t.kind ≠ 8 := by decide
  rcases List.mem_append.1 ht with h | h
  · exact absurd h8 (hn t (List.mem_append_left _ h))
  simp at h
  rcases h with rfl | rfl | rfl
  · exact ⟨0, rfl, rfl⟩
  · exact absurd h8 (by decide)
  exact absurd h8 (by decide)
theorem nmD_ok : ∀ n ∈ [nmD], NmOk n := by
  intro n hn
  have : n = nmD := by simpa using hn
  subst this
  exact ⟨by decide, fun m hm => by simp [nmD] at hm⟩
theorem und22 : undR aliveT [nmD] 22 = .ok (aliveT, 2) := by
  rw [show (22 : Int) = ((22 : Nat) : Int) from rfl, und_8 (N := [nmD]) (n := 22) (j := 0) (u := 2) (by decide) (by decide) (by decide) rfl rfl]
  exact subR_zero aliveT_right (by decide) (by decide)
theorem bnd_none (T : List Ty) : bndP T [] := ⟨by decide, fun b hb => by cases hb⟩
theorem good_alive (pl : List Int) (h : ∀ p ∈ pl, 0 ≤ p ∧ p < 25) : goodA aliveT [nmD] [] pl := ⟨⟨aliveT_rightU, bnd_none _⟩, fun p hp => by rw [aliveT_len]; exact h p hp⟩
theorem alive_lo : isR [nmD] [] aliveT 22 23 = .ok true := by
  have e : tyAt aliveT 23 = tLo := by decide
  refine is_even (T1 := aliveT) ?_ ?_ (by decide)
  · rw [e]
    show wordsR _ _ _ _ _ 1 = _
    simp only [wordsR]
    rw [if_neg (by decide)]
  rw [if_pos (by decide), ins_one (T1 := aliveT) (k := 2) (by decide) und22 (by decide)]
  unfold withinR
  rw [if_neg (by decide), if_neg (by decide)]
  simp only
  rw [und22]
  simp only
  rw [if_pos (by decide)]
theorem alive_eq : badM (isR [nmD] [] aliveT 22 24) 0 := by
  have e : tyAt aliveT 24 = tEq := by decide
  refine is_out ?_ (by decide) (.inr ⟨rfl, ?_⟩)
  · rw [e]
    show wordsR _ _ _ _ _ 1 = _
    simp only [wordsR]
    rw [if_neg (by decide)]
  rw [ins_one (T1 := aliveT) (k := 2) (by decide) und22 (by decide)]
  unfold withinR
  rw [if_neg (by decide), if_neg (by decide)]
  simp only
  rw [und22]
  simp only
  rw [if_neg (by decide)]
theorem badA_good {T : List Ty} {N : List Nmd} {B pl : List Int} {e : Int} (hb : badA T N B pl e) (hg : goodA T N B pl) : False := by
  rcases hb with ⟨h, _⟩ | ⟨_, h, _⟩
  · exact h hg.1
  exact h hg.2
theorem badM_once {r : Except Int Bool} {e e' : Int} (h : badM r e) (h' : badM r e') : e = e' := by
  rcases h with ⟨h1, h2⟩ | ⟨h1, h2⟩ <;> rcases h' with ⟨k1, k2⟩ | ⟨k1, k2⟩ <;> rw [h2] at k2
  · injection k2
  · cases k2
  · cases k2
  omega
theorem tellB_yes {r : Except Int Bool} {is : Bool} {e : Int} (h : tellB r is e) (hr : r = .ok true) : is = true ∧ e = 0 := by
  subst hr
  rcases h with ⟨h1, h2, _⟩ | ⟨_, ⟨_, h⟩ | ⟨_, h⟩⟩
  · exact ⟨h1, h2⟩
  · cases h
  cases h
theorem tellB_no {r : Except Int Bool} {is : Bool} {e e' : Int} (h : tellB r is e) (hr : badM r e') : is = false ∧ e = e' := by
  rcases h with ⟨_, _, h⟩ | ⟨h1, h2⟩
  · rcases hr with ⟨_, k⟩ | ⟨_, k⟩ <;> rw [h] at k <;> cases k
  exact ⟨h1, badM_once h2 hr⟩
theorem alive_yes {is : Bool} {e : Int} (h : hasTP aliveT [nmD] [] 22 23 is e) : is = true ∧ e = 0 := by
  rcases h with ⟨_, h, _⟩ | ⟨_, ⟨h, _⟩ | ⟨_, h⟩⟩
  · exact (badA_good h (good_alive _ (by decide))).elim
  · exact absurd (by decide) h
  exact tellB_yes h alive_lo
theorem alive_no {is : Bool} {e : Int} (h : hasTP aliveT [nmD] [] 22 24 is e) : is = false ∧ e = 0 := by
  rcases h with ⟨_, h, _⟩ | ⟨_, ⟨h, _⟩ | ⟨_, h⟩⟩
  · exact (badA_good h (good_alive _ (by decide))).elim
  · exact absurd (by decide) h
  exact tellB_no h alive_eq
end Go.Sy
namespace Go.Sy
open Go Go.Proofs Go.RowKit
abbrev vA (a : Option Addr) (k c : Nat) (a2 : Option Addr) (k2 c2 : Nat) (is : Bool) (a3 : Option Addr) (k3 c3 : Nat) (e : Int) : Value := .agg #[.slice a k c, .slice a2 k2 c2, .bool is, .slice a3 k3 c3, .int .i64 e]
attribute [local irreducible] AC AT AO AK AH ACalls Sub Res.cells Res.obj Res.nix Res.own Res.map Exit.then Exit.inBlock bodyPost Code.wp Code.wpIn WL Next Post Kont
section
variable {W0 : World} {L : List Res} {F : List Fact} {R : Value → List Res → List Fact → Prop}
set_option maxRecDepth 100000
set_option maxHeartbeats 16000000
theorem rin14_c (l : List Int) (x : Int) {a : Option Addr} {k c : Nat} (m1 : fI l a k c ∈ F) (hT : x ∈ l → R (.bool true) L F) (hF : x ∉ l → R (.bool false) L F) : ACalls Tryz.prog W0 82 #[.slice a k c, .int .i64 x] L F R := by
  refine Gg Tryz.func82 HZ Tryz.ntmps82 HZ ?_
  refine qs 9 ?_
  refine Ga (Gt HZ HZ (fun hl8 => ?_) (enc := eI) (lst := l) (hm := memA))
  refine qs 4 ?_
  refine GB (fun q => q ≤ l.length ∧ ∀ j (hj : j < l.length), j < q → l[j] ≠ x) (fun q => [(1, .int .i64 x), (7, .slice a k c), (8, .int .i64 l.length), (9, .int .i64 (q : Int))]) (fun _ => L) (fun _ => F) (fun q => l.length - q) 0 ⟨Nat.zero_le _, by omega⟩ srA (Gf _ _) ?_
  rintro q ⟨hq, hok⟩
  refine qs 2 ?_
  refine Ga (Gw HZ HZ HZ (fun c10 => ?_) (fun c10 => ?_))
  ·refine qs 10 ?_
   have hql : q < l.length := by omega
   refine Ga (Gd HZ HZ HZ HZ (enc := eI) (lst := l) memA hql (fun _ _ => ?_))
   refine Ga (Gs HZ HZ ?_)
   intros
   refine qs 7 ?_
   refine Ga (Gr HZ HZ HZ (fun c15 => ?_) (fun c15 => ?_))
   ·refine qs 14 ?_
    exact Gb (L' := L) (F' := F) Tryz.results82 rfl subF (hT (c15 ▸ List.getElem_mem hql))
   refine qs 10 ?_
   refine Gk (q + 1) ⟨by omega, fun j hj hjq => ?_⟩ Jb srA subF
   rcases Nat.lt_succ_iff_lt_or_eq.1 hjq with k9 | rfl
   · exact hok j hj k9
   exact c15
  refine qs 15 ?_
  refine Gb (L' := L) (F' := F) Tryz.results82 HZ subF (hF (fun hm => ?_))
  obtain ⟨j, hj, e⟩ := List.getElem_of_mem hm
  exact hok j hj Jb e
theorem rterms14_c (t : Ty) (hl : t.words.length ≤ 20) (hk : t.words.length ≤ t.kids.length) {a1 a2 : Option Addr} {k1 c1 k2 c2 : Nat} (m1 : fW t a1 k1 c1 ∈ F) (m2 : fK t a2 k2 c2 ∈ F)
    (h : ∀ a k c, R (.slice a k c) L (fTm (trmL t) a k c :: F)) : ACalls Tryz.prog W0 86 #[vTy t a1 k1 c1 a2 k2 c2] L F R := by
  have hml : 1000000 ≤ maxLen := by decide
  refine Gg Tryz.func86 HZ Tryz.ntmps86 HZ ?_
  refine qs 2 ?_
  refine Ga (GL HZ HZ (fun b1 => ?_))
  refine qs 5 ?_
  refine Ga (He HZ (fun b6 => ?_))
  refine GH (Hz (i := 0) (k := 0) (sz := 2) (enc := eTm) [] HZ .nil (fun _ => rfl) HZ (by decide)) ?_
  refine qs 8 ?_
  refine Ga (Gt HZ HZ (fun hl9 => ?_) (enc := eS) (lst := t.words) (hm := memA))
  refine qs 4 ?_
  refine GB (fun (x : Nat × Option Addr × Nat × Nat) => x.1 ≤ t.words.length) (fun x => [(1, .pointer (some ⟨b1, 0, none⟩)), (3, .slice x.2.1 x.2.2.1 x.2.2.2), (8, .slice a1 k1 c1), (9, .int .i64 t.words.length), (10, .int .i64 (x.1 : Int))]) (fun x => Res.own (.slice x.2.1 x.2.2.1 x.2.2.2) 131 2 ((trmN t x.1).map eTm) :: _) (fun _ => _) (fun x => t.words.length - x.1) (0, some ⟨b6, 0, none⟩, 0, 0) (by simp) srA (Gf _ _) ?_
  rintro ⟨q, a3, k3, c3⟩ hq
  simp only at hq ⊢
  refine qs 2 ?_
  refine Ga (Gw HZ HZ HZ (fun c11 => ?_) (fun c11 => ?_))
  ·refine qs 11 ?_
   have hql : q < t.words.length := by omega
   have hqk : q < t.kids.length := by omega
   have htl := trmN_len t q
   refine Ga (Gd HZ HZ HZ HZ (enc := eS) (lst := t.words) memA hql (fun _ _ => ?_))
   refine Ga (Gs HZ HZ ?_)
   intros
   refine qs 7 ?_
   refine Ga (Hi HZ HZ HZ (fun c16 => ?_) (fun c16 => ?_))
   ·refine qs 13 ?_
    refine Ga (Gd HZ HZ HZ HZ (enc := eI) (lst := t.kids) memA hqk (fun _ _ => ?_))
    refine Ga (Gs HZ HZ ?_)
    intros
    refine qs 1 ?_
    refine Ga (Gl HZ HZ HZ HZ HZ (fun b29 => ?_))
    refine Ga (GJ (i := 0) (enc := eTm) (lst := trmN t q) [(t.words[q], t.kids[q])] HZ HZ HZ HZ (.val (.val .nil)) HZ HZ (fun _ => rfl) Jb Jb (fun a30 k30 c30 => ?_))
    rw [← trm_yes hql hqk (by rw [c16]; exact mark_61)]
    refine qs 8 ?_
    exact Gk (q + 1, a30, k30, c30) (by simp only; omega) (by simp only; omega) srA subF
   refine qs 2 ?_
   refine Gc HZ HZ (Hi HZ HZ HZ (fun c19 => ?_) (fun c19 => ?_))
   ·refine qs 10 ?_
    refine Ga (Gd HZ HZ HZ HZ (enc := eI) (lst := t.kids) memA hqk (fun _ _ => ?_))
    refine Ga (Gs HZ HZ ?_)
    intros
    refine qs 1 ?_
    refine Ga (Gl HZ HZ HZ HZ HZ (fun b29 => ?_))
    refine Ga (GJ (i := 0) (enc := eTm) (lst := trmN t q) [(t.words[q], t.kids[q])] HZ HZ HZ HZ (.val (.val .nil)) HZ HZ (fun _ => rfl) Jb Jb (fun a30 k30 c30 => ?_))
    rw [← trm_yes hql hqk (by rw [c19]; exact mark_126)]
    refine qs 8 ?_
    exact Gk (q + 1, a30, k30, c30) (by simp only; omega) (by simp only; omega) srA subF
   refine qs 11 ?_
   refine Gk (q + 1, a3, k3, c3) (by simp only; omega) (by simp only; omega) srA ?_
   rw [trm_no hql (mark_no c16 c19)]
   exact subF
  refine qs 16 ?_
  obtain rfl : q = t.words.length := by omega
  exact Gb (L' := L) (F' := fTm (trmL t) a3 k3 c3 :: F) Tryz.results86 rfl ((Gz (i := 0) rfl).trans (by repeat (first | exact GX (fun x hx => by repeat (first | exact hx | refine List.mem_cons_of_mem _ ?_)) | refine GI Gv ?_))) (h _ _ _)
theorem rhas_c (l : List Tm) (x : Tm) {a : Option Addr} {k c : Nat} (m1 : fTm l a k c ∈ F) (hT : x ∈ l → R (.bool true) L F) (hF : x ∉ l → R (.bool false) L F) :
    ACalls Tryz.prog W0 187 #[.slice a k c, vTm x] L F R := by
  refine Gg Tryz.func187 HZ Tryz.ntmps187 HZ ?_
  refine qs 2 ?_
  refine Ga (GL HZ HZ (fun b3 => ?_))
  refine qs 7 ?_
  refine Ga (Gt HZ HZ (fun hl8 => ?_) (enc := eTm) (lst := l) (hm := memA))
  refine qs 4 ?_
  refine GB (fun (v : Nat) => v ≤ l.length ∧ x ∉ l.take v) (fun v => [(3, .pointer (some ⟨b3, 0, none⟩)), (7, .slice a k c), (8, .int .i64 l.length), (9, .int .i64 (v : Int))]) (fun _ => _) (fun _ => _) (fun v => l.length - v) 0 ⟨Nat.zero_le _, by simp⟩ srA (Gf _ _) ?_
  rintro v ⟨hv, hn⟩
  refine qs 2 ?_
  refine Ga (Gw HZ HZ HZ (fun c10 => ?_) (fun c10 => ?_))
  ·refine qs 10 ?_
   have hvl : v < l.length := by omega
   refine Ga (Gd HZ HZ HZ HZ (enc := eTm) (lst := l) memA hvl (fun _ _ => ?_))
   refine Ga (GN HZ HZ ?_)
   refine Ga (Gj HZ (fun b6 => ?_))
   refine qs 7 ?_
   refine Ga (AO.eqlT (a := l[v].1) (i := l[v].2) (b := x.1) (j := x.2) HZ HZ HZ (fun c15 => ?_) (fun c15 => ?_))
   ·refine qs 14 ?_
    exact Gb (L' := L) (F' := F) Tryz.results187 rfl subA (hT (tm_pair c15 ▸ List.getElem_mem hvl))
   refine qs 10 ?_
   exact Gk (v + 1) ⟨hvl, by rw [List.take_succ_eq_append_getElem hvl, List.mem_append, List.mem_singleton]; rintro (h1 | h1); exact hn h1; exact c15 (by rw [h1]; exact ⟨rfl, rfl⟩)⟩ Jb srA (Sub.drop.trans subF)
  refine qs 15 ?_
  obtain rfl : v = l.length := by omega
  exact Gb (L' := L) (F' := F) Tryz.results187 rfl subA (hF (by rwa [List.take_length] at hn))
theorem rwithin_c (T : List Ty) (N : List Nmd) (hu : rightU T N) (x : Tm) (h0 : 0 ≤ x.2) (hi : x.2 < T.length) (l : List Tm) {a a2 a4 : Option Addr} {k c k2 c2 k4 c4 : Nat} (mL : fL T a k c ∈ F) (mN : fN N a2 k2 c2 ∈ F) (mE : Fact.slc (.slice none 0 0) 5 [] ∈ F) (mT : fTm l a4 k4 c4 ∈ F)
    (hT : ∀ o a k c, withinR N T x l = .ok (some o) → R (vA a k c a2 k2 c2 true none 0 0 0) L (fL o a k c :: F))
    (hN : ∀ e a k c b j d, badO (withinR N T x l) e → R (vA a k c b j d false none 0 0 e) L F) :
    ACalls Tryz.prog W0 138 #[.agg #[.slice a k c, .slice a2 k2 c2], vTm x, .slice a4 k4 c4] L F R := by
  refine Gg Tryz.func138 HZ Tryz.ntmps138 HZ ?_
  refine qs 2 ?_
  refine Ga (GL HZ HZ (fun b3 => (Ga (GL HZ HZ (fun b4 => (Ga (Gj HZ (fun b6 => ?_))))))))
  refine qs 7 ?_
  refine Ga (Ge HZ HZ (rhas_c l x (show fTm l a4 k4 c4 ∈ _ from memA) (fun c10 => ?_) (fun c10 => ?_)))
  ·refine qs 9 ?_
   refine GP (fun _ => false) [(b3, _, _), (b4, _, _)] bxA HZ (fun hx hX => ?_)
   refine qt [0, 1, 2] ?_
   refine Gm (i := 3) Ja HZ HZ (fun _ => ?_)
   refine Ge HZ HZ (rhas_c l x (show fTm l a4 k4 c4 ∈ _ from memA) (fun _ => ?_) (fun c19 => absurd c10 c19))
   refine Gi bxA memB ?_
   refine qt [4] ?_
   refine Gm (i := 5) Ja HZ HZ (fun _ => ?_)
   refine Gx HZ HZ HZ HZ ?_
   refine Gi bxA memB ?_
   refine Gq Ja ?_
   refine qs 3 ?_
   exact Gn (rs := [.cell 6 _]) (L' := L) (F' := fL T a k c :: F) Tryz.results138 (.agg (j := 0) rfl rfl rfl .nil) (Sub.drop.trans (Sub.drop.trans (Sub.drop.trans (Gh (mem1 memA (fun x hx => by repeat (first | exact hx | refine List.mem_cons_of_mem _ ?_))))))) (hT T a k c (by unfold withinR; rw [if_pos c10]))
  refine qs 3 ?_
  refine Gc HZ HZ (Hi HZ HZ HZ (fun c14 => ?_) (fun c14 => ?_))
  ·refine qs 5 ?_
   refine GP (fun _ => false) [(b3, _, _), (b4, _, _)] bxA HZ (fun hx hX => ?_)
   refine qt [0, 1, 2] ?_
   refine Gm (i := 3) Ja HZ HZ (fun _ => ?_)
   refine Ge HZ HZ (rhas_c l x (show fTm l a4 k4 c4 ∈ _ from memA) (fun c19 => absurd c19 c10) (fun _ => ?_))
   refine Gi bxA memB ?_
   refine qt [4] ?_
   refine Gm (i := 5) Ja HZ HZ (fun _ => ?_)
   refine Gx HZ HZ HZ HZ ?_
   refine Gi bxA memB ?_
   refine Gq Ja ?_
   refine qs 3 ?_
   exact Gn (rs := [.cell 6 _]) (L' := L) (F' := F) Tryz.results138 (.agg (j := 0) rfl rfl rfl .nil) subA (hN 0 _ _ _ _ _ _ (.inr ⟨rfl, by unfold withinR; rw [if_neg c10, if_pos c14]⟩))
  refine qs 11 ?_
  refine Ga (Ge HZ HZ (rundT_c T N hu x.2 h0 hi (show fL T a k c ∈ _ from memA) (show fN N a2 k2 c2 ∈ _ from memA) memA (fun e he hud => ?_) (fun o q a24 k24 c24 hud => ?_)))
  ·refine Ga (Gj HZ (fun b7 => ?_))
   refine qs 8 ?_
   refine Ga (GG HZ HZ HZ (fun _ => ?_) (fun c27 => absurd c27 he))
   refine qs 13 ?_
   exact Gn (rs := [.cell 6 _]) (L' := L) (F' := F) Tryz.results138 (.agg (j := 1) rfl rfl rfl .nil) subA (hN e _ _ _ _ _ _ (.inl ⟨he, by unfold withinR; rw [if_neg c10, if_neg c14, hud]⟩))
  refine Ga (Gj HZ (fun b7 => ?_))
  refine qs 8 ?_
  refine Ga (GG HZ HZ HZ (fun c27 => absurd HZ c27) (fun _ => ?_))
  refine qs 6 ?_
  refine GP (fun _ => false) [(b7, _, _)] bxA HZ (fun hx hX => ?_)
  refine qt [0, 1, 2, 3, 4, 5] ?_
  refine Gm (i := 6) Ja HZ HZ (fun _ => ?_)
  refine Ge HZ HZ (rhas_c l ([126], q) (show fTm l a4 k4 c4 ∈ _ from memA) (fun c37 => ?_) (fun c37 => ?_))
  all_goals refine Gi bxA memB ?_
  ·refine qt [7] ?_
   refine Gm (i := 8) Ja HZ HZ (fun _ => ?_)
   refine Gx HZ HZ HZ HZ ?_
   refine Gi bxA memB ?_
   refine Gq Ja ?_
   refine qs 2 ?_
   exact Gn (rs := [.cell 6 _]) (L' := L) (F' := fL o a24 k24 c24 :: F) Tryz.results138 (.agg (j := 1) rfl rfl rfl .nil) (by repeat (first | exact Gh (mem1 memA (fun x hx => by repeat (first | exact hx | refine List.mem_cons_of_mem _ ?_))) | refine GI Gv ?_)) (hT o _ _ _ (by unfold withinR; rw [if_neg c10, if_neg c14, hud]; simp only; rw [if_pos c37]))
  refine qt [7] ?_
  refine Gm (i := 8) Ja HZ HZ (fun _ => ?_)
  refine Gx HZ HZ HZ HZ ?_
  refine Gi bxA memB ?_
  refine Gq Ja ?_
  refine qs 2 ?_
  exact Gn (rs := [.cell 6 _]) (L' := L) (F' := F) Tryz.results138 (.agg (j := 1) rfl rfl rfl .nil) subA (hN 0 _ _ _ _ _ _ (.inr ⟨rfl, by unfold withinR; rw [if_neg c10, if_neg c14, hud]; simp only; rw [if_neg c37]⟩))
theorem rbound_c (T : List Ty) (B : List Int) (hB : bndP T B) (t : Ty) (hn : 0 ≤ t.n) {a a2 a3 a4 a5 : Option Addr} {k c k2 c2 k3 c3 k4 c4 k5 c5 : Nat} (mL : fL T a k c ∈ F) (mB : fI B a3 k3 c3 ∈ F)
    (hS : ∀ b a1 k1 c1 a2 k2 c2, boundR T B t = some b → R (.tuple #[vTy b a1 k1 c1 a2 k2 c2, .bool true]) L (fW b a1 k1 c1 :: fK b a2 k2 c2 :: F))
    (hN : boundR T B t = none → R (.tuple #[vTy noTy none 0 0 none 0 0, .bool false]) L F) :
    ACalls Tryz.prog W0 85 #[.agg #[.slice a k c, .slice a2 k2 c2], .slice a3 k3 c3, vTy t a4 k4 c4 a5 k5 c5] L F R := by
  refine Gg Tryz.func85 HZ Tryz.ntmps85 HZ ?_
  refine qs 2 ?_
  refine Ga (GL HZ HZ (fun b3 => (Ga (GL HZ HZ (fun b5 => (Ga (Gj HZ (fun b6 => ?_))))))))
  refine qs 8 ?_
  refine Ga (GG HZ HZ HZ (fun c10 => ?_) (fun c10 => ?_))
  ·refine qs 12 ?_
   refine Ga (GO HZ HZ HZ ?_)
   refine qs 6 ?_
   exact Gn (rs := [.cell 6 _, .tmp 7]) (L' := L) (F' := F) Tryz.results85 (.agg (j := 0) rfl rfl rfl (.tmp rfl .nil)) subA (hN (by unfold boundR; rw [if_neg (fun h => c10 h.1)]))
  refine qs 4 ?_
  refine Gc HZ HZ (Gt HZ HZ (fun hl15 => ?_) (enc := eI) (lst := B) (hm := memA))
  refine Gc HZ HZ (GY HZ HZ HZ (fun c16 => ?_) (fun c16 => ?_))
  ·refine qs 6 ?_
   refine Ga (GO HZ HZ HZ ?_)
   refine qs 6 ?_
   exact Gn (rs := [.cell 6 _, .tmp 7]) (L' := L) (F' := F) Tryz.results85 (.agg (j := 0) rfl rfl rfl (.tmp rfl .nil)) subA (hN (by unfold boundR; rw [if_neg (fun h => by omega)]))
  refine qs 7 ?_
  refine GP (fun _ => false) [(b3, _, _), (b5, _, _)] bxA HZ (fun hx hX => ?_)
  have hkB := (Gu (hX (fI B a3 k3 c3) memA)).1
  have hkT := (Gu (hX (fL T a k c) memA)).1
  have hnB : t.n.toNat < B.length := by omega
  obtain ⟨p1, o1, e1, at1⟩ := GA (hX (fI B a3 k3 c3) memA) hnB
  subst e1
  obtain ⟨v1, hv1, hc1⟩ := at1 0 _ rfl
  cases hc1
  obtain ⟨hb0, hb1, hb7⟩ := hB.2 _ (List.getElem_mem hnB)
  obtain ⟨hnT, hte⟩ := GS hb0 hb1
  obtain ⟨p2, o2, e2, at2⟩ := GA (hX (fL T a k c) memA) hnT
  subst e2
  obtain ⟨w1, x1, y1, w2, x2, y2, hv2, hw1, hw2⟩ := ty_cells at2
  refine Hx hw1 memA (Hx hw2 memA ?_)
  refine qt [0, 1, 2, 3, 4] ?_
  refine GD (i := 5) HZ (GE (k := t.n.toNat) HZ HZ Jb Jb) Ja HZ HZ ?_
  refine GR (i := 6) HZ (Ho HZ hv1) Ja Ja HZ HZ HZ ?_
  refine GD (i := 7) HZ (GE (k := B[t.n.toNat].toNat) HZ HZ Jb Jb) Ja HZ HZ ?_
  refine GR (i := 8) HZ (HN HZ HZ hv2) Ja Ja HZ HZ HZ ?_
  refine Gm (i := 9) Ja HZ HZ (fun _ => ?_)
  refine Gx HZ HZ HZ HZ ?_
  refine Gi bxA memB ?_
  refine qt [10] ?_
  refine Gq Ja ?_
  refine qs 2 ?_
  exact Gn (rs := [.cell 6 _, .tmp 7]) (L' := L) (F' := fW T[B[t.n.toNat].toNat] w1 x1 y1 :: fK T[B[t.n.toNat].toNat] w2 x2 y2 :: F) Tryz.results85 (.agg (j := 0) rfl rfl rfl (.tmp rfl .nil)) (Sub.drop.trans (Sub.drop.trans (Sub.drop.trans (Gh (mem2 memA memA (fun x hx => by repeat (first | exact hx | refine List.mem_cons_of_mem _ ?_))))))) (hS _ _ _ _ _ _ _ (by unfold boundR; rw [if_pos ⟨c10, by omega⟩, GK 0 hnB, hte]))
end
end Go.Sy
namespace Go.Sy
open Go Go.Proofs Go.RowKit
theorem trmN_kid (b : Ty) : ∀ (l : List Tm) (v : Nat) (hv : v < l.length), (l.take (v + 1)).map (·.2) = (l.take v).map (·.2) ++ [l[v].2] := fun l v hv => by rw [List.take_succ_eq_append_getElem hv, List.map_append]; rfl
attribute [local irreducible] AC AT AO AK AH ACalls Sub Res.cells Res.obj Res.nix Res.own Res.map Exit.then Exit.inBlock bodyPost Code.wp Code.wpIn WL Next Post Kont
section
variable {W0 : World}
set_option maxRecDepth 100000
set_option maxHeartbeats 16000000
theorem rall_c {L : List Res} {F : List Fact} {R : Value → List Res → List Fact → Prop} (N : List Nmd) (B : List Int) (f n : Nat) (T0 : List Ty) {a2 a3 : Option Addr} {k2 c2 k3 c3 : Nat}
    (hC : ∀ (s : List Ty × List Int) (i : Int), CmpI N T0 n s → bndP s.1 B → 0 ≤ i → i < s.1.length → ∀ {L : List Res} {F : List Fact} {R : Value → List Res → List Fact → Prop} {a : Option Addr} {k c : Nat} {a5 : Option Addr} {k5 c5 : Nat}, fL s.1 a k c ∈ F → fN N a2 k2 c2 ∈ F → fI B a3 k3 c3 ∈ F → Fact.slc (.slice none 0 0) 5 [] ∈ F → fI s.2 a5 k5 c5 ∈ F →
      (∀ s' a k c a5 k5 c5, cmpR N B f s i = .ok (some s') → R (vA a k c a2 k2 c2 true a5 k5 c5 0) L (fL s'.1 a k c :: fI s'.2 a5 k5 c5 :: F)) → (∀ e a k c b j d a5 k5 c5, badO (cmpR N B f s i) e → R (vA a k c b j d false a5 k5 c5 e) L F) →
      ACalls Tryz.prog W0 35 #[.agg #[.slice a k c, .slice a2 k2 c2], .slice a3 k3 c3, .int .i64 i, .slice a5 k5 c5] L F R)
    (l : List Int) (s : List Ty × List Int) (hI : CmpI N T0 n s) (hB : bndP s.1 B) (hx : ∀ x ∈ l, 0 ≤ x ∧ x < T0.length) {a a4 a5 : Option Addr} {k c k4 c4 k5 c5 : Nat} (mL : fL s.1 a k c ∈ F) (mN : fN N a2 k2 c2 ∈ F) (mB : fI B a3 k3 c3 ∈ F) (mE : Fact.slc (.slice none 0 0) 5 [] ∈ F) (ml : fI l a4 k4 c4 ∈ F) (mA : fI s.2 a5 k5 c5 ∈ F)
    (hT : ∀ s' a k c a5 k5 c5, allR (cmpR N B f) l s = .ok (some s') → R (vA a k c a2 k2 c2 true a5 k5 c5 0) L (fL s'.1 a k c :: fI s'.2 a5 k5 c5 :: F))
    (hN : ∀ e a k c b j d a5 k5 c5, badO (allR (cmpR N B f) l s) e → R (vA a k c b j d false a5 k5 c5 e) L F) :
    ACalls Tryz.prog W0 84 #[.agg #[.slice a k c, .slice a2 k2 c2], .slice a3 k3 c3, .slice a4 k4 c4, .slice a5 k5 c5] L F R := by
  refine Gg Tryz.func84 HZ Tryz.ntmps84 HZ ?_
  refine qs 2 ?_
  refine Ga (GL HZ HZ (fun b4 => (Ga (Gj HZ (fun b8 => ?_)))))
  refine qs 6 ?_
  refine Ga (Gt HZ HZ (fun hl13 => ?_) (enc := eI) (lst := l) (hm := (show fI l a4 k4 c4 ∈ _ from memA)))
  refine qs 4 ?_
  refine GB (fun (y : Nat × (List Ty × List Int) × Option Addr × Nat × Nat × Option Addr × Nat × Nat) => y.1 ≤ l.length ∧ CmpI N T0 n y.2.1 ∧ bndP y.2.1.1 B ∧ allR (cmpR N B f) (l.take y.1) s = .ok (some y.2.1)) (fun y => [(1, .slice a3 k3 c3), (3, .slice y.2.2.2.2.2.1 y.2.2.2.2.2.2.1 y.2.2.2.2.2.2.2), (4, .pointer (some ⟨b4, 0, none⟩)), (8, .pointer (some ⟨b8, 0, none⟩)), (12, .slice a4 k4 c4), (13, .int .i64 l.length), (14, .int .i64 (y.1 : Int))]) (fun y => _ :: Res.cells b4 #[.slice y.2.2.1 y.2.2.2.1 y.2.2.2.2.1, .slice a2 k2 c2] 25 :: _) (fun y => fL y.2.1.1 y.2.2.1 y.2.2.2.1 y.2.2.2.2.1 :: fI y.2.1.2 y.2.2.2.2.2.1 y.2.2.2.2.2.2.1 y.2.2.2.2.2.2.2 :: F) (fun y => l.length - y.1) (0, s, a, k, c, a5, k5, c5) ⟨Nat.zero_le _, hI, hB, rfl⟩ srA (Gh (mem2 memA memA (fun x hx => by repeat (first | exact hx | refine List.mem_cons_of_mem _ ?_)))) ?_
  rintro ⟨q, s1, a7, k7, c7, a8, k8, c8⟩ ⟨hq, hI1, hB1, hal⟩
  simp only at hq hI1 hB1 hal ⊢
  refine qs 2 ?_
  refine Ga (Gw HZ HZ HZ (fun c15 => ?_) (fun c15 => ?_))
  ·refine qs 10 ?_
   have hql : q < l.length := by omega
   have hxq := hx _ (List.getElem_mem hql)
   have hple := hI1.pre.length_le
   refine Ga (Gd HZ HZ HZ HZ (enc := eI) (lst := l) (show fI l a4 k4 c4 ∈ _ from memA) hql (fun _ _ => ?_))
   refine Ga (Gs HZ HZ ?_)
   intros
   refine qs 9 ?_
   refine Ga (Ge HZ HZ (hC s1 l[q] hI1 hB1 hxq.1 Jb (show fL s1.1 a7 k7 c7 ∈ _ from memA) (show fN N a2 k2 c2 ∈ _ from memA) (show fI B a3 k3 c3 ∈ _ from memA) memA (show fI s1.2 a8 k8 c8 ∈ _ from memA) (fun s' b6 j6 d6 b7 j7 d7 hy => ?_) (fun e b6 j6 d6 b7 j7 d7 b9 j9 d9 hy => ?_)))
   ·refine Ga (Gj HZ (fun b11 => ?_))
    refine qs 8 ?_
    refine Ga (GG HZ HZ HZ (fun c25 => absurd HZ c25) (fun _ => ?_))
    refine qs 2 ?_
    refine Gc HZ HZ (Gy HZ HZ ?_)
    refine qs 25 ?_
    have hok := cmpR_ok f n s1 s' l[q] hI1 hB1 hxq.1 Jb hy
    exact Gk (q + 1, s', b6, j6, d6, b7, j7, d7) ⟨by simp only; omega, hok.1, hB1.up hok.2.1, by simp only; rw [all_step hql hal, hy]⟩ (by simp only; omega) srA (Sub.drop.trans (Gh (mem2 memA memA (fun x hx => by repeat (first | exact hx | refine List.mem_cons_of_mem _ ?_)))))
   refine Ga (Gj HZ (fun b11 => ?_))
   refine qs 8 ?_
   refine Ga (GG HZ HZ HZ (fun c25 => ?_) (fun c25 => ?_))
   ·refine qs 21 ?_
    exact Gn (rs := [.cell 8 _]) (L' := L) (F' := F) Tryz.results84 (.agg (j := 1) rfl rfl rfl .nil) subA (hN e _ _ _ _ _ _ _ _ _ (all_bad hql hal hy))
   refine qs 2 ?_
   refine Gc HZ HZ (Gy HZ HZ ?_)
   refine qs 18 ?_
   exact Gn (rs := [.cell 8 _]) (L' := L) (F' := F) Tryz.results84 (.agg (j := 1) rfl rfl rfl .nil) subA (hN e _ _ _ _ _ _ _ _ _ (all_bad hql hal hy))
  refine qs 18 ?_
  obtain rfl : q = l.length := by omega
  rw [List.take_length] at hal
  exact Gn (rs := [.cell 8 _]) (L' := L) (F' := fL s1.1 a7 k7 c7 :: fI s1.2 a8 k8 c8 :: F) Tryz.results84 (.agg (j := 0) rfl rfl rfl .nil) (Sub.drop.trans (Sub.drop.trans (Gf _ _))) (hT s1 _ _ _ _ _ _ hal)
theorem rcompares_c (N : List Nmd) (B : List Int) {a2 a3 : Option Addr} {k2 c2 k3 c3 : Nat} : ∀ (f n : Nat) (_ : 400 ≤ f + n) (T0 : List Ty) (s : List Ty × List Int) (i : Int) (_ : CmpI N T0 n s) (_ : bndP s.1 B) (_ : 0 ≤ i) (_ : i < s.1.length) {L : List Res} {F : List Fact} {R : Value → List Res → List Fact → Prop} {a : Option Addr} {k c : Nat} {a5 : Option Addr} {k5 c5 : Nat} (_ : fL s.1 a k c ∈ F) (_ : fN N a2 k2 c2 ∈ F) (_ : fI B a3 k3 c3 ∈ F) (_ : Fact.slc (.slice none 0 0) 5 [] ∈ F) (_ : fI s.2 a5 k5 c5 ∈ F)
    (_ : ∀ s' a k c a5 k5 c5, cmpR N B f s i = .ok (some s') → R (vA a k c a2 k2 c2 true a5 k5 c5 0) L (fL s'.1 a k c :: fI s'.2 a5 k5 c5 :: F)) (_ : ∀ e a k c b j d a5 k5 c5, badO (cmpR N B f s i) e → R (vA a k c b j d false a5 k5 c5 e) L F),
    ACalls Tryz.prog W0 35 #[.agg #[.slice a k c, .slice a2 k2 c2], .slice a3 k3 c3, .int .i64 i, .slice a5 k5 c5] L F R := by
  intro f
  induction f using Nat.strongRecOn with
  | _ f ih =>
  rintro n hf T0 ⟨T, A⟩ i hI hB h0 hi L F R a k c a5 k5 c5 mL mN mB mE mA hO hN
  simp only at hB hi mL mA
  have hAl : A.length ≤ 400 := nodup_len 400 A hI.once (fun x hx => by
    have := hI.there x hx
    have := hI.right.1.2.1
    simp only at *; omega)
  refine Gg Tryz.func35 HZ Tryz.ntmps35 HZ ?_
  refine qs 2 ?_
  refine Ga (GL HZ HZ (fun b4 => (Ga (Gj HZ (fun b8 => ?_)))))
  refine qs 7 ?_
  refine Ga (Ge HZ HZ (rin14_c A i (show fI A a5 k5 c5 ∈ _ from memA) (fun c19 => ?_) (fun c19 => ?_)))
  ·refine qs 13 ?_
   exact Gn (rs := [.cell 8 _]) (L' := L) (F' := fL T a k c :: fI A a5 k5 c5 :: F) Tryz.results35 (.agg (j := 0) rfl rfl rfl .nil) (Sub.drop.trans (Sub.drop.trans (Gh (mem2 memA memA (fun x hx => by repeat (first | exact hx | refine List.mem_cons_of_mem _ ?_)))))) (hO (T, A) _ _ _ _ _ _ (cmp_in c19 f))
  refine qs 8 ?_
  obtain ⟨f, rfl⟩ : ∃ f', f = f' + 1 := ⟨f - 1, by
   have : ¬ 400 ≤ n := fun h => c19 (hI.fuel h h0 hi)
   omega⟩
  refine Ga (Gl HZ HZ HZ HZ HZ (fun b24 => ?_))
  refine GH (Hz (i := 0) (k := 1) (sz := 1) (enc := eI) [i] HZ (.val .nil) (fun _ => rfl) HZ (by simp only [maxLen]; omega)) ?_
  refine qs 7 ?_
  refine Ga (GU (i := 0) (enc := eI) (lst := [i]) (lst2 := A) HZ HZ HZ HZ memA (fun x d hd v hv => Hq hd hv) (fun _ => rfl) (by simp only [List.length_cons, List.length_nil, maxLen]; omega) (by simp only [List.length_cons, List.length_nil]; omega) (fun a27 k27 c27 => ?_))
  refine GH ((Gz (i := 0) HZ).trans Gv) ?_
  refine qs 7 ?_
  refine Ga (Ge HZ HZ (rundT_c T N hI.right i h0 hi (show fL T a k c ∈ _ from memA) (show fN N a2 k2 c2 ∈ _ from memA) memA (fun e he hud => ?_) (fun T1 q a30 k30 c30 hud => ?_)))
  ·refine Ga (Gj HZ (fun b10 => ?_))
   refine qs 8 ?_
   refine Ga (GG HZ HZ HZ (fun _ => ?_) (fun c33 => absurd c33 he))
   refine qs 13 ?_
   exact Gn (rs := [.cell 8 _]) (L' := L) (F' := F) Tryz.results35 (.agg (j := 1) rfl rfl rfl .nil) subA (hN e _ _ _ _ _ _ _ _ _ (.inl ⟨he, cmp_err c19 hud⟩))
  refine Ga (Gj HZ (fun b10 => ?_))
  refine qs 8 ?_
  refine Ga (GG HZ HZ HZ (fun c33 => absurd HZ c33) (fun _ => ?_))
  refine qs 18 ?_
  obtain ⟨u1, u2, u3, u4⟩ := undR_ok hI.right h0 hi hud
  have hI1 := hI.put u1 u2 h0 hi c19
  have hB1 := hB.up u2
  obtain ⟨hqn, hqe⟩ := GS u3 u4
  have hokq := Hj u1.1 _ (List.getElem_mem hqn)
  refine Ga (Gd (k := q.toNat) HZ HZ HZ Jb (enc := eTy) (lst := T1) (show fL T1 a30 k30 c30 ∈ _ from memA) hqn (fun _ _ => ?_))
  refine Ga (GN HZ HZ ?_)
  intro a44 k44 z44 d44 e44 f44
  refine Ga (Gj HZ (fun b11 => ?_))
  refine qs 14 ?_
  refine Ga (Gr HZ HZ HZ (fun c48 => ?_) (fun c48 => ?_))
  ·refine qs 18 ?_
   exact Gn (rs := [.cell 8 _]) (L' := L) (F' := fL T1 a30 k30 c30 :: fI (i :: A) a27 k27 c27 :: F) Tryz.results35 (.agg (j := 2) rfl rfl rfl .nil) (by repeat (first | exact Gh (mem2 memA memA (fun x hx => by repeat (first | exact hx | refine List.mem_cons_of_mem _ ?_))) | refine GI Gv ?_)) (hO (T1, i :: A) _ _ _ _ _ _ (cmp_yes c19 hud (by rw [hqe]; omega)))
  refine qs 6 ?_
  refine Ga (Gr HZ HZ HZ (fun c49 => ?_) (fun c49 => ?_))
  ·refine qs 18 ?_
   exact Gn (rs := [.cell 8 _]) (L' := L) (F' := fL T1 a30 k30 c30 :: fI (i :: A) a27 k27 c27 :: F) Tryz.results35 (.agg (j := 2) rfl rfl rfl .nil) (by repeat (first | exact Gh (mem2 memA memA (fun x hx => by repeat (first | exact hx | refine List.mem_cons_of_mem _ ?_))) | refine GI Gv ?_)) (hO (T1, i :: A) _ _ _ _ _ _ (cmp_yes c19 hud (by rw [hqe]; omega)))
  refine qs 5 ?_
  refine Ga (Gr HZ HZ HZ (fun c50 => ?_) (fun c50 => ?_))
  ·refine qs 15 ?_
   exact Gn (rs := [.cell 8 _]) (L' := L) (F' := fL T1 a30 k30 c30 :: fI (i :: A) a27 k27 c27 :: F) Tryz.results35 (.agg (j := 2) rfl rfl rfl .nil) (by repeat (first | exact Gh (mem2 memA memA (fun x hx => by repeat (first | exact hx | refine List.mem_cons_of_mem _ ?_))) | refine GI Gv ?_)) (hO (T1, i :: A) _ _ _ _ _ _ (cmp_yes c19 hud (by rw [hqe]; omega)))
  refine qs 7 ?_
  refine Ga (Gr HZ HZ HZ (fun c55 => ?_) (fun c55 => ?_))
  ·refine qs 14 ?_
   have hkin := kids_there u1.1 u3 u4
   rw [hqe] at hkin
   have hal := cmp_all (B := B) (f := f) c19 hud (by rw [hqe]; omega)
   rw [hqe] at hal
   refine Ga (Ge HZ HZ (rall_c N B f (n + 1) T1 (ih f Jb (n + 1) Jb T1) T1[q.toNat].kids (T1, i :: A) (hI1.low List.prefix_rfl) hB1 hkin (show fL T1 a30 k30 c30 ∈ _ from memA) (show fN N a2 k2 c2 ∈ _ from memA) (show fI B a3 k3 c3 ∈ _ from memA) memA (show fI T1[q.toNat].kids d44 e44 f44 ∈ _ from memA) (show fI (i :: A) a27 k27 c27 ∈ _ from memA) (fun s' b6 j6 d6 b7 j7 d7 hy => ?_) (fun e b6 j6 d6 b7 j7 d7 b9 j9 d9 hy => ?_)))
   ·refine qs 6 ?_
    exact Gn (rs := [.cell 8 _]) (L' := L) (F' := fL s'.1 b6 j6 d6 :: fI s'.2 b7 j7 d7 :: F) Tryz.results35 (.agg (j := 2) rfl rfl rfl .nil) (by repeat (first | exact Gh (mem2 memA memA (fun x hx => by repeat (first | exact hx | refine List.mem_cons_of_mem _ ?_))) | refine GI Gv ?_)) (hO s' _ _ _ _ _ _ (hal.trans hy))
   refine qs 6 ?_
   exact Gn (rs := [.cell 8 _]) (L' := L) (F' := F) Tryz.results35 (.agg (j := 2) rfl rfl rfl .nil) subA (hN e _ _ _ _ _ _ _ _ _ (by rw [hal]; exact hy))
  refine qs 5 ?_
  refine Ga (Gr HZ HZ HZ (fun c56 => ?_) (fun c56 => ?_))
  ·refine qs 11 ?_
   have hkin := kids_there u1.1 u3 u4
   rw [hqe] at hkin
   have hal := cmp_all (B := B) (f := f) c19 hud (by rw [hqe]; omega)
   rw [hqe] at hal
   refine Ga (Ge HZ HZ (rall_c N B f (n + 1) T1 (ih f Jb (n + 1) Jb T1) T1[q.toNat].kids (T1, i :: A) (hI1.low List.prefix_rfl) hB1 hkin (show fL T1 a30 k30 c30 ∈ _ from memA) (show fN N a2 k2 c2 ∈ _ from memA) (show fI B a3 k3 c3 ∈ _ from memA) memA (show fI T1[q.toNat].kids d44 e44 f44 ∈ _ from memA) (show fI (i :: A) a27 k27 c27 ∈ _ from memA) (fun s' b6 j6 d6 b7 j7 d7 hy => ?_) (fun e b6 j6 d6 b7 j7 d7 b9 j9 d9 hy => ?_)))
   ·refine qs 6 ?_
    exact Gn (rs := [.cell 8 _]) (L' := L) (F' := fL s'.1 b6 j6 d6 :: fI s'.2 b7 j7 d7 :: F) Tryz.results35 (.agg (j := 2) rfl rfl rfl .nil) (by repeat (first | exact Gh (mem2 memA memA (fun x hx => by repeat (first | exact hx | refine List.mem_cons_of_mem _ ?_))) | refine GI Gv ?_)) (hO s' _ _ _ _ _ _ (hal.trans hy))
   refine qs 6 ?_
   exact Gn (rs := [.cell 8 _]) (L' := L) (F' := F) Tryz.results35 (.agg (j := 2) rfl rfl rfl .nil) subA (hN e _ _ _ _ _ _ _ _ _ (by rw [hal]; exact hy))
  refine qs 6 ?_
  refine Ga (Gr HZ HZ HZ (fun c64 => ?_) (fun c64 => ?_))
  ·refine qs 9 ?_
   have h9 : (tyAt T1 q).kind = 9 := by rw [hqe]; exact c64
   have hpn := param_n u1.1 u3 u4 h9
   rw [hqe] at hpn
   refine Ga (Ge HZ HZ (rbound_c T1 B hB1 T1[q.toNat] hpn.1 (show fL T1 a30 k30 c30 ∈ _ from memA) (show fI B a3 k3 c3 ∈ _ from memA) (fun b a5 k5 c5 a6 k6 c6 hb => ?_) (fun hb => ?_)))
   ·refine qs 3 ?_
    refine Ga (Gj HZ (fun b12 => ?_))
    refine qs 11 ?_
    have hbn := cmp_bnd (f := f) c19 hud h9 (b := b) (by rw [hqe]; exact hb)
    obtain ⟨kb, _, kb0, kb1, hbe, hb7, _⟩ := bound_is hB1 hpn.1 hb
    obtain ⟨hkb, hke⟩ := GS kb0 kb1
    have hif := iface_n u1.1 kb0 kb1 (by rw [← hbe]; exact hb7)
    have htm := trm_there u1.1 kb0 kb1 (by rw [← hbe]; exact hb7)
    have hokb := Hj u1.1 _ (List.getElem_mem hkb)
    rw [← hke, ← hbe] at hokb
    rw [← hbe] at hif htm
    refine Gc HZ HZ (AO.rem HZ HZ (by decide) HZ ?_)
    rw [Int.tmod_eq_emod_of_nonneg hif.1]
    refine Gc HZ HZ (Gr HZ HZ HZ (fun c77 => ?_) (fun c77 => ?_))
    ·refine qs 4 ?_
     refine Gc HZ HZ (GY HZ HZ HZ (fun c82 => ?_) (fun c82 => ?_))
     ·refine qs 6 ?_
      refine Ga (He HZ (fun b84 => ?_))
      refine GH (Hz (i := 0) (k := 0) (sz := 1) (enc := eI) [] HZ .nil (fun _ => rfl) HZ (by decide)) ?_
      refine qs 7 ?_
      refine Ga (Ge HZ HZ (rterms14_c b hokb.words (Nat.le_of_eq hif.2.2) (show fW b _ _ _ ∈ _ from memA) (show fK b _ _ _ ∈ _ from memA) (fun a86 k86 c86 => ?_)))
      refine Ga (Gt HZ HZ (fun hl87 => ?_) (enc := eTm) (lst := trmL b) (hm := memA))
      refine qs 4 ?_
      have htl := trmN_len b b.words.length
      have hwl := hokb.words
      generalize hlt : trmL b = lt at *
      refine GB (fun (y : Nat × Option Addr × Nat × Nat) => y.1 ≤ lt.length) (fun y => [(1, .slice a3 k3 c3), (4, .pointer (some ⟨b4, 0, none⟩)), (8, .pointer (some ⟨b8, 0, none⟩)), (9, .slice a27 k27 c27), (14, .slice y.2.1 y.2.2.1 y.2.2.2), (86, .slice a86 k86 c86), (87, .int .i64 lt.length), (88, .int .i64 (y.1 : Int))]) (fun y => Res.own (.slice y.2.1 y.2.2.1 y.2.2.2) 3 1 (((lt.take y.1).map (·.2)).map eI) :: _) (fun _ => _) (fun y => lt.length - y.1) (0, some ⟨b84, 0, none⟩, 0, 0) (by simp) srA (Gf _ _) ?_
      rintro ⟨v, a7, k7, c7⟩ hv
      simp only at hv ⊢
      refine qs 2 ?_
      refine Ga (Gw HZ HZ HZ (fun c89 => ?_) (fun c89 => ?_))
      ·refine qs 10 ?_
       have hvl : v < lt.length := by omega
       refine Ga (Gd HZ HZ HZ HZ (enc := eTm) (lst := lt) (show fTm lt a86 k86 c86 ∈ _ from memA) hvl (fun _ _ => ?_))
       refine Ga (GN HZ HZ ?_)
       refine Ga (Gj HZ (fun b16 => ?_))
       refine qs 7 ?_
       refine Ga (Gl HZ HZ HZ HZ HZ (fun b95 => ?_))
       have hml : ((lt.take v).map (·.2)).length = v := by rw [List.length_map, List.length_take]; omega
       have hll : lt.length ≤ 20 := by rw [← hlt]; unfold trmL; omega
       refine Ga (GJ (i := 1) (enc := eI) (lst := (lt.take v).map (·.2)) [lt[v].2] HZ HZ HZ HZ (.val .nil) HZ HZ (fun _ => rfl) (by rw [hml]; simp only [maxLen]; omega) (by rw [hml]; omega) (fun a96 k96 c96 => ?_))
       rw [← trmN_kid b lt v hvl]
       refine qs 8 ?_
       exact Gk (v + 1, a96, k96, c96) (by simp only; omega) (by simp only; omega) srA (Sub.drop.trans subF)
      refine qs 11 ?_
      obtain rfl : v = lt.length := by omega
      rw [List.take_length]
      refine GH ((Gz (i := 0) HZ).trans Gv) ?_
      refine Ga (HD HZ HZ ?_)
      refine qs 3 ?_
      have hal : cmpR N B (f + 1) (T, A) i = allR (cmpR N B f) (lt.map (·.2)) (T1, i :: A) := by rw [hbn, if_neg Jb, if_pos c82]
      refine Ga (Ge rfl rfl (rall_c N B f (n + 1) T1 (ih f Jb (n + 1) Jb T1) (lt.map (·.2)) (T1, i :: A) (hI1.low List.prefix_rfl) hB1 (fun x hx => by obtain ⟨z, hz, rfl⟩ := List.mem_map.1 hx; exact htm z hz) (show fL T1 a30 k30 c30 ∈ _ from memA) (show fN N a2 k2 c2 ∈ _ from memA) (show fI B a3 k3 c3 ∈ _ from memA) memA (show fI (lt.map (·.2)) a7 k7 c7 ∈ _ from memA) (show fI (i :: A) a27 k27 c27 ∈ _ from memA) (fun s' b6 j6 d6 b7 j7 d7 hy => ?_) (fun e b6 j6 d6 b7 j7 d7 b9 j9 d9 hy => ?_)))
      ·refine qs 7 ?_
       exact Gn (rs := [.cell 8 _]) (L' := L) (F' := fL s'.1 b6 j6 d6 :: fI s'.2 b7 j7 d7 :: F) Tryz.results35 (.agg (j := 3) rfl rfl rfl .nil) (by repeat (first | exact Gh (mem2 memA memA (fun x hx => by repeat (first | exact hx | refine List.mem_cons_of_mem _ ?_))) | refine GI Gv ?_)) (hO s' _ _ _ _ _ _ (hal.trans hy))
      refine qs 7 ?_
      exact Gn (rs := [.cell 8 _]) (L' := L) (F' := F) Tryz.results35 (.agg (j := 3) rfl rfl rfl .nil) subA (hN e _ _ _ _ _ _ _ _ _ (by rw [hal]; exact hy))
     refine qs 13 ?_
     refine Gc HZ HZ (AO.rem HZ HZ (by decide) HZ ?_)
     rw [Int.tmod_eq_emod_of_nonneg hif.1]
     refine Gc HZ HZ (Gr HZ HZ HZ (fun c109 => ?_) (fun c109 => ?_))
     ·refine qs 9 ?_
      first | exact absurd c109 Jb | exact Gn (rs := [.cell 8 _]) (L' := L) (F' := fL T1 a30 k30 c30 :: fI (i :: A) a27 k27 c27 :: F) Tryz.results35 (.agg (j := 3) rfl rfl rfl .nil) (by repeat (first | exact Gh (mem2 memA memA (fun x hx => by repeat (first | exact hx | refine List.mem_cons_of_mem _ ?_))) | refine GI Gv ?_)) (hO (T1, i :: A) _ _ _ _ _ _ (by rw [hbn, if_pos c109]))
     refine qs 9 ?_
     exact Gn (rs := [.cell 8 _]) (L' := L) (F' := F) Tryz.results35 (.agg (j := 3) rfl rfl rfl .nil) subA (hN 0 _ _ _ _ _ _ _ _ _ (.inr ⟨rfl, by rw [hbn, if_neg Jb, if_neg Jb]⟩))
    refine qs 18 ?_
    refine Gc HZ HZ (AO.rem HZ HZ (by decide) HZ ?_)
    rw [Int.tmod_eq_emod_of_nonneg hif.1]
    refine Gc HZ HZ (Gr HZ HZ HZ (fun c109 => ?_) (fun c109 => ?_))
    ·refine qs 9 ?_
     first | exact absurd c109 Jb | exact Gn (rs := [.cell 8 _]) (L' := L) (F' := fL T1 a30 k30 c30 :: fI (i :: A) a27 k27 c27 :: F) Tryz.results35 (.agg (j := 3) rfl rfl rfl .nil) (by repeat (first | exact Gh (mem2 memA memA (fun x hx => by repeat (first | exact hx | refine List.mem_cons_of_mem _ ?_))) | refine GI Gv ?_)) (hO (T1, i :: A) _ _ _ _ _ _ (by rw [hbn, if_pos c109]))
    refine qs 9 ?_
    exact Gn (rs := [.cell 8 _]) (L' := L) (F' := F) Tryz.results35 (.agg (j := 3) rfl rfl rfl .nil) subA (hN 0 _ _ _ _ _ _ _ _ _ (.inr ⟨rfl, by rw [hbn, if_neg Jb, if_neg Jb]⟩))
   refine qs 3 ?_
   refine Ga (Gj HZ (fun b12 => ?_))
   refine qs 42 ?_
   exact Gn (rs := [.cell 8 _]) (L' := L) (F' := F) Tryz.results35 (.agg (j := 3) rfl rfl rfl .nil) subA (hN 0 _ _ _ _ _ _ _ _ _ (.inr ⟨rfl, cmp_no c19 hud (by rw [hqe]; omega) (by rw [hqe]; omega) (by rw [hqe]; exact hb)⟩))
  refine qs 15 ?_
  exact Gn (rs := [.cell 8 _]) (L' := L) (F' := F) Tryz.results35 (.agg (j := 2) rfl rfl rfl .nil) subA (hN 0 _ _ _ _ _ _ _ _ _ (.inr ⟨rfl, cmp_no c19 hud (by rw [hqe]; omega) (by rw [hqe]; omega) (by rw [hqe]; unfold boundR; rw [if_neg (fun h => c64 h.1)])⟩))
end
end Go.Sy
namespace Go.Sy
open Go Go.Proofs Go.RowKit
theorem meth_doc {N M : List Nmd} {B : List Int} {T o : List Ty} {i g e : Int} {w : List UInt8} {x : SelV} (hu : rightU T N) (hi : 0 ≤ i ∧ i < T.length) (hn : isName w = true) (h9 : (tyAt T i).kind ≠ 9) (hw : w ≠ [95]) (hs : docS T N i w o M x e) :
    (e = 0 → methR N B T i w g = .ok (x.method && decide (x.typ = g) && (!x.ptr || x.via))) ∧ (e = 1 ∨ e = 8 ∨ e = 9 → methR N B T i w g = .ok false) ∧ (e ≠ 0 → ¬(e = 1 ∨ e = 8 ∨ e = 9) → methR N B T i w g = .error e) := by
  have hg : goodS T N i w := ⟨hu, hi, hn, hw⟩
  refine meth_sel (o := o) (M := M) hu hi hn h9 ?_
  rcases hs with ⟨h0, h, h2⟩ | ⟨h0, h, h2⟩
  · exact .inl ⟨h0, .inr ⟨hg, h⟩, h2⟩
  exact .inr ⟨h0, hg, h, h2⟩
theorem meth_blank {N : List Nmd} {B : List Int} {T : List Ty} {i g : Int} (h9 : (tyAt T i).kind ≠ 9) : methR N B T i [95] g = .ok false := by unfold methR; rw [if_neg h9, if_pos rfl]
theorem ins_par {N : List Nmd} {B : List Int} {T : List Ty} {i : Int} {l : List Tm} (h9 : (tyAt T i).kind = 9) {b : Ty} (hb : (boundR T B (tyAt T i)).getD noTy = b) : insideR N B T i l = if 2 ≤ b.n then allR (fun T x => withinR N T x l) (trmL b) T else .ok none := by unfold insideR; rw [if_pos h9, hb]
def insI (N : List Nmd) (T : List Ty) (b : Ty) (l lt : List Tm) (a2 : Option Addr) (k2 c2 : Nat) (v : Nat) (is : Bool) (e : Int) (T' : List Ty) (a7 : Option Addr) (k7 c7 : Nat) (a8 : Option Addr) (k8 c8 : Nat) (b8 : Option Addr) (j8 d8 : Nat) : Prop :=
  (is = true ∧ e = 0 ∧ 2 ≤ b.n ∧ allR (fun T x => withinR N T x l) (lt.take v) T = .ok (some T') ∧ rightU T' N ∧ T <+: T' ∧ a7 = a8 ∧ k7 = k8 ∧ c7 = c8 ∧ a2 = b8 ∧ k2 = j8 ∧ c2 = d8) ∨ (is = false ∧ badO (if 2 ≤ b.n then allR (fun T x => withinR N T x l) lt T else .ok none) e)
attribute [local irreducible] AC AT AO AK AH ACalls Sub Res.cells Res.obj Res.nix Res.own Res.map Exit.then Exit.inBlock bodyPost Code.wp Code.wpIn WL Next Post Kont
section
variable {W0 : World} {L : List Res} {F : List Fact} {R : Value → List Res → List Fact → Prop}
set_option maxRecDepth 100000
set_option maxHeartbeats 16000000
theorem rbound2_c (T : List Ty) (hr : rightP T) (B : List Int) (hB : bndP T B) (t : Ty) (hn : 0 ≤ t.n) {a a2 a3 a4 a5 : Option Addr} {k c k2 c2 k3 c3 k4 c4 k5 c5 : Nat} (mL : fL T a k c ∈ F) (mB : fI B a3 k3 c3 ∈ F) (m1 : Fact.slc (.slice none 0 0) 1 [] ∈ F)
    (h : ∀ b is a1 k1 c1 a2 k2 c2, (boundR T B t).getD noTy = b → b.words.length ≤ 20 → b.words.length = b.kids.length → (∀ x ∈ trmL b, 0 ≤ x.2 ∧ x.2 < T.length) → R (.tuple #[vTy b a1 k1 c1 a2 k2 c2, .bool is]) L (fW b a1 k1 c1 :: fK b a2 k2 c2 :: F)) :
    ACalls Tryz.prog W0 85 #[.agg #[.slice a k c, .slice a2 k2 c2], .slice a3 k3 c3, vTy t a4 k4 c4 a5 k5 c5] L F R := by
  refine ACalls.out (R' := fun v L' F' => ∃ F'', Sub L' F' L' F'' ∧ R v L' F'') ?_ (fun v L' F' ⟨F'', h1, h2⟩ => ⟨L', F'', h1, h2⟩)
  refine rbound_c T B hB t hn mL mB (fun b a1 k1 c1 a2 k2 c2 hb => ?_) (fun hb => ?_)
  · obtain ⟨kb, _, kb0, kb1, hbe, hb7, _⟩ := bound_is hB hn hb
    obtain ⟨hkb, hke⟩ := GS kb0 kb1
    have hif := iface_n hr kb0 kb1 (by rw [← hbe]; exact hb7)
    have htm := trm_there hr kb0 kb1 (by rw [← hbe]; exact hb7)
    have hokb := Hj hr _ (List.getElem_mem hkb)
    rw [← hke, ← hbe] at hokb
    rw [← hbe] at hif htm
    exact ⟨_, Gf _ _, h b true _ _ _ _ _ _ (by rw [hb]; rfl) hokb.words hif.2.2 htm⟩
  exact ⟨_, Gh (mem2 m1 m1 (fun x hx => hx)), h noTy false none 0 0 none 0 0 (by rw [hb]; rfl) (by decide) rfl (by intro x hx; exact absurd hx (by simp [trmL, trmN, noTy]))⟩
theorem rmethod_c (T : List Ty) (N : List Nmd) (hu : rightU T N) (B : List Int) (hB : bndP T B) (i : Int) (hi : 0 ≤ i ∧ i < T.length) (w : List UInt8) (hnm : isName w = true) (sg : Int) {a a2 a3 : Option Addr} {k c k2 c2 k3 c3 : Nat} (mL : fL T a k c ∈ F) (mN : fN N a2 k2 c2 ∈ F) (mB : fI B a3 k3 c3 ∈ F) (mE : Fact.slc (.slice none 0 0) 5 [] ∈ F) (m4 : Fact.slc (.slice none 0 0) 4 [] ∈ F) (m1 : Fact.slc (.slice none 0 0) 1 [] ∈ F)
    (hT : ∀ a k c b j d, methR N B T i w sg = .ok true → R (vA a k c b j d true none 0 0 0) L F)
    (hN : ∀ e a k c b j d, badM (methR N B T i w sg) e → R (vA a k c b j d false none 0 0 e) L F) :
    ACalls Tryz.prog W0 87 #[.agg #[.slice a k c, .slice a2 k2 c2], .slice a3 k3 c3, .int .i64 i, S w, .int .i64 sg] L F R := by
  obtain ⟨hin, hie⟩ := GS hi.1 hi.2
  refine Gg Tryz.func87 HZ Tryz.ntmps87 HZ ?_
  refine qs 2 ?_
  refine Ga (GL HZ HZ (fun b5 => (Ga (Gj HZ (fun b10 => ?_)))))
  refine qs 7 ?_
  refine Ga (Gd (k := i.toNat) HZ HZ HZ Jb (enc := eTy) (lst := T) (show fL T a k c ∈ _ from memA) hin (fun _ _ => ?_))
  refine Ga (GN HZ HZ ?_)
  intro a21 k21 z21 d21 e21 f21
  refine Ga (Gj HZ (fun b11 => ?_))
  refine qs 8 ?_
  refine Ga (Gr HZ HZ HZ (fun c24 => ?_) (fun c24 => ?_))
  ·refine qs 8 ?_
   have h9 : (tyAt T i).kind = 9 := by rw [hie]; exact c24
   have hpn := param_n hu.1 hi.1 hi.2 h9
   rw [hie] at hpn
   have hmp := meth_par (N := N) (B := B) (g := sg) (w := w) h9
   rw [hie] at hmp
   refine Ga (Ge HZ HZ (rbound2_c T hu.1 B hB T[i.toNat] hpn.1 (show fL T a k c ∈ _ from memA) (show fI B a3 k3 c3 ∈ _ from memA) memA (fun b is a5 k5 c5 a6 k6 c6 hb hbw hbk _ => ?_)))
   rw [hb] at hmp
   refine qs 3 ?_
   refine Ga (Gj HZ (fun b12 => ?_))
   refine qs 9 ?_
   refine Ga (Gt HZ HZ (fun hl34 => ?_) (enc := eS) (lst := b.words) (hm := memA))
   refine qs 4 ?_
   refine GB (fun (v : Nat) => v ≤ b.words.length ∧ ∀ x ∈ b.words.take v, x ≠ w) (fun v => [(3, S w), (4, .int .i64 sg), (5, .pointer (some ⟨b5, 0, none⟩)), (10, .pointer (some ⟨b10, 0, none⟩)), (12, .pointer (some ⟨b12, 0, none⟩)), (33, .slice a5 k5 c5), (34, .int .i64 b.words.length), (35, .int .i64 (v : Int))]) (fun _ => _) (fun _ => _) (fun v => b.words.length - v) 0 ⟨Nat.zero_le _, by simp⟩ srA (Gf _ _) ?_
   rintro v ⟨hv, hno⟩
   refine qs 2 ?_
   refine Ga (Gw HZ HZ HZ (fun c36 => ?_) (fun c36 => ?_))
   ·refine qs 11 ?_
    have hvl : v < b.words.length := by omega
    have hvk : v < b.kids.length := by omega
    refine Ga (Gd HZ HZ HZ HZ (enc := eS) (lst := b.words) (show fW b a5 k5 c5 ∈ _ from memA) hvl (fun _ _ => ?_))
    refine Ga (Gs HZ HZ ?_)
    intros
    refine qs 8 ?_
    refine Ga (Hi HZ HZ HZ (fun c42 => ?_) (fun c42 => ?_))
    ·refine qs 4 ?_
     refine GP (fun _ => false) [(b5, _, _), (b12, _, _)] bxA HZ (fun hx hX => ?_)
     have hkk := (Gu (hX (fK b a6 k6 c6) memA)).1
     obtain ⟨p1, o1, e1, at1⟩ := GA (hX (fK b a6 k6 c6) memA) hvk
     subst e1
     obtain ⟨v1, h10, hc1⟩ := at1 0 _ rfl
     cases hc1
     rw [kid_some (idx_word hvl c42 hno) hvk] at hmp
     refine qt [0, 1, 2, 3] ?_
     refine GD (i := 4) HZ (GE (k := v) HZ HZ HZ Jb) Ja HZ HZ ?_
     refine GR (i := 5) HZ (Ho HZ h10) Ja Ja HZ HZ HZ ?_
     refine qt [6] ?_
     refine Hf (i := 7) HZ (Y.eql HZ HZ) Ja HZ HZ (fun c50 => ?_) (fun c50 => ?_)
     ·replace c50 := eq_of_beq c50
      refine qt [8] ?_
      refine Gm (i := 9) Ja HZ HZ (fun _ => ?_)
      refine Gx HZ HZ HZ HZ ?_
      refine Gi bxA memB ?_
      refine Gq Ja ?_
      refine qs 8 ?_
      exact Gn (rs := [.cell 10 _]) (L' := L) (F' := F) Tryz.results87 (.agg (j := 2) rfl rfl rfl .nil) subA (hT _ _ _ _ _ _ (by rw [hmp, c50]; simp))
     replace c50 := ne_of_beqF c50
     refine qt [8] ?_
     refine Gm (i := 9) Ja HZ HZ (fun _ => ?_)
     refine Gx HZ HZ HZ HZ ?_
     refine Gi bxA memB ?_
     refine Gq Ja ?_
     refine qs 8 ?_
     exact Gn (rs := [.cell 10 _]) (L' := L) (F' := F) Tryz.results87 (.agg (j := 2) rfl rfl rfl .nil) subA (hN 0 _ _ _ _ _ _ (.inr ⟨rfl, by rw [hmp]; simp [c50]⟩))
    refine qs 10 ?_
    exact Gk (v + 1) ⟨hvl, fun x hx => by
     rw [List.take_succ_eq_append_getElem hvl] at hx
     rcases List.mem_append.1 hx with hx | hx
     · exact hno x hx
     rw [List.mem_singleton.1 hx]; exact c42⟩ Jb srA subF
   refine qs 18 ?_
   refine Gn (rs := [.cell 10 _]) (L' := L) (F' := F) Tryz.results87 (.agg (j := 2) rfl rfl rfl .nil) subA (hN 0 _ _ _ _ _ _ (.inr ⟨rfl, ?_⟩))
   obtain rfl : v = b.words.length := by omega
   rw [List.take_length] at hno
   rw [hmp, kid_none (idx_not fun h => hno w h rfl)]; rfl
  refine qs 9 ?_
  refine Ga (Hi HZ HZ HZ (fun c56 => ?_) (fun c56 => ?_))
  ·refine qs 12 ?_
   exact Gn (rs := [.cell 10 _]) (L' := L) (F' := F) Tryz.results87 (.agg (j := 1) rfl rfl rfl .nil) subA (hN 0 _ _ _ _ _ _ (.inr ⟨rfl, by rw [c56]; exact meth_blank (by rw [hie]; exact c24)⟩))
  refine qs 10 ?_
  refine Ga (Ge HZ HZ (rFind2_c T N i w ⟨hu, hi, hnm, c56⟩ (show fL T a k c ∈ _ from memA) (show fN N a2 k2 c2 ∈ _ from memA) memA memA memA (fun o M x e a62 k62 c62 bn jn dn a63 k63 c63 hd => ?_)))
  obtain ⟨hm0, hm1, hm2⟩ := meth_doc (B := B) (g := sg) hu hi hnm (by rw [hie]; exact c24) c56 hd
  obtain ⟨mt, ty, pt, vi, pa⟩ := x
  refine Ga (Gj HZ (fun b16 => ?_))
  refine qs 8 ?_
  refine Ga (Gr HZ HZ HZ (fun c65 => ?_) (fun c65 => ?_))
  ·refine qs 22 ?_
   exact Gn (rs := [.cell 10 _]) (L' := L) (F' := F) Tryz.results87 (.agg (j := 2) rfl rfl rfl .nil) subA (hN 0 _ _ _ _ _ _ (.inr ⟨rfl, hm1 Jb⟩))
  refine qs 3 ?_
  refine Gc HZ HZ (Gr HZ HZ HZ (fun c69 => ?_) (fun c69 => ?_))
  ·refine qs 18 ?_
   exact Gn (rs := [.cell 10 _]) (L' := L) (F' := F) Tryz.results87 (.agg (j := 2) rfl rfl rfl .nil) subA (hN 0 _ _ _ _ _ _ (.inr ⟨rfl, hm1 Jb⟩))
  refine qs 4 ?_
  refine Gc HZ HZ (Gr HZ HZ HZ (fun c74 => ?_) (fun c74 => ?_))
  ·refine qs 13 ?_
   exact Gn (rs := [.cell 10 _]) (L' := L) (F' := F) Tryz.results87 (.agg (j := 2) rfl rfl rfl .nil) subA (hN 0 _ _ _ _ _ _ (.inr ⟨rfl, hm1 Jb⟩))
  refine qs 11 ?_
  refine Ga (GG HZ HZ HZ (fun c80 => ?_) (fun c80 => ?_))
  ·refine qs 13 ?_
   exact Gn (rs := [.cell 10 _]) (L' := L) (F' := F) Tryz.results87 (.agg (j := 2) rfl rfl rfl .nil) subA (hN e _ _ _ _ _ _ (.inl ⟨c80, hm2 c80 Jb⟩))
  refine qs 10 ?_
  have hm3 := hm0 Jb
  rcases Bool.eq_false_or_eq_true mt with rfl | rfl
  all_goals refine Ga (Gy rfl rfl ?_)
  ·refine qs 5 ?_
   refine Gc HZ HZ (Gr HZ HZ HZ (fun c93 => ?_) (fun c93 => ?_))
   ·refine qs 4 ?_
    rcases Bool.eq_false_or_eq_true pt with rfl | rfl
    all_goals refine Gc rfl rfl (Gy rfl rfl ?_)
    ·refine qs 4 ?_
     rcases Bool.eq_false_or_eq_true vi with rfl | rfl
     all_goals refine Gc rfl rfl (Gy rfl rfl ?_)
     ·refine qs 7 ?_
      exact Gn (rs := [.cell 10 _]) (L' := L) (F' := F) Tryz.results87 (.agg (j := 2) rfl rfl rfl .nil) subA (hT _ _ _ _ _ _ (by rw [hm3]; have c48 : ty = sg := c93; simp [c48]))
     refine qs 7 ?_
     exact Gn (rs := [.cell 10 _]) (L' := L) (F' := F) Tryz.results87 (.agg (j := 2) rfl rfl rfl .nil) subA (hN 0 _ _ _ _ _ _ (.inr ⟨rfl, by rw [hm3]; have c48 : ty = sg := c93; simp [c48]⟩))
    refine qs 12 ?_
    exact Gn (rs := [.cell 10 _]) (L' := L) (F' := F) Tryz.results87 (.agg (j := 2) rfl rfl rfl .nil) subA (hT _ _ _ _ _ _ (by rw [hm3]; have c48 : ty = sg := c93; simp [c48]))
   refine qs 17 ?_
   exact Gn (rs := [.cell 10 _]) (L' := L) (F' := F) Tryz.results87 (.agg (j := 2) rfl rfl rfl .nil) subA (hN 0 _ _ _ _ _ _ (.inr ⟨rfl, by rw [hm3]; have c48 : ty ≠ sg := c93; simp [c48]⟩))
  refine qs 23 ?_
  exact Gn (rs := [.cell 10 _]) (L' := L) (F' := F) Tryz.results87 (.agg (j := 2) rfl rfl rfl .nil) subA (hN 0 _ _ _ _ _ _ (.inr ⟨rfl, by rw [hm3]; rfl⟩))
theorem rinside_c (T : List Ty) (N : List Nmd) (hu : rightU T N) (B : List Int) (hB : bndP T B) (i : Int) (h0 : 0 ≤ i) (hi : i < T.length) (l : List Tm) {a a2 a3 a4 : Option Addr} {k c k2 c2 k3 c3 k4 c4 : Nat} (mL : fL T a k c ∈ F) (mN : fN N a2 k2 c2 ∈ F) (mB : fI B a3 k3 c3 ∈ F) (mE : Fact.slc (.slice none 0 0) 5 [] ∈ F) (m1 : Fact.slc (.slice none 0 0) 1 [] ∈ F) (mT : fTm l a4 k4 c4 ∈ F)
    (hT : ∀ o a k c, insideR N B T i l = .ok (some o) → R (vA a k c a2 k2 c2 true none 0 0 0) L (fL o a k c :: F))
    (hN : ∀ e a k c b j d, badO (insideR N B T i l) e → R (vA a k c b j d false none 0 0 e) L F) :
    ACalls Tryz.prog W0 88 #[.agg #[.slice a k c, .slice a2 k2 c2], .slice a3 k3 c3, .int .i64 i, .slice a4 k4 c4] L F R := by
  obtain ⟨hin, hie⟩ := GS h0 hi
  refine Gg Tryz.func88 HZ Tryz.ntmps88 HZ ?_
  refine qs 2 ?_
  refine Ga (GL HZ HZ (fun b4 => (Ga (Gj HZ (fun b8 => ?_)))))
  refine qs 7 ?_
  refine Ga (Gd (k := i.toNat) HZ HZ HZ Jb (enc := eTy) (lst := T) (show fL T a k c ∈ _ from memA) hin (fun _ _ => ?_))
  refine Ga (GN HZ HZ ?_)
  intro a21 k21 z21 d21 e21 f21
  refine Ga (Gj HZ (fun b9 => ?_))
  refine qs 8 ?_
  refine Ga (Gr HZ HZ HZ (fun c23 => ?_) (fun c23 => ?_))
  ·refine qs 8 ?_
   have h9 : (tyAt T i).kind = 9 := by rw [hie]; exact c23
   have hpn := param_n hu.1 h0 hi h9
   rw [hie] at hpn
   refine Ga (Ge HZ HZ (rbound2_c T hu.1 B hB T[i.toNat] hpn.1 (show fL T a k c ∈ _ from memA) (show fI B a3 k3 c3 ∈ _ from memA) memA (fun b is a5 k5 c5 a6 k6 c6 hb hbw hbk htm => ?_)))
   have hal : insideR N B T i l = if 2 ≤ b.n then allR (fun T x => withinR N T x l) (trmL b) T else .ok none := ins_par h9 (by rw [hie]; exact hb)
   refine qs 3 ?_
   refine Ga (Gj HZ (fun b10 => ?_))
   refine qs 9 ?_
   refine Ga (GY HZ HZ HZ (fun c34 => ?_) (fun c34 => ?_))
   ·refine qs 1 ?_
    refine Ga (Gj HZ (fun b12 => ?_))
    refine qs 7 ?_
    refine Ga (Ge HZ HZ (rterms14_c b hbw (Nat.le_of_eq hbk) (show fW b a5 k5 c5 ∈ _ from memA) (show fK b a6 k6 c6 ∈ _ from memA) (fun a37 k37 c37 => ?_)))
    refine Ga (Gt HZ HZ (fun hl38 => ?_) (enc := eTm) (lst := trmL b) (hm := memA))
    refine qs 4 ?_
    generalize trmL b = lt at *
    refine GB (fun (y : Nat × Bool × Int × List Ty × Option Addr × Nat × Nat × Option Addr × Nat × Nat × Option Addr × Nat × Nat) => y.1 ≤ lt.length ∧ insI N T b l lt a2 k2 c2 y.1 y.2.1 y.2.2.1 y.2.2.2.1 y.2.2.2.2.1 y.2.2.2.2.2.1 y.2.2.2.2.2.2.1 y.2.2.2.2.2.2.2.1 y.2.2.2.2.2.2.2.2.1 y.2.2.2.2.2.2.2.2.2.1 y.2.2.2.2.2.2.2.2.2.2.1 y.2.2.2.2.2.2.2.2.2.2.2.1 y.2.2.2.2.2.2.2.2.2.2.2.2) (fun y => [(3, .slice a4 k4 c4), (8, .pointer (some ⟨b8, 0, none⟩)), (12, .pointer (some ⟨b12, 0, none⟩)), (37, .slice a37 k37 c37), (38, .int .i64 lt.length), (39, .int .i64 (y.1 : Int))]) (fun y => Res.cells b12 #[.slice y.2.2.2.2.2.2.2.1 y.2.2.2.2.2.2.2.2.1 y.2.2.2.2.2.2.2.2.2.1, .slice y.2.2.2.2.2.2.2.2.2.2.1 y.2.2.2.2.2.2.2.2.2.2.2.1 y.2.2.2.2.2.2.2.2.2.2.2.2, .bool y.2.1, .slice none 0 0, .int .i64 y.2.2.1] 66 :: _) (fun y => fL y.2.2.2.1 y.2.2.2.2.1 y.2.2.2.2.2.1 y.2.2.2.2.2.2.1 :: _) (fun y => lt.length - y.1) (0, true, 0, T, a, k, c, a, k, c, a2, k2, c2) ⟨Nat.zero_le _, .inl ⟨rfl, rfl, c34, rfl, hu, List.prefix_rfl, rfl, rfl, rfl, rfl, rfl, rfl⟩⟩ srA (Gh (mem1 memA (fun x hx => by repeat (first | exact hx | refine List.mem_cons_of_mem _ ?_)))) ?_
    rintro ⟨v, is2, e, T', a7, k7, c7, a8, k8, c8, b9, j9, d9⟩ ⟨hv, hI⟩
    simp only at hv hI ⊢
    refine qs 2 ?_
    refine Ga (Gw HZ HZ HZ (fun c40 => ?_) (fun c40 => ?_))
    ·refine qs 10 ?_
     have hvl : v < lt.length := by omega
     have htv := htm _ (List.getElem_mem hvl)
     refine Ga (Gd HZ HZ HZ HZ (enc := eTm) (lst := lt) (show fTm lt a37 k37 c37 ∈ _ from memA) hvl (fun _ _ => ?_))
     refine Ga (GN HZ HZ ?_)
     refine Ga (Gj HZ (fun b14 => ?_))
     refine qs 7 ?_
     refine Ga (Gr HZ HZ HZ (fun c45 => ?_) (fun c45 => ?_))
     ·refine qs 2 ?_
      rcases Bool.eq_false_or_eq_true is2 with rfl | rfl
      all_goals refine Gc rfl rfl (Gy rfl rfl ?_)
      ·refine qs 9 ?_
       rcases hI with ⟨_, rfl, hn2, hall, hu', hp', rfl, rfl, rfl, rfl, rfl, rfl⟩ | ⟨h, _⟩
       rotate_left
       · cases h
       have hpl := hp'.length_le
       have hst := all_step hvl hall
       refine Ga (Ge HZ HZ (rwithin_c T' N hu' lt[v] htv.1 Jb l (show fL T' _ _ _ ∈ _ from memA) (show fN N _ _ _ ∈ _ from memA) memA (show fTm l a4 k4 c4 ∈ _ from memA) (fun o b6 j6 d6 hy => ?_) (fun e b6 j6 d6 b7 j7 d7 hy => ?_)))
       ·refine qs 8 ?_
        have hok := within_ok hu' htv.1 Jb hy
        exact Gk (v + 1, true, 0, o, b6, j6, d6, b6, j6, d6, _, _, _) ⟨by simp only; omega, .inl ⟨rfl, rfl, hn2, by simp only; rw [hst, hy], hok.1, hp'.trans hok.2, rfl, rfl, rfl, rfl, rfl, rfl⟩⟩ (by simp only; omega) srA (Sub.drop.trans (Gh (mem1 memA (fun x hx => by repeat (first | exact hx | refine List.mem_cons_of_mem _ ?_)))))
       refine qs 8 ?_
       exact Gk (v + 1, false, e, T', _, _, _, b6, j6, d6, b7, j7, d7) ⟨by simp only; omega, .inr ⟨rfl, by simp only; rw [if_pos hn2]; exact all_bad hvl hall hy⟩⟩ (by simp only; omega) srA (Sub.drop.trans subF)
      refine qs 11 ?_
      exact Gk (v + 1, _, e, T', a7, k7, c7, a8, k8, c8, b9, j9, d9) ⟨by simp only; omega, by rcases hI with h | h <;> first | exact .inr h | exact absurd h.2.1 c45 | exact absurd h.1 (by decide)⟩ (by simp only; omega) srA (Sub.drop.trans subF)
     refine qs 14 ?_
     exact Gk (v + 1, _, e, T', a7, k7, c7, a8, k8, c8, b9, j9, d9) ⟨by simp only; omega, by rcases hI with h | h <;> first | exact .inr h | exact absurd h.2.1 c45 | exact absurd h.1 (by decide)⟩ (by simp only; omega) srA (Sub.drop.trans subF)
    refine qs 17 ?_
    obtain rfl : v = lt.length := by omega
    rcases hI with ⟨rfl, rfl, hn2, hall, hu', hp', rfl, rfl, rfl, rfl, rfl, rfl⟩ | ⟨rfl, hb2⟩
    · rw [List.take_length] at hall
      exact Gn (rs := [.cell 8 _]) (L' := L) (F' := fL T' _ _ _ :: F) Tryz.results88 (.agg (j := 3) rfl rfl rfl .nil) (by repeat (first | exact Gh (mem1 memA (fun x hx => by repeat (first | exact hx | refine List.mem_cons_of_mem _ ?_))) | refine GI Gv ?_)) (hT T' _ _ _ (by rw [hal, if_pos hn2]; exact hall))
    exact Gn (rs := [.cell 8 _]) (L' := L) (F' := F) Tryz.results88 (.agg (j := 3) rfl rfl rfl .nil) subA (hN e _ _ _ _ _ _ (by rw [hal]; exact hb2))
   refine qs 1 ?_
   refine Ga (Gj HZ (fun b12 => ?_))
   refine qs 7 ?_
   refine Ga (Ge HZ HZ (rterms14_c b hbw (Nat.le_of_eq hbk) (show fW b a5 k5 c5 ∈ _ from memA) (show fK b a6 k6 c6 ∈ _ from memA) (fun a37 k37 c37 => ?_)))
   refine Ga (Gt HZ HZ (fun hl38 => ?_) (enc := eTm) (lst := trmL b) (hm := memA))
   refine qs 4 ?_
   generalize trmL b = lt at *
   refine GB (fun (y : Nat × Bool × Int × List Ty × Option Addr × Nat × Nat × Option Addr × Nat × Nat × Option Addr × Nat × Nat) => y.1 ≤ lt.length ∧ insI N T b l lt a2 k2 c2 y.1 y.2.1 y.2.2.1 y.2.2.2.1 y.2.2.2.2.1 y.2.2.2.2.2.1 y.2.2.2.2.2.2.1 y.2.2.2.2.2.2.2.1 y.2.2.2.2.2.2.2.2.1 y.2.2.2.2.2.2.2.2.2.1 y.2.2.2.2.2.2.2.2.2.2.1 y.2.2.2.2.2.2.2.2.2.2.2.1 y.2.2.2.2.2.2.2.2.2.2.2.2) (fun y => [(3, .slice a4 k4 c4), (8, .pointer (some ⟨b8, 0, none⟩)), (12, .pointer (some ⟨b12, 0, none⟩)), (37, .slice a37 k37 c37), (38, .int .i64 lt.length), (39, .int .i64 (y.1 : Int))]) (fun y => Res.cells b12 #[.slice y.2.2.2.2.2.2.2.1 y.2.2.2.2.2.2.2.2.1 y.2.2.2.2.2.2.2.2.2.1, .slice y.2.2.2.2.2.2.2.2.2.2.1 y.2.2.2.2.2.2.2.2.2.2.2.1 y.2.2.2.2.2.2.2.2.2.2.2.2, .bool y.2.1, .slice none 0 0, .int .i64 y.2.2.1] 66 :: _) (fun y => fL y.2.2.2.1 y.2.2.2.2.1 y.2.2.2.2.2.1 y.2.2.2.2.2.2.1 :: _) (fun y => lt.length - y.1) (0, false, 0, T, a, k, c, a, k, c, a2, k2, c2) ⟨Nat.zero_le _, .inr ⟨rfl, .inr ⟨rfl, by rw [if_neg (Int.not_le.2 c34)]⟩⟩⟩ srA (Gh (mem1 memA (fun x hx => by repeat (first | exact hx | refine List.mem_cons_of_mem _ ?_)))) ?_
   rintro ⟨v, is2, e, T', a7, k7, c7, a8, k8, c8, b9, j9, d9⟩ ⟨hv, hI⟩
   simp only at hv hI ⊢
   refine qs 2 ?_
   refine Ga (Gw HZ HZ HZ (fun c40 => ?_) (fun c40 => ?_))
   ·refine qs 10 ?_
    have hvl : v < lt.length := by omega
    have htv := htm _ (List.getElem_mem hvl)
    refine Ga (Gd HZ HZ HZ HZ (enc := eTm) (lst := lt) (show fTm lt a37 k37 c37 ∈ _ from memA) hvl (fun _ _ => ?_))
    refine Ga (GN HZ HZ ?_)
    refine Ga (Gj HZ (fun b14 => ?_))
    refine qs 7 ?_
    refine Ga (Gr HZ HZ HZ (fun c45 => ?_) (fun c45 => ?_))
    ·refine qs 2 ?_
     rcases Bool.eq_false_or_eq_true is2 with rfl | rfl
     all_goals refine Gc rfl rfl (Gy rfl rfl ?_)
     ·refine qs 9 ?_
      rcases hI with ⟨_, rfl, hn2, hall, hu', hp', rfl, rfl, rfl, rfl, rfl, rfl⟩ | ⟨h, _⟩
      rotate_left
      · cases h
      have hpl := hp'.length_le
      have hst := all_step hvl hall
      refine Ga (Ge HZ HZ (rwithin_c T' N hu' lt[v] htv.1 Jb l (show fL T' _ _ _ ∈ _ from memA) (show fN N _ _ _ ∈ _ from memA) memA (show fTm l a4 k4 c4 ∈ _ from memA) (fun o b6 j6 d6 hy => ?_) (fun e b6 j6 d6 b7 j7 d7 hy => ?_)))
      ·refine qs 8 ?_
       have hok := within_ok hu' htv.1 Jb hy
       exact Gk (v + 1, true, 0, o, b6, j6, d6, b6, j6, d6, _, _, _) ⟨by simp only; omega, .inl ⟨rfl, rfl, hn2, by simp only; rw [hst, hy], hok.1, hp'.trans hok.2, rfl, rfl, rfl, rfl, rfl, rfl⟩⟩ (by simp only; omega) srA (Sub.drop.trans (Gh (mem1 memA (fun x hx => by repeat (first | exact hx | refine List.mem_cons_of_mem _ ?_)))))
      refine qs 8 ?_
      exact Gk (v + 1, false, e, T', _, _, _, b6, j6, d6, b7, j7, d7) ⟨by simp only; omega, .inr ⟨rfl, by simp only; rw [if_pos hn2]; exact all_bad hvl hall hy⟩⟩ (by simp only; omega) srA (Sub.drop.trans subF)
     refine qs 11 ?_
     exact Gk (v + 1, _, e, T', a7, k7, c7, a8, k8, c8, b9, j9, d9) ⟨by simp only; omega, by rcases hI with h | h <;> first | exact .inr h | exact absurd h.2.1 c45 | exact absurd h.1 (by decide)⟩ (by simp only; omega) srA (Sub.drop.trans subF)
    refine qs 14 ?_
    exact Gk (v + 1, _, e, T', a7, k7, c7, a8, k8, c8, b9, j9, d9) ⟨by simp only; omega, by rcases hI with h | h <;> first | exact .inr h | exact absurd h.2.1 c45 | exact absurd h.1 (by decide)⟩ (by simp only; omega) srA (Sub.drop.trans subF)
   refine qs 17 ?_
   obtain rfl : v = lt.length := by omega
   rcases hI with ⟨rfl, rfl, hn2, hall, hu', hp', rfl, rfl, rfl, rfl, rfl, rfl⟩ | ⟨rfl, hb2⟩
   · rw [List.take_length] at hall
     exact Gn (rs := [.cell 8 _]) (L' := L) (F' := fL T' _ _ _ :: F) Tryz.results88 (.agg (j := 3) rfl rfl rfl .nil) (by repeat (first | exact Gh (mem1 memA (fun x hx => by repeat (first | exact hx | refine List.mem_cons_of_mem _ ?_))) | refine GI Gv ?_)) (hT T' _ _ _ (by rw [hal, if_pos hn2]; exact hall))
   exact Gn (rs := [.cell 8 _]) (L' := L) (F' := F) Tryz.results88 (.agg (j := 3) rfl rfl rfl .nil) subA (hN e _ _ _ _ _ _ (by rw [hal]; exact hb2))
  refine qs 9 ?_
  have h9 : (tyAt T i).kind ≠ 9 := by rw [hie]; exact c23
  refine Ga (Ge HZ HZ (rundT_c T N hu i h0 hi (show fL T a k c ∈ _ from memA) (show fN N a2 k2 c2 ∈ _ from memA) memA (fun e he hud => ?_) (fun T1 q a59 k59 c59 hud => ?_)))
  ·refine Ga (Gj HZ (fun b15 => ?_))
   refine qs 8 ?_
   refine Ga (GG HZ HZ HZ (fun _ => ?_) (fun c62 => absurd c62 he))
   refine qs 13 ?_
   exact Gn (rs := [.cell 8 _]) (L' := L) (F' := F) Tryz.results88 (.agg (j := 2) rfl rfl rfl .nil) subA (hN e _ _ _ _ _ _ (.inl ⟨he, ins_err h9 hud⟩))
  refine Ga (Gj HZ (fun b15 => ?_))
  refine qs 8 ?_
  refine Ga (GG HZ HZ HZ (fun c62 => absurd HZ c62) (fun _ => ?_))
  refine qs 13 ?_
  obtain ⟨u1, u2, u3, u4⟩ := undR_ok hu h0 hi hud
  have hl2 := u2.length_le
  obtain ⟨hqn, hqe⟩ := GS u3 u4
  refine Ga (Gd (k := q.toNat) HZ HZ HZ Jb (enc := eTy) (lst := T1) (show fL T1 a59 k59 c59 ∈ _ from memA) hqn (fun _ _ => ?_))
  refine Ga (Ha HZ HZ (fun _ => ?_))
  refine Ga (Gs HZ HZ ?_)
  intros
  refine Ga (Gr HZ HZ HZ (fun c74 => ?_) (fun c74 => ?_))
  ·refine qs 13 ?_
   exact Gn (rs := [.cell 8 _]) (L' := L) (F' := F) Tryz.results88 (.agg (j := 2) rfl rfl rfl .nil) subA (hN 0 _ _ _ _ _ _ (.inr ⟨rfl, ins_face h9 hud (by rw [hqe]; exact c74)⟩))
  refine qs 12 ?_
  have hone := ins_one (B := B) (l := l) h9 hud (by rw [hqe]; exact c74)
  refine Ga (Ge HZ HZ (rwithin_c T1 N u1 ([61], i) h0 (by simp only; omega) l (show fL T1 a59 k59 c59 ∈ _ from memA) (show fN N a2 k2 c2 ∈ _ from memA) memA (show fTm l a4 k4 c4 ∈ _ from memA) (fun o b6 j6 d6 hy => ?_) (fun e b6 j6 d6 b7 j7 d7 hy => ?_)))
  ·refine qs 4 ?_
   exact Gn (rs := [.cell 8 _]) (L' := L) (F' := fL o b6 j6 d6 :: F) Tryz.results88 (.agg (j := 2) rfl rfl rfl .nil) (by repeat (first | exact Gh (mem1 memA (fun x hx => by repeat (first | exact hx | refine List.mem_cons_of_mem _ ?_))) | refine GI Gv ?_)) (hT o _ _ _ (by rw [hone]; exact hy))
  refine qs 4 ?_
  exact Gn (rs := [.cell 8 _]) (L' := L) (F' := F) Tryz.results88 (.agg (j := 2) rfl rfl rfl .nil) subA (hN e _ _ _ _ _ _ (by rw [hone]; exact hy))
end
end Go.Sy
