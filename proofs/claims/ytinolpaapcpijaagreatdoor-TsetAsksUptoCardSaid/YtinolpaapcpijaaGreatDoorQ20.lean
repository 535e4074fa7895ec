/- Joined of my own texts: TsK, TsL. -/
import Derived.Test.YtinolpaapcpijaaGreatDoorQ19
namespace Go.Sy
open Go Go.Proofs Go.RowKit
theorem isK_iff {T : List Ty} {b : Int} : isK T b 7 ↔ 0 ≤ b ∧ b < T.length ∧ (tyAt T b).kind = 7 := by
  unfold isK
  constructor
  · rintro ⟨h0, h1, h2⟩
    obtain ⟨hn, e⟩ := GS h0 h1
    refine ⟨h0, h1, ?_⟩
    rw [e, ← kind_at hn, show ((b.toNat : Nat) : Int) = b by omega]; exact h2
  rintro ⟨h0, h1, h2⟩
  obtain ⟨hn, e⟩ := GS h0 h1
  refine ⟨h0, h1, ?_⟩
  rw [e, ← kind_at hn, show ((b.toNat : Nat) : Int) = b by omega] at h2; exact h2
attribute [local irreducible] AC AT AO AK AH ACalls Sub Res.cells Res.obj Res.nix Res.own Res.map Exit.then Exit.inBlock bodyPost Code.wp Code.wpIn WL Next Post Kont
section
variable {W0 : World} {L : List Res} {F : List Fact} {R : Value → List Res → List Fact → Prop}
set_option maxRecDepth 100000
set_option maxHeartbeats 16000000
theorem rbounds14_c (T : List Ty) (B : List Int) {a a2 a3 : Option Addr} {k c k2 c2 k3 c3 : Nat} (mL : fL T a k c ∈ F) (mB : fI B a3 k3 c3 ∈ F) (hT : bndP T B → R (.bool true) L F) (hF : ¬ bndP T B → R (.bool false) L F) : ACalls Tryz.prog W0 32 #[.agg #[.slice a k c, .slice a2 k2 c2], .slice a3 k3 c3] L F R := by
  refine Gg Tryz.func32 HZ Tryz.ntmps32 HZ ?_
  refine qs 2 ?_
  refine Ga (GL HZ HZ (fun b2 => ?_))
  refine qs 7 ?_
  refine Ga (Gt HZ HZ (fun hl8 => ?_) (enc := eI) (lst := B) (hm := (show fI B a3 k3 c3 ∈ _ from memA)))
  refine qs 4 ?_
  refine GB (fun (v : Nat) => v ≤ B.length ∧ ∀ b ∈ B.take v, isK T b 7) (fun v => [(1, .slice a3 k3 c3), (2, .pointer (some ⟨b2, 0, none⟩)), (7, .slice a3 k3 c3), (8, .int .i64 B.length), (9, .int .i64 (v : Int))]) (fun _ => _) (fun _ => F) (fun v => B.length - v) 0 ⟨Nat.zero_le _, by simp⟩ srA (Gf _ _) ?_
  rintro v ⟨hv, hno⟩
  refine qs 2 ?_
  refine Ga (Gw HZ HZ HZ (fun c10 => ?_) (fun c10 => ?_))
  ·refine qs 10 ?_
   have hvl : v < B.length := by omega
   refine Ga (Gd HZ HZ HZ HZ (enc := eI) (lst := B) (show fI B a3 k3 c3 ∈ _ from memA) hvl (fun _ _ => ?_))
   refine Ga (Gs HZ HZ ?_)
   intros
   refine qs 7 ?_
   refine Ga (Ge HZ HZ (ris_c T B[v] 7 (show fL T a k c ∈ _ from memA) (fun c15 => ?_) (fun c15 => ?_)))
   ·refine qs 11 ?_
    exact Gk (v + 1) ⟨hvl, fun x hx => by
     rw [List.take_succ_eq_append_getElem hvl] at hx
     rcases List.mem_append.1 hx with hx | hx
     · exact hno x hx
     rw [List.mem_singleton.1 hx]; exact c15⟩ Jb srA subF
   refine qs 15 ?_
   exact Gb (L' := L) (F' := F) Tryz.results32 rfl subA (hF (fun h => c15 (isK_iff.2 (h.2 _ (List.getElem_mem hvl)))))
  refine qs 12 ?_
  refine Ga (Gt HZ HZ (fun hl19 => ?_) (enc := eI) (lst := B) (hm := (show fI B a3 k3 c3 ∈ _ from memA)))
  refine Ga (HG HZ HZ HZ (fun c20 => ?_) (fun c20 => ?_))
  ·refine qs 4 ?_
   obtain rfl : v = B.length := by omega
   rw [List.take_length] at hno
   exact Gb (L' := L) (F' := F) Tryz.results32 rfl subA (hT ⟨by omega, fun b hb => isK_iff.1 (hno b hb)⟩)
  refine qs 4 ?_
  exact Gb (L' := L) (F' := F) Tryz.results32 rfl subA (hF (fun h => by have := h.1; omega))
theorem there14_c (T : List Ty) (i : Int) {a a2 : Option Addr} {k c k2 c2 : Nat} (mL : fL T a k c ∈ F) (hT : 0 ≤ i ∧ i < T.length → R (.bool true) L F) (hF : ¬(0 ≤ i ∧ i < T.length) → R (.bool false) L F) : ACalls Tryz.prog W0 34 #[.agg #[.slice a k c, .slice a2 k2 c2], .int .i64 i] L F R := by
  refine Gg Tryz.func34 HZ Tryz.ntmps34 HZ ?_
  refine qs 2 ?_
  refine Ga (GL HZ HZ (fun b2 => ?_))
  refine qs 6 ?_
  refine Ga (GY HZ HZ HZ (fun c6 => ?_) (fun c6 => ?_))
  ·refine qs 4 ?_
   refine Gc HZ HZ (Gt HZ HZ (fun hl11 => ?_) (enc := eTy) (lst := T) (hm := (show fL T a k c ∈ _ from memA)))
   refine Gc HZ HZ (Gw HZ HZ HZ (fun c12 => ?_) (fun c12 => ?_))
   ·refine qs 5 ?_
    exact Gb (L' := L) (F' := F) Tryz.results34 rfl subA (hT Jb)
   refine qs 5 ?_
   exact Gb (L' := L) (F' := F) Tryz.results34 rfl subA (hF Jb)
  refine qs 11 ?_
  exact Gb (L' := L) (F' := F) Tryz.results34 rfl subA (hF Jb)
theorem tfew14_c (l : List Ty) (N : List Nmd) {a a2 : Option Addr} {k c k2 c2 : Nat} (m1 : fL l a k c ∈ F) (m2 : fN N a2 k2 c2 ∈ F) (h : ∀ a k c a2 k2 c2, R (.agg #[.slice a k c, .slice a2 k2 c2]) L (fL (fewS l 70) a k c :: fN (fewN N 20) a2 k2 c2 :: F)) : ACalls Tryz.prog W0 29 #[.agg #[.slice a k c, .slice a2 k2 c2]] L F R := by
  refine Gg Tryz.func29 HZ Tryz.ntmps29 HZ ?_
  refine qs 2 ?_
  refine Ga (GL HZ HZ (fun b1 => (Ga (Gj HZ (fun b2 => ?_)))))
  refine qs 5 ?_
  refine Ga (Gj HZ (fun b3 => ?_))
  refine qs 10 ?_
  refine Ga (Gt HZ HZ (fun hl13 => ?_) (enc := eTy) (lst := l) (hm := memA))
  refine Ga (AO.min HZ HZ HZ ?_)
  refine Ga (AO.sliceH (j' := min l.length 70) HZ HZ HZ Jb (enc := eTy) (lst := l) memA Jb (fun a15 k15 c15 => ?_))
  refine Ga (Gt HZ HZ (fun hl16 => ?_) (enc := eTy) (lst := l.take (min l.length 70)) (hm := memA))
  refine qs 4 ?_
  have hfew : fewS l 70 = (l.take (min l.length 70)).map oneS := rfl
  have hwl : (l.take (min l.length 70)).length ≤ 70 := by simp only [List.length_take]; omega
  generalize l.take (min l.length 70) = l' at hwl hfew ⊢
  refine GB (fun (i : Nat × Option Addr × Nat × Nat) => i.1 ≤ l'.length) (fun i => [(1, .pointer (some ⟨b1, 0, none⟩)), (2, .pointer (some ⟨b2, 0, none⟩)), (3, .pointer (some ⟨b3, 0, none⟩)), (15, .slice a15 k15 c15), (16, .int .i64 l'.length), (17, .int .i64 (i.1 : Int))]) (fun i => Res.own (.slice i.2.1 i.2.2.1 i.2.2.2) 29 5 (((l'.take i.1).map oneS).map eTy) :: Res.cells b3 #[.slice i.2.1 i.2.2.1 i.2.2.2, .slice none 0 0] _ :: _) (fun _ => fL l' a15 k15 c15 :: F) (fun i => l'.length - i.1) (0, none, 0, 0) (by simp) srA GZ ?_
  rintro ⟨q, a3, k3, c3⟩ hq
  simp only at hq ⊢
  refine qs 2 ?_
  refine Ga (Gw HZ HZ HZ (fun c18 => ?_) (fun c18 => ?_))
  ·refine qs 10 ?_
   have hql : q < l'.length := by omega
   refine Ga (Gd HZ HZ HZ HZ (enc := eTy) (lst := l') memA hql (fun _ _ => ?_))
   refine Ga (GN HZ HZ ?_)
   intro a18 k18 z18 d18 e18 f18
   refine Ga (Gj HZ (fun b5 => ?_))
   refine qs 4 ?_
   refine GP (fun i => Nat.beq i 22 || Nat.beq i 24 || Nat.beq i 26) [(b5, _, _)] bxA HZ (fun hx hX => ?_)
   have hk1 := (Gu (hX (fW l'[q] a18 k18 z18) memA)).1
   have hk2 := (Gu (hX (fK l'[q] d18 e18 f18) memA)).1
   have hc1 := (Gu (hX (fW l'[q] a18 k18 z18) memA)).2
   have hc2 := (Gu (hX (fK l'[q] d18 e18 f18) memA)).2
   subst hk1 hk2
   refine AH.weak (Sub.part (enc := eS) (lst := l'[q].words) 0 (min l'[q].words.length 18) z18 (show fW l'[q] _ _ z18 ∈ _ from memA) Jb Jb Jb Jb) ?_
   refine AH.weak (Sub.part (enc := eI) (lst := l'[q].kids) 0 (min l'[q].kids.length 18) f18 (show fK l'[q] _ _ f18 ∈ _ from memA) Jb Jb Jb Jb) ?_
   refine qt [0, 1, 2, 3, 4, 5] ?_
   refine GD (i := 6) HZ (Y.sliceSH (j' := min l'[q].name.length 50) HZ HZ Jb Jb) Ja HZ HZ ?_
   refine qt [7, 8, 9, 10, 11, 12] ?_
   refine GD (i := 13) HZ (Y.sliceH (j' := min l'[q].words.length 18) HZ HZ Jb Jb) Ja HZ HZ ?_
   refine qt [14, 15, 16, 17, 18, 19] ?_
   refine GD (i := 20) HZ (Y.sliceH (j' := min l'[q].kids.length 18) HZ HZ Jb Jb) Ja HZ HZ ?_
   refine qt [21] ?_
   refine Gm (i := 22) Ja HZ HZ (fun _ => ?_)
   refine GM HZ HZ HZ ?_
   refine GC HZ ?_
   refine qt [23] ?_
   refine Gm (i := 24) Ja HZ HZ (fun _ => ?_)
   refine GM HZ HZ HZ ?_
   refine GC HZ ?_
   refine qt [25] ?_
   refine Gm (i := 26) Ja HZ HZ (fun _ => ?_)
   refine GM HZ HZ HZ ?_
   refine GC HZ ?_
   refine Gq Ja ?_
   refine qs 5 ?_
   refine Ga (Gl HZ HZ HZ HZ HZ (fun b48 => ?_))
   have htl : ((l'.take q).map oneS).length = q := by rw [List.length_map, List.length_take]; omega
   refine Ga (GJ (i := 1) (enc := eTy) (lst := (l'.take q).map oneS) [oneS l'[q]] HZ HZ HZ HZ (.val (.val (.val (.slc (.slc .nil memA) memA)))) HZ HZ (fun _ => rfl) (by rw [htl]; simp only [maxLen]; omega) (by rw [htl]; omega) (fun a49 k49 c49 => ?_))
   rw [fewS_step hql]
   refine qs 9 ?_
   refine Gk (q + 1, a49, k49, c49) (by simp only; omega) (by simp only; omega) srA (Sub.drop.trans subF)
  refine qs 13 ?_
  have hall : l'.take q = l' := List.take_of_length_le Jb
  rw [hall]
  refine GH ((Gz (i := 0) HZ).trans Gv) ?_
  refine Ga (Gy HZ HZ ?_)
  refine qs 2 ?_
  refine Ga (Gt HZ HZ (fun hl56 => ?_) (enc := eNm) (lst := N) (hm := memA))
  refine Ga (AO.min HZ HZ HZ ?_)
  refine Ga (AO.sliceH (j' := min N.length 20) HZ HZ HZ Jb (enc := eNm) (lst := N) memA Jb (fun a58 k58 c58 => ?_))
  refine Ga (Gt HZ HZ (fun hl59 => ?_) (enc := eNm) (lst := N.take (min N.length 20)) (hm := memA))
  refine qs 4 ?_
  have hfewN : fewN N 20 = (N.take (min N.length 20)).map oneN := rfl
  have hwN : (N.take (min N.length 20)).length ≤ 20 := by simp only [List.length_take]; omega
  generalize N.take (min N.length 20) = N' at hwN hfewN ⊢
  refine GB (fun (i : Nat × Option Addr × Nat × Nat) => i.1 ≤ N'.length) (fun i => [(2, .pointer (some ⟨b2, 0, none⟩)), (3, .pointer (some ⟨b3, 0, none⟩)), (58, .slice a58 k58 c58), (59, .int .i64 N'.length), (60, .int .i64 (i.1 : Int))]) (fun i => Res.own (.slice i.2.1 i.2.2.1 i.2.2.2) 78 4 (((N'.take i.1).map oneN).map eNm) :: Res.cells b3 #[.slice a3 k3 c3, .slice i.2.1 i.2.2.1 i.2.2.2] _ :: _) (fun _ => fN N' a58 k58 c58 :: fL (l'.map oneS) a3 k3 c3 :: F) (fun i => N'.length - i.1) (0, none, 0, 0) (by simp) srA (Sub.ownNil.trans (Gh (mem2 memA memA (fun x hx => by repeat (first | exact hx | refine List.mem_cons_of_mem _ ?_))))) ?_
  rintro ⟨w, a4, k4, c4⟩ hw
  simp only at hw ⊢
  refine qs 2 ?_
  refine Ga (Gw HZ HZ HZ (fun c61 => ?_) (fun c61 => ?_))
  ·refine qs 10 ?_
   have hwl' : w < N'.length := by omega
   refine Ga (Gd HZ HZ HZ HZ (enc := eNm) (lst := N') memA hwl' (fun _ _ => ?_))
   refine Ga (GN HZ HZ ?_)
   intro a63 k63 z63 d63 e63 f63
   refine Ga (Gj HZ (fun b7 => ?_))
   refine qs 4 ?_
   refine GP (fun i => Nat.beq i 22 || Nat.beq i 24 || Nat.beq i 26) [(b7, _, _)] bxA HZ (fun hx hX => ?_)
   have hk1 := (Gu (hX (fBd N'[w] a63 k63 z63) memA)).1
   have hk2 := (Gu (hX (fMs N'[w].methods d63 e63 f63) memA)).1
   have hc1 := (Gu (hX (fBd N'[w] a63 k63 z63) memA)).2
   have hc2 := (Gu (hX (fMs N'[w].methods d63 e63 f63) memA)).2
   subst hk1 hk2
   refine AH.weak (Sub.part (enc := eI) (lst := N'[w].bounds) 0 (min N'[w].bounds.length 18) z63 (show fBd N'[w] _ _ z63 ∈ _ from memA) Jb Jb Jb Jb) ?_
   refine AH.weak (Sub.part (enc := eMt) (lst := N'[w].methods) 0 (min N'[w].methods.length 18) f63 (show fMs N'[w].methods _ _ f63 ∈ _ from memA) Jb Jb Jb Jb) ?_
   refine qt [0, 1, 2, 3, 4, 5] ?_
   refine GD (i := 6) HZ (Y.sliceSH (j' := min N'[w].name.length 50) HZ HZ Jb Jb) Ja HZ HZ ?_
   refine qt [7, 8, 9, 10, 11, 12] ?_
   refine GD (i := 13) HZ (Y.sliceH (j' := min N'[w].bounds.length 18) HZ HZ Jb Jb) Ja HZ HZ ?_
   refine qt [14, 15, 16, 17, 18, 19] ?_
   refine GD (i := 20) HZ (Y.sliceH (j' := min N'[w].methods.length 18) HZ HZ Jb Jb) Ja HZ HZ ?_
   refine qt [21] ?_
   refine Gm (i := 22) Ja HZ HZ (fun _ => ?_)
   refine GM HZ HZ HZ ?_
   refine GC HZ ?_
   refine qt [23] ?_
   refine Gm (i := 24) Ja HZ HZ (fun _ => ?_)
   refine GM HZ HZ HZ ?_
   refine GC HZ ?_
   refine qt [25] ?_
   refine Gm (i := 26) Ja HZ HZ (fun _ => ?_)
   refine GM HZ HZ HZ ?_
   refine GC HZ ?_
   refine Gq Ja ?_
   refine qs 5 ?_
   refine Ga (Gl HZ HZ HZ HZ HZ (fun b91 => ?_))
   have htl : ((N'.take w).map oneN).length = w := by rw [List.length_map, List.length_take]; omega
   refine Ga (GJ (i := 1) (enc := eNm) (lst := (N'.take w).map oneN) [oneN N'[w]] HZ HZ HZ HZ (.val (.slc (.val (.slc .nil memA)) memA)) HZ HZ (fun _ => rfl) (by rw [htl]; simp only [maxLen]; omega) (by rw [htl]; omega) (fun a92 k92 c92 => ?_))
   rw [fewN_step hwl']
   refine qs 9 ?_
   refine Gk (w + 1, a92, k92, c92) (by simp only; omega) (by simp only; omega) srA (Sub.drop.trans subF)
  refine qs 11 ?_
  have hallN : N'.take w = N' := List.take_of_length_le Jb
  rw [hallN]
  refine GH ((Gz (i := 0) HZ).trans Gv) ?_
  refine Ga (HD HZ HZ ?_)
  refine qs 4 ?_
  rw [hfew, hfewN] at h
  exact Gn (rs := [.cell 2 _]) (L' := L) (F' := fL (l'.map oneS) a3 k3 c3 :: fN (N'.map oneN) a4 k4 c4 :: F) Tryz.results29 (.agg (j := 1) rfl rfl rfl .nil) (Sub.drop.trans (Sub.drop.trans (Sub.drop.trans (Gh (mem2 memA memA (fun x hx => by repeat (first | exact hx | refine List.mem_cons_of_mem _ ?_))))))) (h _ _ _ _ _ _)
theorem talive14_c (g : Glob W0) (h : R (.bool true) L F) : ACalls Tryz.prog W0 33 #[] L F R := by
  refine Hm ((Hr (sz := 3)).trans ((Hr (sz := 1)).trans ((Hr (sz := 5)).trans (Hr (sz := 4))))) ?_
  refine Gg Tryz.func33 HZ Tryz.ntmps33 HZ ?_
  refine qs 7 ?_
  refine Ga (Ge HZ HZ (rstartO_c (fun a7 k7 c7 => ?_)))
  refine Ga (GO HZ HZ HZ ?_)
  refine Ga (Gl HZ HZ HZ HZ HZ (fun b9 => ?_))
  refine GH (GI (Hg (i := 0) (enc := eS) (sz := 1) [[126]] HZ (.val .nil) (fun _ => rfl) HZ (by decide)) Gv) ?_
  refine Ga (Gl HZ HZ HZ HZ HZ (fun b10 => ?_))
  refine GH (GI (Hg (i := 0) (enc := eI) (sz := 1) [2] HZ (.val .nil) (fun _ => rfl) HZ (by decide)) Gv) ?_
  refine Ga (GO HZ HZ HZ ?_)
  refine Ga (Gl HZ HZ HZ HZ HZ (fun b12 => ?_))
  refine GH (GI (Hg (i := 0) (enc := eS) (sz := 1) [[61]] HZ (.val .nil) (fun _ => rfl) HZ (by decide)) Gv) ?_
  refine Ga (Gl HZ HZ HZ HZ HZ (fun b13 => ?_))
  refine GH (GI (Hg (i := 0) (enc := eI) (sz := 1) [2] HZ (.val .nil) (fun _ => rfl) HZ (by decide)) Gv) ?_
  refine Ga (GO HZ HZ HZ ?_)
  refine Ga (Gl HZ HZ HZ HZ HZ (fun b15 => ?_))
  refine Ga (GJ (i := 0) (enc := eTy) (lst := startL) [nmT0, tLo, tEq] HZ HZ HZ HZ (.val (.val (.val (.slc (.slc (.val (.val (.val (.slc (.slc (.val (.val (.val (.slc (.slc .nil memA) memA)))) memA) memA)))) memA) memA)))) HZ HZ (fun _ => rfl) (by decide) (by decide) (fun a16 k16 c16 => ?_))
  refine GH ((Gz (i := 0) HZ).trans Gv) ?_
  refine qs 6 ?_
  refine Ga (GO HZ HZ HZ ?_)
  refine Ga (Gl HZ HZ HZ HZ HZ (fun b19 => ?_))
  refine GH (GI (Hg (i := 0) (enc := eNm) (sz := 4) [nmD] HZ (.val (.slc (.val (.slc .nil memA)) memA)) (fun _ => rfl) HZ (by decide)) Gv) ?_
  refine Ga (GO HZ HZ HZ (Ga (Gj HZ (fun b2 => ?_))))
  refine qs 6 ?_
  refine Ga (Ge HZ HZ (tHas_c g aliveT [nmD] (Hj aliveT_right) nmD_ok [] 22 23 (show fL aliveT _ _ _ ∈ _ from memA) (show fN [nmD] _ _ _ ∈ _ from memA) (show fI [] none 0 0 ∈ _ from memA) memA memA memA memA (fun is e hs => ?_)))
  obtain ⟨rfl, rfl⟩ := alive_yes hs
  refine qs 10 ?_
  refine Ga (Ge HZ HZ (tHas_c g aliveT [nmD] (Hj aliveT_right) nmD_ok [] 22 24 (show fL aliveT _ _ _ ∈ _ from memA) (show fN [nmD] _ _ _ ∈ _ from memA) (show fI [] none 0 0 ∈ _ from memA) memA memA memA memA (fun is e hs => ?_)))
  obtain ⟨rfl, rfl⟩ := alive_no hs
  refine qs 10 ?_
  refine Ga (Gr HZ HZ HZ (fun _ => ?_) (fun c32 => absurd HZ c32))
  refine qs 2 ?_
  refine Gc HZ HZ (Gr HZ HZ HZ (fun _ => ?_) (fun c35 => absurd HZ c35))
  refine qs 2 ?_
  refine Gc HZ HZ (HV HZ HZ ?_)
  refine qs 3 ?_
  refine Gc HZ HZ (AO.not HZ HZ ?_)
  refine qs 5 ?_
  exact Gb (L' := L) (F' := F) Tryz.results33 rfl subA h
theorem rhas14_c (T : List Ty) (N : List Nmd) (hu : rightU T N) (B : List Int) (hB : bndP T B) (i : Int) (hi : 0 ≤ i ∧ i < T.length) (cc : Int) (hc : 0 ≤ cc ∧ cc < T.length) (h7 : (tyAt T cc).kind = 7) {a a2 a3 : Option Addr} {k c k2 c2 k3 c3 : Nat} (mL : fL T a k c ∈ F) (mN : fN N a2 k2 c2 ∈ F) (mB : fI B a3 k3 c3 ∈ F) (mE : Fact.slc (.slice none 0 0) 5 [] ∈ F) (m4 : Fact.slc (.slice none 0 0) 4 [] ∈ F) (m1 : Fact.slc (.slice none 0 0) 1 [] ∈ F)
    (hT : ∀ a k c b j d a5 k5 c5, isR N B T i cc = .ok true → R (vA a k c b j d true a5 k5 c5 0) L F)
    (hN : ∀ e a k c b j d a5 k5 c5, badM (isR N B T i cc) e → R (vA a k c b j d false a5 k5 c5 e) L F) :
    ACalls Tryz.prog W0 36 #[.agg #[.slice a k c, .slice a2 k2 c2], .slice a3 k3 c3, .int .i64 i, .int .i64 cc] L F R := by
  obtain ⟨hcn, hce⟩ := GS hc.1 hc.2
  have hif := iface_n hu.1 hc.1 hc.2 h7
  rw [hce] at hif
  have hokc := Hj hu.1 _ (List.getElem_mem hcn)
  refine Gg Tryz.func36 HZ Tryz.ntmps36 HZ ?_
  refine qs 2 ?_
  refine Ga (GL HZ HZ (fun b4 => (Ga (Gj HZ (fun b8 => ?_)))))
  refine qs 7 ?_
  refine Ga (Gd (k := cc.toNat) HZ HZ HZ Jb (enc := eTy) (lst := T) (show fL T a k c ∈ _ from memA) hcn (fun _ _ => ?_))
  refine Ga (GN HZ HZ ?_)
  intro a18 k18 z18 d18 e18 f18
  refine Ga (Gj HZ (fun b9 => ?_))
  refine qs 8 ?_
  refine Ga (Gt HZ HZ (fun hl21 => ?_) (enc := eS) (lst := T[cc.toNat].words) (hm := memA))
  refine qs 4 ?_
  refine GB (fun (v : Nat) => v ≤ T[cc.toNat].words.length ∧ wordsR N B T i T[cc.toNat] v = .ok true) (fun v => [(1, .slice a3 k3 c3), (2, .int .i64 i), (4, .pointer (some ⟨b4, 0, none⟩)), (8, .pointer (some ⟨b8, 0, none⟩)), (9, .pointer (some ⟨b9, 0, none⟩)), (20, .slice a18 k18 z18), (21, .int .i64 T[cc.toNat].words.length), (22, .int .i64 (v : Int))]) (fun _ => _) (fun _ => _) (fun v => T[cc.toNat].words.length - v) 0 ⟨Nat.zero_le _, rfl⟩ srA (Gf _ _) ?_
  rintro v ⟨hv, hw⟩
  refine qs 2 ?_
  refine Ga (Gw HZ HZ HZ (fun c23 => ?_) (fun c23 => ?_))
  ·refine qs 11 ?_
   have hvl : v < T[cc.toNat].words.length := by omega
   have hvk : v < T[cc.toNat].kids.length := by omega
   have hstep := words_step hvl hvk hw
   have hwd := hokc.word _ (List.getElem_mem hvl)
   refine Ga (Gd HZ HZ HZ HZ (enc := eS) (lst := T[cc.toNat].words) (show fW T[cc.toNat] a18 k18 z18 ∈ _ from memA) hvl (fun _ _ => ?_))
   refine Ga (Gs HZ HZ ?_)
   intros
   refine qs 7 ?_
   refine Ga (Ge HZ HZ (rname_c T[cc.toNat].words[v] Jb (fun c28 => ?_) (fun c28 => ?_)))
   ·refine qs 4 ?_
    refine GP (fun _ => false) [(b4, _, _), (b9, _, _)] bxA HZ (fun hx hX => ?_)
    rw [if_pos c28] at hstep
    have hkk := (Gu (hX (fK T[cc.toNat] d18 e18 f18) memA)).1
    obtain ⟨p1, o1, e1, at1⟩ := GA (hX (fK T[cc.toNat] d18 e18 f18) memA) hvk
    subst e1
    obtain ⟨v1, h10, hc1⟩ := at1 0 _ rfl
    cases hc1
    refine qt [0, 1, 2, 3, 4, 5, 6] ?_
    refine GD (i := 7) HZ (GE (k := v) HZ HZ HZ Jb) Ja HZ HZ ?_
    refine GR (i := 8) HZ (Ho HZ h10) Ja Ja HZ HZ HZ ?_
    refine HE (i := 9) (j := 10) Ja HZ HZ HZ HZ (fun _ => ?_) (fun _ => ?_)
    ·refine Ge HZ HZ (rmethod_c T N hu B hB i hi T[cc.toNat].words[v] c28 T[cc.toNat].kids[v] (show fL T a k c ∈ _ from memA) (show fN N a2 k2 c2 ∈ _ from memA) (show fI B a3 k3 c3 ∈ _ from memA) memA memA memA (fun b6 j6 d6 b7 j7 d7 hy => ?_) (fun e b6 j6 d6 b7 j7 d7 hy => ?_))
     all_goals refine Gi bxA memB ?_
     ·refine Gm (i := 10) Ja HZ HZ (fun _ => ?_)
      refine Gj HZ (fun b12 => ?_)
      refine Gi bxA memB ?_
      refine Gm (i := 11) Ja HZ HZ (fun _ => ?_)
      refine Gx HZ HZ HZ HZ ?_
      refine Gi bxA memB ?_
      refine Gq Ja ?_
      refine qs 5 ?_
      refine Ga (GG HZ HZ HZ (fun c41 => absurd HZ c41) (fun _ => ?_))
      refine qs 2 ?_
      refine Gc HZ HZ (Gy HZ HZ ?_)
      refine qs 12 ?_
      exact Gk (v + 1) ⟨hvl, by rw [hstep, hy]⟩ Jb srA (Sub.drop.trans subF)
     refine Gm (i := 10) Ja HZ HZ (fun _ => ?_)
     refine Gj HZ (fun b12 => ?_)
     refine Gi bxA memB ?_
     refine Gm (i := 11) Ja HZ HZ (fun _ => ?_)
     refine Gx HZ HZ HZ HZ ?_
     refine Gi bxA memB ?_
     refine Gq Ja ?_
     refine qs 5 ?_
     refine Ga (GG HZ HZ HZ (fun c41 => ?_) (fun c41 => ?_))
     ·refine qs 20 ?_
      exact Gn (rs := [.cell 8 _]) (L' := L) (F' := F) Tryz.results36 (.agg (j := 2) rfl rfl rfl .nil) subA (hN e _ _ _ _ _ _ _ _ _ (is_bad (words_stop (by rw [hce, hstep]; exact hy) _ (by rw [hce]; exact hvl))))
     refine qs 2 ?_
     refine Gc HZ HZ (Gy HZ HZ ?_)
     refine qs 17 ?_
     exact Gn (rs := [.cell 8 _]) (L' := L) (F' := F) Tryz.results36 (.agg (j := 2) rfl rfl rfl .nil) subA (hN e _ _ _ _ _ _ _ _ _ (is_bad (words_stop (by rw [hce, hstep]; exact hy) _ (by rw [hce]; exact hvl))))
    refine Gj HZ (fun b12 => ?_)
    refine Gi bxA memB ?_
    refine Gm (i := 9) Ja HZ HZ (fun _ => ?_)
    refine Ge HZ HZ (rmethod_c T N hu B hB i hi T[cc.toNat].words[v] c28 T[cc.toNat].kids[v] (show fL T a k c ∈ _ from memA) (show fN N a2 k2 c2 ∈ _ from memA) (show fI B a3 k3 c3 ∈ _ from memA) memA memA memA (fun b6 j6 d6 b7 j7 d7 hy => ?_) (fun e b6 j6 d6 b7 j7 d7 hy => ?_))
    all_goals refine Gi bxA memB ?_
    ·refine Gm (i := 11) Ja HZ HZ (fun _ => ?_)
     refine Gx HZ HZ HZ HZ ?_
     refine Gi bxA memB ?_
     refine Gq Ja ?_
     refine qs 5 ?_
     refine Ga (GG HZ HZ HZ (fun c41 => absurd HZ c41) (fun _ => ?_))
     refine qs 2 ?_
     refine Gc HZ HZ (Gy HZ HZ ?_)
     refine qs 12 ?_
     exact Gk (v + 1) ⟨hvl, by rw [hstep, hy]⟩ Jb srA (Sub.drop.trans subF)
    refine Gm (i := 11) Ja HZ HZ (fun _ => ?_)
    refine Gx HZ HZ HZ HZ ?_
    refine Gi bxA memB ?_
    refine Gq Ja ?_
    refine qs 5 ?_
    refine Ga (GG HZ HZ HZ (fun c41 => ?_) (fun c41 => ?_))
    ·refine qs 20 ?_
     exact Gn (rs := [.cell 8 _]) (L' := L) (F' := F) Tryz.results36 (.agg (j := 2) rfl rfl rfl .nil) subA (hN e _ _ _ _ _ _ _ _ _ (is_bad (words_stop (by rw [hce, hstep]; exact hy) _ (by rw [hce]; exact hvl))))
    refine qs 2 ?_
    refine Gc HZ HZ (Gy HZ HZ ?_)
    refine qs 17 ?_
    exact Gn (rs := [.cell 8 _]) (L' := L) (F' := F) Tryz.results36 (.agg (j := 2) rfl rfl rfl .nil) subA (hN e _ _ _ _ _ _ _ _ _ (is_bad (words_stop (by rw [hce, hstep]; exact hy) _ (by rw [hce]; exact hvl))))
   refine qs 10 ?_
   rw [if_neg (by rw [c28]; decide)] at hstep
   exact Gk (v + 1) ⟨hvl, hstep⟩ Jb srA subF
  refine qs 14 ?_
  obtain rfl : v = T[cc.toNat].words.length := by omega
  have hwl := trmN_len T[cc.toNat] T[cc.toNat].words.length
  have hww := hokc.words
  rw [← hce] at hw
  refine Ga (GY HZ HZ HZ (fun c51 => ?_) (fun c51 => ?_))
  ·refine qs 4 ?_
   refine GP (fun _ => false) [(b4, _, _), (b9, _, _)] bxA HZ (fun hx hX => ?_)
   refine qt [0, 1, 2, 3] ?_
   refine HE (i := 4) (j := 6) Ja HZ HZ HZ HZ (fun _ => ?_) (fun _ => ?_)
   ·refine Ge HZ HZ (rterms14_c T[cc.toNat] hokc.words (Nat.le_of_eq hif.2.2) (show fW T[cc.toNat] a18 k18 z18 ∈ _ from memA) (show fK T[cc.toNat] d18 e18 f18 ∈ _ from memA) (fun a56 k56 c56 => ?_))
    refine Gi bxA memB ?_
    refine HE (i := 5) (j := 6) Ja HZ HZ HZ HZ (fun _ => ?_) (fun _ => ?_)
    ·refine Ge HZ HZ (rinside_c T N hu B hB i hi.1 hi.2 (trmL T[cc.toNat]) (show fL T a k c ∈ _ from memA) (show fN N a2 k2 c2 ∈ _ from memA) (show fI B a3 k3 c3 ∈ _ from memA) memA memA (show fTm _ a56 k56 c56 ∈ _ from memA) (fun T1 b6 j6 d6 hy => ?_) (fun e b6 j6 d6 b7 j7 d7 hy => ?_))
     all_goals refine Gi bxA memB ?_
     ·refine Gm (i := 6) Ja HZ HZ (fun _ => ?_)
      refine Gj HZ (fun b13 => ?_)
      refine Gi bxA memB ?_
      refine Gm (i := 7) Ja HZ HZ (fun _ => ?_)
      refine Gx HZ HZ HZ HZ ?_
      refine Gi bxA memB ?_
      refine Gq Ja ?_
      refine qs 6 ?_
      refine Ga (GG HZ HZ HZ (fun c60 => absurd HZ c60) (fun _ => ?_))
      refine qs 2 ?_
      refine Gc HZ HZ (Gy HZ HZ ?_)
      refine qs 18 ?_
      refine Ga (AO.rem HZ HZ (by decide) HZ ?_)
      rw [Int.tmod_eq_emod_of_nonneg hif.1]
      refine Ga (Gr HZ HZ HZ (fun c72 => ?_) (fun c72 => ?_))
      ·refine qs 8 ?_
       have hi1 := inside_ok hu hB hi.1 hi.2 (by rw [hce] at *; exact hy)
       have hl1 := hi1.2.length_le
       refine Ga (Ge HZ HZ (rcompares_c N B 400 0 (Nat.le_refl _) T1 (T1, []) i (cmpI0 hi1.1) (hB.up hi1.2) hi.1 (by simp only; omega) (show fL T1 b6 j6 d6 ∈ _ from memA) (show fN N a2 k2 c2 ∈ _ from memA) (show fI B a3 k3 c3 ∈ _ from memA) memA (show fI [] none 0 0 ∈ _ from memA) (fun s' b7 j7 d7 b8 j8 d8 hy2 => ?_) (fun e b7 j7 d7 b8 j8 d8 b9 j9 d9 hy2 => ?_)))
       ·refine qs 5 ?_
        exact Gn (rs := [.cell 8 _]) (L' := L) (F' := F) Tryz.results36 (.agg (j := 2) rfl rfl rfl .nil) subA (hT _ _ _ _ _ _ _ _ _ ((is_odd (e := 0) hw (by rw [hce, if_pos c51]; exact hy) (by rw [hce]; omega) (by rw [hce]; exact hif.1)).1 _ hy2))
       refine qs 5 ?_
       exact Gn (rs := [.cell 8 _]) (L' := L) (F' := F) Tryz.results36 (.agg (j := 2) rfl rfl rfl .nil) subA (hN e _ _ _ _ _ _ _ _ _ ((is_odd hw (by rw [hce, if_pos c51]; exact hy) (by rw [hce]; omega) (by rw [hce]; exact hif.1)).2 hy2))
      refine qs 13 ?_
      exact Gn (rs := [.cell 8 _]) (L' := L) (F' := F) Tryz.results36 (.agg (j := 2) rfl rfl rfl .nil) subA (hT _ _ _ _ _ _ _ _ _ (is_even hw (by rw [hce, if_pos c51]; exact hy) (by rw [hce]; omega)))
     refine Gm (i := 6) Ja HZ HZ (fun _ => ?_)
     refine Gj HZ (fun b13 => ?_)
     refine Gi bxA memB ?_
     refine Gm (i := 7) Ja HZ HZ (fun _ => ?_)
     refine Gx HZ HZ HZ HZ ?_
     refine Gi bxA memB ?_
     refine Gq Ja ?_
     refine qs 6 ?_
     refine Ga (GG HZ HZ HZ (fun c60 => ?_) (fun c60 => ?_))
     ·refine qs 17 ?_
      exact Gn (rs := [.cell 8 _]) (L' := L) (F' := F) Tryz.results36 (.agg (j := 2) rfl rfl rfl .nil) subA (hN e _ _ _ _ _ _ _ _ _ (is_out hw (by rw [hce]; exact c51) (by rw [hce]; exact hy)))
     refine qs 2 ?_
     refine Gc HZ HZ (Gy HZ HZ ?_)
     refine qs 14 ?_
     exact Gn (rs := [.cell 8 _]) (L' := L) (F' := F) Tryz.results36 (.agg (j := 2) rfl rfl rfl .nil) subA (hN e _ _ _ _ _ _ _ _ _ (is_out hw (by rw [hce]; exact c51) (by rw [hce]; exact hy)))
    refine Gj HZ (fun b13 => ?_)
    refine Gi bxA memB ?_
    refine Gm (i := 5) Ja HZ HZ (fun _ => ?_)
    refine Ge HZ HZ (rinside_c T N hu B hB i hi.1 hi.2 (trmL T[cc.toNat]) (show fL T a k c ∈ _ from memA) (show fN N a2 k2 c2 ∈ _ from memA) (show fI B a3 k3 c3 ∈ _ from memA) memA memA (show fTm _ a56 k56 c56 ∈ _ from memA) (fun T1 b6 j6 d6 hy => ?_) (fun e b6 j6 d6 b7 j7 d7 hy => ?_))
    all_goals refine Gi bxA memB ?_
    ·refine Gm (i := 7) Ja HZ HZ (fun _ => ?_)
     refine Gx HZ HZ HZ HZ ?_
     refine Gi bxA memB ?_
     refine Gq Ja ?_
     refine qs 6 ?_
     refine Ga (GG HZ HZ HZ (fun c60 => absurd HZ c60) (fun _ => ?_))
     refine qs 2 ?_
     refine Gc HZ HZ (Gy HZ HZ ?_)
     refine qs 18 ?_
     refine Ga (AO.rem HZ HZ (by decide) HZ ?_)
     rw [Int.tmod_eq_emod_of_nonneg hif.1]
     refine Ga (Gr HZ HZ HZ (fun c72 => ?_) (fun c72 => ?_))
     ·refine qs 8 ?_
      have hi1 := inside_ok hu hB hi.1 hi.2 (by rw [hce] at *; exact hy)
      have hl1 := hi1.2.length_le
      refine Ga (Ge HZ HZ (rcompares_c N B 400 0 (Nat.le_refl _) T1 (T1, []) i (cmpI0 hi1.1) (hB.up hi1.2) hi.1 (by simp only; omega) (show fL T1 b6 j6 d6 ∈ _ from memA) (show fN N a2 k2 c2 ∈ _ from memA) (show fI B a3 k3 c3 ∈ _ from memA) memA (show fI [] none 0 0 ∈ _ from memA) (fun s' b7 j7 d7 b8 j8 d8 hy2 => ?_) (fun e b7 j7 d7 b8 j8 d8 b9 j9 d9 hy2 => ?_)))
      ·refine qs 5 ?_
       exact Gn (rs := [.cell 8 _]) (L' := L) (F' := F) Tryz.results36 (.agg (j := 2) rfl rfl rfl .nil) subA (hT _ _ _ _ _ _ _ _ _ ((is_odd (e := 0) hw (by rw [hce, if_pos c51]; exact hy) (by rw [hce]; omega) (by rw [hce]; exact hif.1)).1 _ hy2))
      refine qs 5 ?_
      exact Gn (rs := [.cell 8 _]) (L' := L) (F' := F) Tryz.results36 (.agg (j := 2) rfl rfl rfl .nil) subA (hN e _ _ _ _ _ _ _ _ _ ((is_odd hw (by rw [hce, if_pos c51]; exact hy) (by rw [hce]; omega) (by rw [hce]; exact hif.1)).2 hy2))
     refine qs 13 ?_
     exact Gn (rs := [.cell 8 _]) (L' := L) (F' := F) Tryz.results36 (.agg (j := 2) rfl rfl rfl .nil) subA (hT _ _ _ _ _ _ _ _ _ (is_even hw (by rw [hce, if_pos c51]; exact hy) (by rw [hce]; omega)))
    refine Gm (i := 7) Ja HZ HZ (fun _ => ?_)
    refine Gx HZ HZ HZ HZ ?_
    refine Gi bxA memB ?_
    refine Gq Ja ?_
    refine qs 6 ?_
    refine Ga (GG HZ HZ HZ (fun c60 => ?_) (fun c60 => ?_))
    ·refine qs 17 ?_
     exact Gn (rs := [.cell 8 _]) (L' := L) (F' := F) Tryz.results36 (.agg (j := 2) rfl rfl rfl .nil) subA (hN e _ _ _ _ _ _ _ _ _ (is_out hw (by rw [hce]; exact c51) (by rw [hce]; exact hy)))
    refine qs 2 ?_
    refine Gc HZ HZ (Gy HZ HZ ?_)
    refine qs 14 ?_
    exact Gn (rs := [.cell 8 _]) (L' := L) (F' := F) Tryz.results36 (.agg (j := 2) rfl rfl rfl .nil) subA (hN e _ _ _ _ _ _ _ _ _ (is_out hw (by rw [hce]; exact c51) (by rw [hce]; exact hy)))
   refine Gj HZ (fun b13 => ?_)
   refine Gi bxA memB ?_
   refine Gm (i := 4) Ja HZ HZ (fun _ => ?_)
   refine Ge HZ HZ (rterms14_c T[cc.toNat] hokc.words (Nat.le_of_eq hif.2.2) (show fW T[cc.toNat] a18 k18 z18 ∈ _ from memA) (show fK T[cc.toNat] d18 e18 f18 ∈ _ from memA) (fun a56 k56 c56 => ?_))
   refine Gi bxA memB ?_
   refine Gm (i := 5) Ja HZ HZ (fun _ => ?_)
   refine Ge HZ HZ (rinside_c T N hu B hB i hi.1 hi.2 (trmL T[cc.toNat]) (show fL T a k c ∈ _ from memA) (show fN N a2 k2 c2 ∈ _ from memA) (show fI B a3 k3 c3 ∈ _ from memA) memA memA (show fTm _ a56 k56 c56 ∈ _ from memA) (fun T1 b6 j6 d6 hy => ?_) (fun e b6 j6 d6 b7 j7 d7 hy => ?_))
   all_goals refine Gi bxA memB ?_
   ·refine Gm (i := 7) Ja HZ HZ (fun _ => ?_)
    refine Gx HZ HZ HZ HZ ?_
    refine Gi bxA memB ?_
    refine Gq Ja ?_
    refine qs 6 ?_
    refine Ga (GG HZ HZ HZ (fun c60 => absurd HZ c60) (fun _ => ?_))
    refine qs 2 ?_
    refine Gc HZ HZ (Gy HZ HZ ?_)
    refine qs 18 ?_
    refine Ga (AO.rem HZ HZ (by decide) HZ ?_)
    rw [Int.tmod_eq_emod_of_nonneg hif.1]
    refine Ga (Gr HZ HZ HZ (fun c72 => ?_) (fun c72 => ?_))
    ·refine qs 8 ?_
     have hi1 := inside_ok hu hB hi.1 hi.2 (by rw [hce] at *; exact hy)
     have hl1 := hi1.2.length_le
     refine Ga (Ge HZ HZ (rcompares_c N B 400 0 (Nat.le_refl _) T1 (T1, []) i (cmpI0 hi1.1) (hB.up hi1.2) hi.1 (by simp only; omega) (show fL T1 b6 j6 d6 ∈ _ from memA) (show fN N a2 k2 c2 ∈ _ from memA) (show fI B a3 k3 c3 ∈ _ from memA) memA (show fI [] none 0 0 ∈ _ from memA) (fun s' b7 j7 d7 b8 j8 d8 hy2 => ?_) (fun e b7 j7 d7 b8 j8 d8 b9 j9 d9 hy2 => ?_)))
     ·refine qs 5 ?_
      exact Gn (rs := [.cell 8 _]) (L' := L) (F' := F) Tryz.results36 (.agg (j := 2) rfl rfl rfl .nil) subA (hT _ _ _ _ _ _ _ _ _ ((is_odd (e := 0) hw (by rw [hce, if_pos c51]; exact hy) (by rw [hce]; omega) (by rw [hce]; exact hif.1)).1 _ hy2))
     refine qs 5 ?_
     exact Gn (rs := [.cell 8 _]) (L' := L) (F' := F) Tryz.results36 (.agg (j := 2) rfl rfl rfl .nil) subA (hN e _ _ _ _ _ _ _ _ _ ((is_odd hw (by rw [hce, if_pos c51]; exact hy) (by rw [hce]; omega) (by rw [hce]; exact hif.1)).2 hy2))
    refine qs 13 ?_
    exact Gn (rs := [.cell 8 _]) (L' := L) (F' := F) Tryz.results36 (.agg (j := 2) rfl rfl rfl .nil) subA (hT _ _ _ _ _ _ _ _ _ (is_even hw (by rw [hce, if_pos c51]; exact hy) (by rw [hce]; omega)))
   refine Gm (i := 7) Ja HZ HZ (fun _ => ?_)
   refine Gx HZ HZ HZ HZ ?_
   refine Gi bxA memB ?_
   refine Gq Ja ?_
   refine qs 6 ?_
   refine Ga (GG HZ HZ HZ (fun c60 => ?_) (fun c60 => ?_))
   ·refine qs 17 ?_
    exact Gn (rs := [.cell 8 _]) (L' := L) (F' := F) Tryz.results36 (.agg (j := 2) rfl rfl rfl .nil) subA (hN e _ _ _ _ _ _ _ _ _ (is_out hw (by rw [hce]; exact c51) (by rw [hce]; exact hy)))
   refine qs 2 ?_
   refine Gc HZ HZ (Gy HZ HZ ?_)
   refine qs 14 ?_
   exact Gn (rs := [.cell 8 _]) (L' := L) (F' := F) Tryz.results36 (.agg (j := 2) rfl rfl rfl .nil) subA (hN e _ _ _ _ _ _ _ _ _ (is_out hw (by rw [hce]; exact c51) (by rw [hce]; exact hy)))
  refine qs 10 ?_
  refine Ga (AO.rem HZ HZ (by decide) HZ ?_)
  rw [Int.tmod_eq_emod_of_nonneg hif.1]
  refine Ga (Gr HZ HZ HZ (fun c72 => ?_) (fun c72 => ?_))
  ·refine qs 8 ?_
   refine Ga (Ge HZ HZ (rcompares_c N B 400 0 (Nat.le_refl _) T (T, []) i (cmpI0 hu) hB hi.1 hi.2 (show fL T a k c ∈ _ from memA) (show fN N a2 k2 c2 ∈ _ from memA) (show fI B a3 k3 c3 ∈ _ from memA) memA (show fI [] none 0 0 ∈ _ from memA) (fun s' b7 j7 d7 b8 j8 d8 hy2 => ?_) (fun e b7 j7 d7 b8 j8 d8 b9 j9 d9 hy2 => ?_)))
   ·refine qs 5 ?_
    exact Gn (rs := [.cell 8 _]) (L' := L) (F' := F) Tryz.results36 (.agg (j := 1) rfl rfl rfl .nil) subA (hT _ _ _ _ _ _ _ _ _ ((is_odd (e := 0) hw (by rw [hce, if_neg (Int.not_le.2 c51)]) (by rw [hce]; omega) (by rw [hce]; exact hif.1)).1 _ hy2))
   refine qs 5 ?_
   exact Gn (rs := [.cell 8 _]) (L' := L) (F' := F) Tryz.results36 (.agg (j := 1) rfl rfl rfl .nil) subA (hN e _ _ _ _ _ _ _ _ _ ((is_odd hw (by rw [hce, if_neg (Int.not_le.2 c51)]) (by rw [hce]; omega) (by rw [hce]; exact hif.1)).2 hy2))
  refine qs 13 ?_
  exact Gn (rs := [.cell 8 _]) (L' := L) (F' := F) Tryz.results36 (.agg (j := 1) rfl rfl rfl .nil) subA (hT _ _ _ _ _ _ _ _ _ (is_even hw (by rw [hce, if_neg (Int.not_le.2 c51)]) (by rw [hce]; omega)))
end
end Go.Sy
namespace Go.Sy
open Go Go.Proofs Go.RowKit
section
variable {T : List Ty} {N : List Nmd} {B : List Int} {i c : Int} {is : Bool} {e e' : Int}
theorem tellC_yes {σ : Type} {r : Except Int (Option σ)} {s : σ} (h : tellC r is e) (hr : r = .ok (some s)) : is = true ∧ e = 0 := by
  subst hr
  rcases h with ⟨h1, h2, _⟩ | ⟨_, ⟨_, h⟩ | ⟨_, h⟩⟩
  · exact ⟨h1, h2⟩
  · cases h
  cases h
theorem badO_once {σ : Type} {r : Except Int (Option σ)} (h : badO r e) (h' : badO r e') : e = e' := by
  rcases h with ⟨h1, h2⟩ | ⟨h1, h2⟩ <;> rcases h' with ⟨k1, k2⟩ | ⟨k1, k2⟩ <;> rw [h2] at k2
  · injection k2
  · cases k2
  · cases k2
  omega
theorem tellC_no {σ : Type} {r : Except Int (Option σ)} (h : tellC r is e) (hr : badO r e') : is = false ∧ e = e' := by
  rcases h with ⟨_, _, s, h⟩ | ⟨h1, h2⟩
  · rcases hr with ⟨_, k⟩ | ⟨_, k⟩ <;> rw [h] at k <;> cases k
  exact ⟨h1, badO_once h2 hr⟩
theorem cmp_one (h : cmpP T N B i is e) (hn : ¬(rightU T N ∧ bndP T B)) : is = false ∧ e = 1 := by
  rcases h with ⟨_, ⟨_, h⟩ | ⟨h, _⟩, h2⟩ | ⟨h, _⟩
  · exact ⟨h2, h⟩
  · exact absurd h hn
  exact absurd h.1 hn
theorem has_one (h : hasTP T N B i c is e) (hn : ¬(rightU T N ∧ bndP T B)) : is = false ∧ e = 1 := by
  rcases h with ⟨_, ⟨_, h⟩ | ⟨h, _⟩, h2⟩ | ⟨h, _⟩
  · exact ⟨h2, h⟩
  · exact absurd h hn
  exact absurd h.1 hn
theorem cmp_eight (h : cmpP T N B i is e) (hg : rightU T N ∧ bndP T B) (hn : ¬(0 ≤ i ∧ i < T.length)) : is = false ∧ e = 8 := by
  rcases h with ⟨_, ⟨h, _⟩ | ⟨_, _, h⟩, h2⟩ | ⟨h, _⟩
  · exact absurd hg h
  · exact ⟨h2, h⟩
  exact absurd (h.2 i (.head _)) hn
theorem has_eight (h : hasTP T N B i c is e) (hg : rightU T N ∧ bndP T B) (hn : ¬(0 ≤ i ∧ i < T.length) ∨ ¬(0 ≤ c ∧ c < T.length)) : is = false ∧ e = 8 := by
  rcases h with ⟨_, ⟨h, _⟩ | ⟨_, _, h⟩, h2⟩ | ⟨h, _⟩
  · exact absurd hg h
  · exact ⟨h2, h⟩
  rcases hn with hn | hn
  · exact absurd (h.2 i (.head _)) hn
  exact absurd (h.2 c (.tail _ (.head _))) hn
theorem goodA_of (hg : rightU T N ∧ bndP T B) (hi : 0 ≤ i ∧ i < T.length) (hc : 0 ≤ c ∧ c < T.length) : goodA T N B [i, c] := ⟨hg, fun p hp => by
  simp only [List.mem_cons, List.not_mem_nil, or_false] at hp
  rcases hp with rfl | rfl
  · exact hi
  exact hc⟩
theorem cmp_good (h : cmpP T N B i is e) (hg : rightU T N ∧ bndP T B) (hi : 0 ≤ i ∧ i < T.length) : tellC (cmpR N B 400 (T, []) i) is e := by
  rcases h with ⟨_, h, _⟩ | ⟨_, h⟩
  · exact (badA_good h ⟨hg, fun p hp => by rw [List.mem_singleton.1 hp]; exact hi⟩).elim
  exact h
theorem has_kind (h : hasTP T N B i c is e) (hg : goodA T N B [i, c]) (h7 : (tyAt T c).kind ≠ 7) : is = false ∧ e = 1 := by
  rcases h with ⟨_, h, _⟩ | ⟨_, ⟨_, h1, h2⟩ | ⟨h, _⟩⟩
  · exact (badA_good h hg).elim
  · exact ⟨h2, h1⟩
  exact absurd h h7
theorem has_good (h : hasTP T N B i c is e) (hg : goodA T N B [i, c]) (h7 : (tyAt T c).kind = 7) : tellB (isR N B T i c) is e := by
  rcases h with ⟨_, h, _⟩ | ⟨_, ⟨h, _⟩ | ⟨_, h⟩⟩
  · exact (badA_good h hg).elim
  · exact absurd h7 h
  exact h
end
attribute [local irreducible] AC AT AO AK AH ACalls Sub Res.cells Res.obj Res.nix Res.own Res.map Exit.then Exit.inBlock bodyPost Code.wp Code.wpIn WL Next Post Kont
section
variable {W0 : World} {L : List Res} {F : List Fact} {R : Value → List Res → List Fact → Prop}
set_option maxRecDepth 100000
set_option maxHeartbeats 16000000
theorem tsetAsks_c (g : Glob W0) (T0 : List Ty) (N0 : List Nmd) (B0 : List Int) (i cc : Int) (hT : ∀ t ∈ T0, TyUp t) (hN : ∀ n ∈ N0, NmUp n) {a a2 a3 : Option Addr} {k c k2 c2 k3 c3 : Nat}
    (n1 : fL T0 a k c ∈ F) (n2 : fN N0 a2 k2 c2 ∈ F) (n3 : fI B0 a3 k3 c3 ∈ F) (h : R (.bool true) L F) :
    ACalls Tryz.prog W0 6 #[.agg #[.slice a k c, .slice a2 k2 c2], .slice a3 k3 c3, .int .i64 i, .int .i64 cc] L F R := by
  refine Hm ((Hr (sz := 3)).trans ((Hr (sz := 5)).trans ((Hr (sz := 4)).trans (Hr (sz := 1))))) ?_
  have hok := fewS_ok (m := 70) hT
  have hno := fewN_ok (m := 20) hN
  refine Gg Tryz.func6 HZ Tryz.ntmps6 HZ ?_
  refine qs 2 ?_
  refine Ga (GL HZ HZ (fun b4 => ?_))
  refine qs 4 ?_
  refine GP (fun i => Nat.beq i 7) [(b4, _, _)] bxA HZ (fun hx hX => ?_)
  have hk1 := (Gu (hX (fI B0 a3 k3 c3) memA)).1
  have hc1 := (Gu (hX (fI B0 a3 k3 c3) memA)).2
  subst hk1
  refine AH.weak (Sub.part (enc := eI) (lst := B0) 0 (min B0.length 18) c3 (show fI B0 _ _ c3 ∈ _ from memA) Jb Jb Jb Jb) ?_
  refine qt [0, 2, 3, 4, 5] ?_
  refine GD (i := 6) HZ (Y.sliceH (j' := min B0.length 18) HZ HZ Jb Jb) Ja HZ HZ ?_
  refine Gm (i := 1) Ja HZ HZ (fun _ => ?_)
  refine Ge HZ HZ (tfew14_c T0 N0 (show fL T0 a k c ∈ _ from memA) (show fN N0 a2 k2 c2 ∈ _ from memA) (fun aT kT cT aN kN cN => ?_))
  generalize fewS T0 70 = T at hok ⊢
  generalize fewN N0 20 = N at hno ⊢
  refine Gi bxA memB ?_
  refine Gm (i := 7) Ja HZ HZ (fun _ => ?_)
  refine Gx HZ HZ HZ HZ ?_
  refine GC HZ ?_
  refine qt [8] ?_
  refine Gq Ja ?_
  refine qs 6 ?_
  generalize List.take (min B0.length 18 - 0) (List.drop 0 B0) = B
  refine Ga (Ge HZ HZ (tComparable_c g T N hok hno B i (show fL T _ _ _ ∈ _ from memA) (show fN N _ _ _ ∈ _ from memA) (show fI B _ _ _ ∈ _ from memA) memA (fun is1 e1 hs1 => ?_)))
  refine qs 13 ?_
  refine Ga (Ge HZ HZ (tHas_c g T N hok hno B i cc (show fL T _ _ _ ∈ _ from memA) (show fN N _ _ _ ∈ _ from memA) (show fI B _ _ _ ∈ _ from memA) memA memA memA memA (fun is2 e2 hs2 => ?_)))
  refine qs 11 ?_
  refine Ga (Ge HZ HZ (ruright_c T N hok hno (show fL T _ _ _ ∈ _ from memA) (show fN N _ _ _ ∈ _ from memA) (fun c38 => ?_) (fun c38 => ?_)))
  ·refine qs 4 ?_
   refine Gc HZ HZ (Ge HZ HZ (rbounds14_c T B (show fL T _ _ _ ∈ _ from memA) (show fI B _ _ _ ∈ _ from memA) (fun c43 => ?_) (fun c43 => ?_)))
   ·refine qs 12 ?_
    refine Ga (Ge HZ HZ (there14_c T i (show fL T _ _ _ ∈ _ from memA) (fun c65 => ?_) (fun c65 => ?_)))
    ·refine qs 11 ?_
     have hs1 := cmp_good hs1 ⟨c38, c43⟩ c65
     refine Ga (Ge HZ HZ (rcompares_c N B 400 0 (Nat.le_refl _) T (T, []) i (cmpI0 c38) c43 c65.1 c65.2 (show fL T aT kT cT ∈ _ from memA) (show fN N aN kN cN ∈ _ from memA) (show fI B _ _ _ ∈ _ from memA) memA (show fI [] none 0 0 ∈ _ from memA) (fun s' b7 j7 d7 b8 j8 d8 hy2 => ?_) (fun e b7 j7 d7 b8 j8 d8 b9 j9 d9 hy2 => ?_)))
     ·refine Ga (Gj HZ (fun b13 => ?_))
      refine qs 9 ?_
      obtain ⟨rfl, rfl⟩ := tellC_yes hs1 hy2
      refine Ga (GG HZ HZ HZ (fun c91 => absurd HZ c91) (fun _ => ?_))
      refine qs 4 ?_
      refine Gc HZ HZ (Gr HZ HZ HZ (fun _ => ?_) (fun c96 => absurd HZ c96))
      refine qs 2 ?_
      refine Gc HZ HZ (Gy HZ HZ ?_)
      refine qs 1 ?_
      refine Gc HZ HZ (AO.neqBs HZ HZ HZ (fun c101 => absurd HZ c101) (fun _ => ?_))
      refine qs 2 ?_
      refine Gc HZ HZ (Ge HZ HZ (talive14_c g ?_))
      refine qs 12 ?_
      refine Ga (Ge HZ HZ (there14_c T cc (show fL T _ _ _ ∈ _ from memA) (fun c109 => ?_) (fun c109 => ?_)))
      ·refine qs 12 ?_
       obtain ⟨hcn, hce⟩ := GS c109.1 c109.2
       have hgd := goodA_of ⟨c38, c43⟩ c65 c109
       refine Ga (Gd (k := cc.toNat) HZ HZ HZ Jb (enc := eTy) (lst := T) (show fL T aT kT cT ∈ _ from memA) hcn (fun _ _ => ?_))
       refine Ga (Ha HZ HZ (fun _ => ?_))
       refine Ga (Gs HZ HZ ?_)
       intros
       refine Ga (GG HZ HZ HZ (fun c123 => ?_) (fun c123 => ?_))
       ·refine qs 6 ?_
        obtain ⟨rfl, rfl⟩ := has_kind hs2 hgd (by rw [hce]; exact c123)
        refine Ga (Gr HZ HZ HZ (fun _ => ?_) (fun c49 => absurd HZ c49))
        refine qs 2 ?_
        refine Gc HZ HZ (AO.not HZ HZ ?_)
        refine qs 6 ?_
        exact Gb (L' := L) (F' := F) Tryz.results6 rfl subA h
       refine qs 11 ?_
       have h7 : (tyAt T cc).kind = 7 := by rw [hce]; exact c123
       have hs2 := has_good hs2 hgd h7
       refine Ga (Ge HZ HZ (rhas14_c T N c38 B c43 i c65 cc c109 h7 (show fL T aT kT cT ∈ _ from memA) (show fN N aN kN cN ∈ _ from memA) (show fI B _ _ _ ∈ _ from memA) memA memA memA (fun b7 j7 d7 b8 j8 d8 b9 j9 d9 hy3 => ?_) (fun e9 b7 j7 d7 b8 j8 d8 b9 j9 d9 hy3 => ?_)))
       ·refine Ga (Gj HZ (fun b14 => ?_))
        refine qs 8 ?_
        obtain ⟨rfl, rfl⟩ := tellB_yes hs2 hy3
        refine Ga (Gr HZ HZ HZ (fun _ => ?_) (fun c49 => absurd HZ c49))
        refine qs 4 ?_
        refine Gc HZ HZ (Gr HZ HZ HZ (fun _ => ?_) (fun c49 => absurd HZ c49))
        refine qs 2 ?_
        refine Gc HZ HZ (Gy HZ HZ ?_)
        refine qs 1 ?_
        refine Gc HZ HZ (AO.eqlBs HZ HZ HZ (fun _ => ?_) (fun c49 => absurd HZ c49))
        refine qs 5 ?_
        exact Gb (L' := L) (F' := F) Tryz.results6 rfl subA h
       refine Ga (Gj HZ (fun b14 => ?_))
       refine qs 8 ?_
       obtain ⟨rfl, rfl⟩ := tellB_no hs2 hy3
       refine Ga (Gr HZ HZ HZ (fun _ => ?_) (fun c49 => absurd HZ c49))
       refine qs 4 ?_
       refine Gc HZ HZ (Gr HZ HZ HZ (fun c143 => ?_) (fun c143 => ?_))
       ·refine qs 2 ?_
        refine Gc HZ HZ (Gy HZ HZ ?_)
        refine qs 1 ?_
        refine Gc HZ HZ (AO.eqlBs HZ HZ HZ (fun _ => ?_) (fun c49 => absurd HZ c49))
        refine qs 5 ?_
        exact Gb (L' := L) (F' := F) Tryz.results6 rfl subA h
       refine qs 4 ?_
       refine Gc HZ HZ (AO.eqlBs HZ HZ HZ (fun _ => ?_) (fun c49 => absurd HZ c49))
       refine qs 5 ?_
       exact Gb (L' := L) (F' := F) Tryz.results6 rfl subA h
      refine qs 7 ?_
      obtain ⟨rfl, rfl⟩ := has_eight hs2 ⟨c38, c43⟩ (.inr c109)
      refine Ga (Gr HZ HZ HZ (fun _ => ?_) (fun c49 => absurd HZ c49))
      refine qs 2 ?_
      refine Gc HZ HZ (AO.not HZ HZ ?_)
      refine qs 6 ?_
      exact Gb (L' := L) (F' := F) Tryz.results6 rfl subA h
     refine Ga (Gj HZ (fun b13 => ?_))
     refine qs 9 ?_
     obtain ⟨rfl, rfl⟩ := tellC_no hs1 hy2
     refine Ga (GG HZ HZ HZ (fun c91 => absurd HZ c91) (fun _ => ?_))
     refine qs 4 ?_
     refine Gc HZ HZ (Gr HZ HZ HZ (fun c96 => ?_) (fun c96 => ?_))
     ·refine qs 2 ?_
      refine Gc HZ HZ (Gy HZ HZ ?_)
      refine qs 1 ?_
      refine Gc HZ HZ (AO.neqBs HZ HZ HZ (fun c101 => absurd HZ c101) (fun _ => ?_))
      refine qs 2 ?_
      refine Gc HZ HZ (Ge HZ HZ (talive14_c g ?_))
      refine qs 12 ?_
      refine Ga (Ge HZ HZ (there14_c T cc (show fL T _ _ _ ∈ _ from memA) (fun c109 => ?_) (fun c109 => ?_)))
      ·refine qs 12 ?_
       obtain ⟨hcn, hce⟩ := GS c109.1 c109.2
       have hgd := goodA_of ⟨c38, c43⟩ c65 c109
       refine Ga (Gd (k := cc.toNat) HZ HZ HZ Jb (enc := eTy) (lst := T) (show fL T aT kT cT ∈ _ from memA) hcn (fun _ _ => ?_))
       refine Ga (Ha HZ HZ (fun _ => ?_))
       refine Ga (Gs HZ HZ ?_)
       intros
       refine Ga (GG HZ HZ HZ (fun c123 => ?_) (fun c123 => ?_))
       ·refine qs 6 ?_
        obtain ⟨rfl, rfl⟩ := has_kind hs2 hgd (by rw [hce]; exact c123)
        refine Ga (Gr HZ HZ HZ (fun _ => ?_) (fun c49 => absurd HZ c49))
        refine qs 2 ?_
        refine Gc HZ HZ (AO.not HZ HZ ?_)
        refine qs 6 ?_
        exact Gb (L' := L) (F' := F) Tryz.results6 rfl subA h
       refine qs 11 ?_
       have h7 : (tyAt T cc).kind = 7 := by rw [hce]; exact c123
       have hs2 := has_good hs2 hgd h7
       refine Ga (Ge HZ HZ (rhas14_c T N c38 B c43 i c65 cc c109 h7 (show fL T aT kT cT ∈ _ from memA) (show fN N aN kN cN ∈ _ from memA) (show fI B _ _ _ ∈ _ from memA) memA memA memA (fun b7 j7 d7 b8 j8 d8 b9 j9 d9 hy3 => ?_) (fun e9 b7 j7 d7 b8 j8 d8 b9 j9 d9 hy3 => ?_)))
       ·refine Ga (Gj HZ (fun b14 => ?_))
        refine qs 8 ?_
        obtain ⟨rfl, rfl⟩ := tellB_yes hs2 hy3
        refine Ga (Gr HZ HZ HZ (fun _ => ?_) (fun c49 => absurd HZ c49))
        refine qs 4 ?_
        refine Gc HZ HZ (Gr HZ HZ HZ (fun _ => ?_) (fun c49 => absurd HZ c49))
        refine qs 2 ?_
        refine Gc HZ HZ (Gy HZ HZ ?_)
        refine qs 1 ?_
        refine Gc HZ HZ (AO.eqlBs HZ HZ HZ (fun _ => ?_) (fun c49 => absurd HZ c49))
        refine qs 5 ?_
        exact Gb (L' := L) (F' := F) Tryz.results6 rfl subA h
       refine Ga (Gj HZ (fun b14 => ?_))
       refine qs 8 ?_
       obtain ⟨rfl, rfl⟩ := tellB_no hs2 hy3
       refine Ga (Gr HZ HZ HZ (fun _ => ?_) (fun c49 => absurd HZ c49))
       refine qs 4 ?_
       refine Gc HZ HZ (Gr HZ HZ HZ (fun c143 => ?_) (fun c143 => ?_))
       ·refine qs 2 ?_
        refine Gc HZ HZ (Gy HZ HZ ?_)
        refine qs 1 ?_
        refine Gc HZ HZ (AO.eqlBs HZ HZ HZ (fun _ => ?_) (fun c49 => absurd HZ c49))
        refine qs 5 ?_
        exact Gb (L' := L) (F' := F) Tryz.results6 rfl subA h
       refine qs 4 ?_
       refine Gc HZ HZ (AO.eqlBs HZ HZ HZ (fun _ => ?_) (fun c49 => absurd HZ c49))
       refine qs 5 ?_
       exact Gb (L' := L) (F' := F) Tryz.results6 rfl subA h
      refine qs 7 ?_
      obtain ⟨rfl, rfl⟩ := has_eight hs2 ⟨c38, c43⟩ (.inr c109)
      refine Ga (Gr HZ HZ HZ (fun _ => ?_) (fun c49 => absurd HZ c49))
      refine qs 2 ?_
      refine Gc HZ HZ (AO.not HZ HZ ?_)
      refine qs 6 ?_
      exact Gb (L' := L) (F' := F) Tryz.results6 rfl subA h
     refine qs 4 ?_
     refine Gc HZ HZ (AO.neqBs HZ HZ HZ (fun c101 => absurd HZ c101) (fun _ => ?_))
     refine qs 2 ?_
     refine Gc HZ HZ (Ge HZ HZ (talive14_c g ?_))
     refine qs 12 ?_
     refine Ga (Ge HZ HZ (there14_c T cc (show fL T _ _ _ ∈ _ from memA) (fun c109 => ?_) (fun c109 => ?_)))
     ·refine qs 12 ?_
      obtain ⟨hcn, hce⟩ := GS c109.1 c109.2
      have hgd := goodA_of ⟨c38, c43⟩ c65 c109
      refine Ga (Gd (k := cc.toNat) HZ HZ HZ Jb (enc := eTy) (lst := T) (show fL T aT kT cT ∈ _ from memA) hcn (fun _ _ => ?_))
      refine Ga (Ha HZ HZ (fun _ => ?_))
      refine Ga (Gs HZ HZ ?_)
      intros
      refine Ga (GG HZ HZ HZ (fun c123 => ?_) (fun c123 => ?_))
      ·refine qs 6 ?_
       obtain ⟨rfl, rfl⟩ := has_kind hs2 hgd (by rw [hce]; exact c123)
       refine Ga (Gr HZ HZ HZ (fun _ => ?_) (fun c49 => absurd HZ c49))
       refine qs 2 ?_
       refine Gc HZ HZ (AO.not HZ HZ ?_)
       refine qs 6 ?_
       exact Gb (L' := L) (F' := F) Tryz.results6 rfl subA h
      refine qs 11 ?_
      have h7 : (tyAt T cc).kind = 7 := by rw [hce]; exact c123
      have hs2 := has_good hs2 hgd h7
      refine Ga (Ge HZ HZ (rhas14_c T N c38 B c43 i c65 cc c109 h7 (show fL T aT kT cT ∈ _ from memA) (show fN N aN kN cN ∈ _ from memA) (show fI B _ _ _ ∈ _ from memA) memA memA memA (fun b7 j7 d7 b8 j8 d8 b9 j9 d9 hy3 => ?_) (fun e9 b7 j7 d7 b8 j8 d8 b9 j9 d9 hy3 => ?_)))
      ·refine Ga (Gj HZ (fun b14 => ?_))
       refine qs 8 ?_
       obtain ⟨rfl, rfl⟩ := tellB_yes hs2 hy3
       refine Ga (Gr HZ HZ HZ (fun _ => ?_) (fun c49 => absurd HZ c49))
       refine qs 4 ?_
       refine Gc HZ HZ (Gr HZ HZ HZ (fun _ => ?_) (fun c49 => absurd HZ c49))
       refine qs 2 ?_
       refine Gc HZ HZ (Gy HZ HZ ?_)
       refine qs 1 ?_
       refine Gc HZ HZ (AO.eqlBs HZ HZ HZ (fun _ => ?_) (fun c49 => absurd HZ c49))
       refine qs 5 ?_
       exact Gb (L' := L) (F' := F) Tryz.results6 rfl subA h
      refine Ga (Gj HZ (fun b14 => ?_))
      refine qs 8 ?_
      obtain ⟨rfl, rfl⟩ := tellB_no hs2 hy3
      refine Ga (Gr HZ HZ HZ (fun _ => ?_) (fun c49 => absurd HZ c49))
      refine qs 4 ?_
      refine Gc HZ HZ (Gr HZ HZ HZ (fun c143 => ?_) (fun c143 => ?_))
      ·refine qs 2 ?_
       refine Gc HZ HZ (Gy HZ HZ ?_)
       refine qs 1 ?_
       refine Gc HZ HZ (AO.eqlBs HZ HZ HZ (fun _ => ?_) (fun c49 => absurd HZ c49))
       refine qs 5 ?_
       exact Gb (L' := L) (F' := F) Tryz.results6 rfl subA h
      refine qs 4 ?_
      refine Gc HZ HZ (AO.eqlBs HZ HZ HZ (fun _ => ?_) (fun c49 => absurd HZ c49))
      refine qs 5 ?_
      exact Gb (L' := L) (F' := F) Tryz.results6 rfl subA h
     refine qs 7 ?_
     obtain ⟨rfl, rfl⟩ := has_eight hs2 ⟨c38, c43⟩ (.inr c109)
     refine Ga (Gr HZ HZ HZ (fun _ => ?_) (fun c49 => absurd HZ c49))
     refine qs 2 ?_
     refine Gc HZ HZ (AO.not HZ HZ ?_)
     refine qs 6 ?_
     exact Gb (L' := L) (F' := F) Tryz.results6 rfl subA h
    refine qs 6 ?_
    obtain ⟨rfl, rfl⟩ := cmp_eight hs1 ⟨c38, c43⟩ c65
    obtain ⟨rfl, rfl⟩ := has_eight hs2 ⟨c38, c43⟩ (.inl c65)
    refine Ga (Ge HZ HZ (talive14_c g ?_))
    refine qs 2 ?_
    refine Gc HZ HZ (Gr HZ HZ HZ (fun _ => ?_) (fun c49 => absurd HZ c49))
    refine qs 3 ?_
    refine Gc HZ HZ (Gr HZ HZ HZ (fun _ => ?_) (fun c49 => absurd HZ c49))
    refine qs 3 ?_
    refine Gc HZ HZ (AO.not HZ HZ ?_)
    refine qs 3 ?_
    refine Gc HZ HZ (AO.not HZ HZ ?_)
    refine qs 6 ?_
    exact Gb (L' := L) (F' := F) Tryz.results6 rfl subA h
   refine qs 7 ?_
   have hbad : ¬(rightU T N ∧ bndP T B) := by first | exact fun h => c38 h.1 | exact fun h => c43 h.2
   obtain ⟨rfl, rfl⟩ := cmp_one hs1 hbad
   obtain ⟨rfl, rfl⟩ := has_one hs2 hbad
   refine Ga (Ge HZ HZ (talive14_c g ?_))
   refine qs 2 ?_
   refine Gc HZ HZ (Gr HZ HZ HZ (fun _ => ?_) (fun c49 => absurd HZ c49))
   refine qs 3 ?_
   refine Gc HZ HZ (Gr HZ HZ HZ (fun _ => ?_) (fun c49 => absurd HZ c49))
   refine qs 3 ?_
   refine Gc HZ HZ (AO.not HZ HZ ?_)
   refine qs 3 ?_
   refine Gc HZ HZ (AO.not HZ HZ ?_)
   refine qs 6 ?_
   exact Gb (L' := L) (F' := F) Tryz.results6 rfl subA h
  refine qs 12 ?_
  have hbad : ¬(rightU T N ∧ bndP T B) := by first | exact fun h => c38 h.1 | exact fun h => c43 h.2
  obtain ⟨rfl, rfl⟩ := cmp_one hs1 hbad
  obtain ⟨rfl, rfl⟩ := has_one hs2 hbad
  refine Ga (Ge HZ HZ (talive14_c g ?_))
  refine qs 2 ?_
  refine Gc HZ HZ (Gr HZ HZ HZ (fun _ => ?_) (fun c49 => absurd HZ c49))
  refine qs 3 ?_
  refine Gc HZ HZ (Gr HZ HZ HZ (fun _ => ?_) (fun c49 => absurd HZ c49))
  refine qs 3 ?_
  refine Gc HZ HZ (AO.not HZ HZ ?_)
  refine qs 3 ?_
  refine Gc HZ HZ (AO.not HZ HZ ?_)
  refine qs 6 ?_
  exact Gb (L' := L) (F' := F) Tryz.results6 rfl subA h
end
end Go.Sy
