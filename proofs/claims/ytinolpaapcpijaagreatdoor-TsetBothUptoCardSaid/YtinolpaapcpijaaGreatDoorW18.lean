/- Joined of my own texts: TsC, SeF, SeG, SeH, SeI, SeJ, SeK, SeL, SeM, SeN, SeO, SeS, TsD, TsE, TsF, TbD. -/
import Derived.Test.YtinolpaapcpijaaGreatDoorW17
namespace Go.Sy
open Go Go.Proofs Go.RowKit
theorem cmp_in {N : List Nmd} {B : List Int} {T : List Ty} {A : List Int} {i : Int} (h : i ∈ A) : ∀ f, cmpR N B f (T, A) i = .ok (some (T, A))
  | 0 => rfl
  | _ + 1 => cmp_asked h
theorem allR_map {σ α β : Type} (f : σ → β → Except Int (Option σ)) (g : α → β) : ∀ (l : List α) (s : σ), allR (fun s x => f s (g x)) l s = allR f (l.map g) s
  | [], s => rfl
  | x :: l, s => by
    simp only [allR, List.map_cons]
    cases f s (g x) with
    | error e => rfl
    | ok o =>
      cases o with
      | none => rfl
      | some s' => exact allR_map f g l s'
theorem seen_put {l : List Int} {m : Int → Option Bool} (h : seenP l m) (i : Int) : seenP (i :: l) (upd m i true) := fun t => by
  by_cases c : t = i
  · subst c; rw [upd_self]; simp
  rw [upd_ne _ c, h t]; simp [c]
theorem CmpI.put {N : List Nmd} {T0 T T1 : List Ty} {A : List Int} {n : Nat} {i : Int} (h : CmpI N T0 n (T, A)) (u1 : rightU T1 N) (u2 : T <+: T1) (h0 : 0 ≤ i) (hi : i < T.length) (c : i ∉ A) : CmpI N T0 (n + 1) (T1, i :: A) := by
  have hl := u2.length_le
  exact ⟨u1, h.pre.trans u2, List.nodup_cons.2 ⟨c, h.once⟩, fun x hx => by
    rcases List.mem_cons.1 hx with e | hx
    · subst e; exact ⟨h0, by simp only; omega⟩
    have := h.there x hx
    simp only at this ⊢; omega, by have := h.many; simp only [List.length_cons] at this ⊢; omega⟩
theorem CmpI.low {N : List Nmd} {T0 T1 : List Ty} {n : Nat} {s : List Ty × List Int} (h : CmpI N T0 n s) (hp : T1 <+: s.1) : CmpI N T1 n s := ⟨h.right, hp, h.once, h.there, h.many⟩
attribute [local irreducible] AC AT AO AK AH ACalls Sub Res.cells Res.obj Res.nix Res.own Res.map Exit.then Exit.inBlock bodyPost Code.wp Code.wpIn WL Next Post Kont
section
variable {W0 : World}
set_option maxRecDepth 100000
set_option maxHeartbeats 16000000
theorem cmp1_c {L : List Res} {F : List Fact} {R : Value → List Res → List Fact → Prop} (x : Tm) {b2 ba i2 : Nat} (H2 : L[i2]? = some (Res.cells b2 #[.pointer (some ⟨ba, 0, none⟩)] 111))
    (hc : ∀ (r : Res) {R2 : Value → List Res → List Fact → Prop}, (∀ b L' F', R (.bool b) L' F' → R2 (.bool b) (r :: L') F') → ACalls Tryz.prog W0 76 #[.pointer (some ⟨ba, 0, none⟩), .int .i64 x.2] (r :: L) F R2) :
    ACalls Tryz.prog W0 133 #[vTm x, .pointer (some ⟨b2, 0, none⟩)] L F R := by
  refine Ge Tryz.func133 HU Tryz.ntmps133 HU ?_
  refine qs 2 ?_
  refine Ga (GJ HU HU (fun b2 => ?_))
  refine qs 5 ?_
  refine Ga (Gw HU HU ?_ (i := i2 + 1) (hi := H2) (hv := HU))
  refine qs 2 ?_
  refine Ga (Gd HU HU (hc _ (fun b L' F' hr => ?_)))
  refine qs 4 ?_
  exact Gb (L' := L') (F' := F') Tryz.results133 rfl Gn hr
theorem tcompares_c (g : Glob W0) (N : List Nmd) (hno : ∀ n ∈ N, NmOk n) (B : List Int) {a2 a3 : Option Addr} {k2 c2 k3 c3 : Nat} : ∀ (f : Nat) (Lf : List Value → (Int → Option Bool) → List Res) {ba bm ia im : Nat} (_ : ∀ w m, (Lf w m)[ia]? = some (Res.cells ba w.toArray 140)) (_ : ∀ w m, (Lf w m)[im]? = some (Res.map bm vI Value.bool m)) (_ : ∀ w m w', (Lf w m).set ia (Res.cells ba w'.toArray 140) = Lf w' m) (_ : ∀ w m m', (Lf w m).set im (Res.map bm vI Value.bool m') = Lf w m')
    (n : Nat) (_ : 400 ≤ f + n) (T0 T : List Ty) (A : List Int) (_ : CmpI N T0 n (T, A)) (_ : bndP T B) (i : Int) (_ : 0 ≤ i) (_ : i < T.length) (m : Int → Option Bool) (_ : seenP A m) {a : Option Addr} {k c : Nat} {F : List Fact} {R : Value → List Res → List Fact → Prop} (_ : fL T a k c ∈ F) (_ : fN N a2 k2 c2 ∈ F) (_ : fI B a3 k3 c3 ∈ F) (_ : Fact.slc (.slice none 0 0) 5 [] ∈ F)
    (_ : ∀ T' A' m' a k c, cmpR N B f (T, A) i = .ok (some (T', A')) → seenP A' m' → R (.bool true) (Lf (aCells a k c a2 k2 c2 a3 k3 c3 bm 0) m') (fL T' a k c :: F))
    (_ : ∀ e m' a k c, badO (cmpR N B f (T, A) i) e → R (.bool false) (Lf (aCells a k c a2 k2 c2 a3 k3 c3 bm e) m') F),
    ACalls Tryz.prog W0 76 #[.pointer (some ⟨ba, 0, none⟩), .int .i64 i] (Lf (aCells a k c a2 k2 c2 a3 k3 c3 bm 0) m) F R := by
  intro f
  induction f using Nat.strongRecOn with
  | _ f ih =>
  intro Lf ba bm ia im HA HM SA SM n hf T0 T A hI hB i h0 hi m hm a k c F R mL mN mB mE hO hN
  refine Ge Tryz.func76 HU Tryz.ntmps76 HU ?_
  refine qs 2 ?_
  refine Ga (GJ HU HU (fun b2 => ?_))
  refine qs 7 ?_
  refine Ga (Gu HU HU ?_)
  refine qs 1 ?_
  refine Ga (Gw (cs := aCells a k c a2 k2 c2 a3 k3 c3 bm 0) HU HU ?_ (i := ia + 1) (hi := HA _ _) (hv := HU))
  refine qs 1 ?_
  refine Ga (AO.lookupB (kenc := vI) (m := m) (i := im + 1) i HU HU HU (HM _ _) (fun hse => ?_) (fun hse => ?_))
  ·refine qs 10 ?_
   exact Gb (L' := Lf (aCells a k c a2 k2 c2 a3 k3 c3 bm 0) m) (F' := fL T a k c :: F) Tryz.results76 rfl (Sub.drop.trans (Gg (mem1 memA (fun x hx => by repeat (first | exact hx | refine List.mem_cons_of_mem _ ?_))))) (hO T A m a k c (cmp_in ((hm i).1 hse) f) hm)
  refine qs 8 ?_
  refine Ga (Gu HU HU ?_)
  refine qs 1 ?_
  have hiA : i ∉ A := fun h => hse ((hm i).2 h)
  obtain ⟨f, rfl⟩ : ∃ f', f = f' + 1 := ⟨f - 1, by
   have : ¬ 400 ≤ n := fun h => hiA (hI.fuel h h0 hi)
   omega⟩
  refine Ga (Gw (cs := aCells a k c a2 k2 c2 a3 k3 c3 bm 0) HU HU ?_ (i := ia + 1) (hi := HA _ _) (hv := HU))
  refine qs 1 ?_
  refine Ga (Hi (kenc := vI) (venc := Value.bool) (m := m) (i := im + 1) i true HU HU HU (HM _ _) ?_)
  refine AL.weak (SubR.refl _) (Hn (show _ = _ :: Lf _ (upd m i true) from congrArg (_ :: ·) (SM _ _ _))) ?_
  refine qs 6 ?_
  refine Ga (Gd HU HU (tunder_c g T N hno hI.right i h0 hi (ia := ia + 1) (HA _ _) mL mN mE (fun e he hud => ?_) (fun T1 q a22 k22 c22 hud => ?_)))
  ·refine qs 7 ?_
   refine Ga (Gu HU HU ?_)
   refine qs 1 ?_
   refine Gz (Hn (show _ = _ :: Lf (aCells a k c a2 k2 c2 a3 k3 c3 bm e) _ from congrArg (_ :: ·) (SA _ _ _))) ?_
   refine Ga (Gw (cs := aCells a k c a2 k2 c2 a3 k3 c3 bm e) HU HU ?_ (i := ia + 1) (hi := HA _ _) (hv := HU))
   refine Ga (GK HU HU HU (fun _ => ?_) (fun c27 => absurd c27 he))
   refine qs 10 ?_
   exact Gb (L' := Lf (aCells a k c a2 k2 c2 a3 k3 c3 bm e) (upd m i true)) (F' := F) Tryz.results76 rfl subA (hN e _ a k c (.inl ⟨he, cmp_err hiA hud⟩))
  refine qs 7 ?_
  refine Ga (Gu HU HU ?_)
  refine qs 1 ?_
  refine Gz (Hn (show _ = _ :: Lf (aCells a22 k22 c22 a2 k2 c2 a3 k3 c3 bm 0) _ from congrArg (_ :: ·) (SA _ _ _))) ?_
  obtain ⟨u1, u2, u3, u4⟩ := undR_ok hI.right h0 hi hud
  have hI1 := hI.put u1 u2 h0 hi hiA
  have hm1 := seen_put hm i
  have hB1 := hB.up u2
  refine Ga (Gw (cs := aCells a22 k22 c22 a2 k2 c2 a3 k3 c3 bm 0) HU HU ?_ (i := ia + 1) (hi := HA _ _) (hv := HU))
  refine Ga (GK HU HU HU (fun c27 => absurd HU c27) (fun _ => ?_))
  refine qs 8 ?_
  refine Ga (Gu HU HU ?_)
  refine qs 2 ?_
  refine Ga (Gw (cs := aCells a22 k22 c22 a2 k2 c2 a3 k3 c3 bm 0) HU HU ?_ (i := ia + 1) (hi := HA _ _) (hv := HU))
  refine qs 1 ?_
  obtain ⟨hqn, hqe⟩ := GQ u3 u4
  have hokq := Hp u1.1 _ (List.getElem_mem hqn)
  refine Ga (Gj (k := q.toNat) HU HU HU HW (enc := eTy) (lst := T1) (show fL T1 a22 k22 c22 ∈ _ from memA) hqn (fun _ _ => ?_))
  refine Ga (GU HU HU ?_)
  intro a35 k35 z35 d35 e35 f35
  refine Ga (Gq HU (fun b6 => ?_))
  refine qs 14 ?_
  refine Ga (GC HU HU HU (fun c39 => ?_) (fun c39 => ?_))
  ·refine qs 15 ?_
   exact Gb (L' := Lf (aCells a22 k22 c22 a2 k2 c2 a3 k3 c3 bm 0) (upd m i true)) (F' := fL T1 a22 k22 c22 :: F) Tryz.results76 rfl (by repeat (first | exact Gg (mem1 memA (fun x hx => by repeat (first | exact hx | refine List.mem_cons_of_mem _ ?_))) | refine GR Gn ?_)) (hO T1 (i :: A) _ a22 k22 c22 (cmp_yes hiA hud (by rw [hqe]; omega)) hm1)
  refine qs 6 ?_
  refine Ga (GC HU HU HU (fun c40 => ?_) (fun c40 => ?_))
  ·refine qs 15 ?_
   exact Gb (L' := Lf (aCells a22 k22 c22 a2 k2 c2 a3 k3 c3 bm 0) (upd m i true)) (F' := fL T1 a22 k22 c22 :: F) Tryz.results76 rfl (by repeat (first | exact Gg (mem1 memA (fun x hx => by repeat (first | exact hx | refine List.mem_cons_of_mem _ ?_))) | refine GR Gn ?_)) (hO T1 (i :: A) _ a22 k22 c22 (cmp_yes hiA hud (by rw [hqe]; omega)) hm1)
  refine qs 5 ?_
  refine Ga (GC HU HU HU (fun c41 => ?_) (fun c41 => ?_))
  ·refine qs 12 ?_
   exact Gb (L' := Lf (aCells a22 k22 c22 a2 k2 c2 a3 k3 c3 bm 0) (upd m i true)) (F' := fL T1 a22 k22 c22 :: F) Tryz.results76 rfl (by repeat (first | exact Gg (mem1 memA (fun x hx => by repeat (first | exact hx | refine List.mem_cons_of_mem _ ?_))) | refine GR Gn ?_)) (hO T1 (i :: A) _ a22 k22 c22 (cmp_yes hiA hud (by rw [hqe]; omega)) hm1)
  refine qs 7 ?_
  refine Ga (GC HU HU HU (fun c43 => ?_) (fun c43 => ?_))
  ·refine qs 13 ?_
   refine Ga (AO.makeFuncB (us := [.pointer (some ⟨ba, 0, none⟩)]) (vs := []) HU HU HU ?_)
   have hkin := kids_there u1.1 u3 u4
   rw [hqe] at hkin
   have hal := cmp_all (B := B) (f := f) hiA hud (by rw [hqe]; omega)
   rw [hqe] at hal
   refine Ga (Gd HU HU (Hr (Gg (F' := fL T1 a22 k22 c22 :: fK T1[q.toNat] d35 e35 f35 :: F) (mem2 memA memA (fun x hx => by repeat (first | exact hx | refine List.mem_cons_of_mem _ ?_)))) (tallI_c (σ := List Ty × List Int) (μ := (Int → Option Bool) × Option Addr × Nat × Nat) (cmpR N B f) T1[q.toNat].kids (by have := hokq.kids; omega) (fun s x => CmpI N T1 (n + 1) s ∧ seenP s.2 x.1) (fun x e => _ :: _ :: Lf (aCells x.2.1 x.2.2.1 x.2.2.2 a2 k2 c2 a3 k3 c3 bm e) x.1) (fun s x => fL s.1 x.2.1 x.2.2.1 x.2.2.2 :: fK T1[q.toNat] d35 e35 f35 :: F) F (fun x e => aCells x.2.1 x.2.2.1 x.2.2.2 a2 k2 c2 a3 k3 c3 bm e) (ia := ia + 2) (fun x e => HA _ _) (fun x e => rfl) (fun s x => .tail _ (.head _)) (fi := [.pointer (some ⟨ba, 0, none⟩)]) (cs := [])
   (fun A' q' hq' s x R' hIx hy hn => ACalls.out (R' := fun v L' F' => ∃ F'', Sub L' F' L' F'' ∧ R' v L' F'') (ih f HW (fun w m => A' ++ (_ :: _ :: Lf w m)) (ia := A'.length + (ia + 2)) (im := A'.length + (im + 2)) (fun w m => (getP _).trans (HA w m)) (fun w m => (getP _).trans (HM w m)) (fun w m w' => (setP _ _).trans (congrArg (fun z => A' ++ (_ :: _ :: z)) (SA w m w'))) (fun w m m' => (setP _ _).trans (congrArg (fun z => A' ++ (_ :: _ :: z)) (SM w m m'))) (n + 1) HW T1 s.1 s.2 hIx.1 (hB1.up hIx.1.pre) _ (hkin _ (List.getElem_mem hq')).1 (by have := (hkin _ (List.getElem_mem hq')).2; have := hIx.1.pre.length_le; omega) x.1 hIx.2 (.head _) (.tail _ (.tail _ mN)) (.tail _ (.tail _ mB)) (.tail _ (.tail _ mE)) (fun T' A2 m' a k c hx2 hs2 => ⟨_, Gg (mem1 (.head _) (fun z hz => .tail _ (.tail _ hz))), hy (T', A2) (m', a, k, c) hx2 ⟨(cmpR_ok f (n + 1) s _ _ hIx.1 (hB1.up hIx.1.pre) (hkin _ (List.getElem_mem hq')).1 (by have := (hkin _ (List.getElem_mem hq')).2; have := hIx.1.pre.length_le; omega) hx2).1, hs2⟩⟩) (fun e m' a k c hb => ⟨F, Gg (fun z hz => .tail _ (.tail _ hz)), hn e (m', a, k, c) hb⟩)) (fun v L' F' ⟨F'', h1, h2⟩ => ⟨L', F'', h1, h2⟩))
   (T1, i :: A) (upd m i true, a22, k22, c22) ⟨hI1.low List.prefix_rfl, hm1⟩ (fun s x hx2 hs2 => ?_) (fun e x hb => ?_))))
   ·refine qs 6 ?_
    exact Gb (L' := Lf (aCells x.2.1 x.2.2.1 x.2.2.2 a2 k2 c2 a3 k3 c3 bm 0) x.1) (F' := fL s.1 x.2.1 x.2.2.1 x.2.2.2 :: F) Tryz.results76 rfl (by repeat (first | exact Gg (mem1 memA (fun x hx => by repeat (first | exact hx | refine List.mem_cons_of_mem _ ?_))) | refine GR Gn ?_)) (hO s.1 s.2 x.1 _ _ _ (hal.trans hx2) hs2.2)
   refine qs 6 ?_
   exact Gb (L' := Lf (aCells x.2.1 x.2.2.1 x.2.2.2 a2 k2 c2 a3 k3 c3 bm e) x.1) (F' := F) Tryz.results76 rfl subA (hN e x.1 _ _ _ (by rw [hal]; exact hb))
  refine qs 5 ?_
  refine Ga (GC HU HU HU (fun c44 => ?_) (fun c44 => ?_))
  ·refine qs 10 ?_
   refine Ga (AO.makeFuncB (us := [.pointer (some ⟨ba, 0, none⟩)]) (vs := []) HU HU HU ?_)
   have hkin := kids_there u1.1 u3 u4
   rw [hqe] at hkin
   have hal := cmp_all (B := B) (f := f) hiA hud (by rw [hqe]; omega)
   rw [hqe] at hal
   refine Ga (Gd HU HU (Hr (Gg (F' := fL T1 a22 k22 c22 :: fK T1[q.toNat] d35 e35 f35 :: F) (mem2 memA memA (fun x hx => by repeat (first | exact hx | refine List.mem_cons_of_mem _ ?_)))) (tallI_c (σ := List Ty × List Int) (μ := (Int → Option Bool) × Option Addr × Nat × Nat) (cmpR N B f) T1[q.toNat].kids (by have := hokq.kids; omega) (fun s x => CmpI N T1 (n + 1) s ∧ seenP s.2 x.1) (fun x e => _ :: _ :: Lf (aCells x.2.1 x.2.2.1 x.2.2.2 a2 k2 c2 a3 k3 c3 bm e) x.1) (fun s x => fL s.1 x.2.1 x.2.2.1 x.2.2.2 :: fK T1[q.toNat] d35 e35 f35 :: F) F (fun x e => aCells x.2.1 x.2.2.1 x.2.2.2 a2 k2 c2 a3 k3 c3 bm e) (ia := ia + 2) (fun x e => HA _ _) (fun x e => rfl) (fun s x => .tail _ (.head _)) (fi := [.pointer (some ⟨ba, 0, none⟩)]) (cs := [])
   (fun A' q' hq' s x R' hIx hy hn => ACalls.out (R' := fun v L' F' => ∃ F'', Sub L' F' L' F'' ∧ R' v L' F'') (ih f HW (fun w m => A' ++ (_ :: _ :: Lf w m)) (ia := A'.length + (ia + 2)) (im := A'.length + (im + 2)) (fun w m => (getP _).trans (HA w m)) (fun w m => (getP _).trans (HM w m)) (fun w m w' => (setP _ _).trans (congrArg (fun z => A' ++ (_ :: _ :: z)) (SA w m w'))) (fun w m m' => (setP _ _).trans (congrArg (fun z => A' ++ (_ :: _ :: z)) (SM w m m'))) (n + 1) HW T1 s.1 s.2 hIx.1 (hB1.up hIx.1.pre) _ (hkin _ (List.getElem_mem hq')).1 (by have := (hkin _ (List.getElem_mem hq')).2; have := hIx.1.pre.length_le; omega) x.1 hIx.2 (.head _) (.tail _ (.tail _ mN)) (.tail _ (.tail _ mB)) (.tail _ (.tail _ mE)) (fun T' A2 m' a k c hx2 hs2 => ⟨_, Gg (mem1 (.head _) (fun z hz => .tail _ (.tail _ hz))), hy (T', A2) (m', a, k, c) hx2 ⟨(cmpR_ok f (n + 1) s _ _ hIx.1 (hB1.up hIx.1.pre) (hkin _ (List.getElem_mem hq')).1 (by have := (hkin _ (List.getElem_mem hq')).2; have := hIx.1.pre.length_le; omega) hx2).1, hs2⟩⟩) (fun e m' a k c hb => ⟨F, Gg (fun z hz => .tail _ (.tail _ hz)), hn e (m', a, k, c) hb⟩)) (fun v L' F' ⟨F'', h1, h2⟩ => ⟨L', F'', h1, h2⟩))
   (T1, i :: A) (upd m i true, a22, k22, c22) ⟨hI1.low List.prefix_rfl, hm1⟩ (fun s x hx2 hs2 => ?_) (fun e x hb => ?_))))
   ·refine qs 6 ?_
    exact Gb (L' := Lf (aCells x.2.1 x.2.2.1 x.2.2.2 a2 k2 c2 a3 k3 c3 bm 0) x.1) (F' := fL s.1 x.2.1 x.2.2.1 x.2.2.2 :: F) Tryz.results76 rfl (by repeat (first | exact Gg (mem1 memA (fun x hx => by repeat (first | exact hx | refine List.mem_cons_of_mem _ ?_))) | refine GR Gn ?_)) (hO s.1 s.2 x.1 _ _ _ (hal.trans hx2) hs2.2)
   refine qs 6 ?_
   exact Gb (L' := Lf (aCells x.2.1 x.2.2.1 x.2.2.2 a2 k2 c2 a3 k3 c3 bm e) x.1) (F' := F) Tryz.results76 rfl subA (hN e x.1 _ _ _ (by rw [hal]; exact hb))
  refine qs 6 ?_
  refine Ga (GC HU HU HU (fun c52 => ?_) (fun c52 => ?_))
  ·refine qs 8 ?_
   have h9 : (tyAt T1 q).kind = 9 := by rw [hqe]; exact c52
   have hpn := param_n u1.1 u3 u4 h9
   rw [hqe] at hpn
   refine Ga (Gd HU HU (tbound_c T1 B hB1 T1[q.toNat] hpn.1 (ia := ia + 2) (HA _ _) (show fL T1 a22 k22 c22 ∈ _ from memA) (show fI B a3 k3 c3 ∈ _ from memA) (fun b a5 k5 c5 a6 k6 c6 hb => ?_) (fun hb => ?_)))
   ·refine qs 3 ?_
    refine Ga (Gq HU (fun b7 => ?_))
    refine qs 18 ?_
    have hbn := cmp_bnd (f := f) hiA hud h9 (b := b) (by rw [hqe]; exact hb)
    obtain ⟨kb, _, kb0, kb1, hbe, hb7, _⟩ := bound_is hB1 hpn.1 hb
    obtain ⟨hkb, hke⟩ := GQ kb0 kb1
    have hif := iface_n u1.1 kb0 kb1 (by rw [← hbe]; exact hb7)
    have htm := trm_there u1.1 kb0 kb1 (by rw [← hbe]; exact hb7)
    have hokb := Hp u1.1 _ (List.getElem_mem hkb)
    rw [← hke, ← hbe] at hokb
    rw [← hbe] at hif htm
    refine Ga (AO.and1 HU HU hif.1 hif.2.1 HU ?_)
    refine Ga (GC HU HU HU (fun c66 => ?_) (fun c66 => ?_))
    ·refine qs 14 ?_
     exact Gb (L' := Lf (aCells a22 k22 c22 a2 k2 c2 a3 k3 c3 bm 0) (upd m i true)) (F' := fL T1 a22 k22 c22 :: F) Tryz.results76 rfl (by repeat (first | exact Gg (mem1 memA (fun x hx => by repeat (first | exact hx | refine List.mem_cons_of_mem _ ?_))) | refine GR Gn ?_)) (hO T1 (i :: A) _ a22 k22 c22 (by rw [hbn, if_pos c66]) hm1)
    refine qs 8 ?_
    refine GO (fun _ => false) [(b7, _, _), (b2, _, _)] bxA HU (fun hx hX => ?_)
    refine qt [0] ?_
    refine Gf (i := 1) HV HU HU (fun _ => ?_)
    refine Gd HU HU (trestricts_c b (fun c68 => ?_) (fun c68 => ?_))
    all_goals refine Gc bxA memB ?_
    ·refine qt [2, 3, 4] ?_
     refine GF (i := 6) HU (Y.makeFunc HU) HV HU HU ?_
     refine Gf (i := 5) HV HU HU (fun _ => ?_)
     refine Gd HU HU (tterms_c b hokb.words (Nat.le_of_eq hif.2.2) (show fW b a5 k5 c5 ∈ _ from memA) (show fK b a6 k6 c6 ∈ _ from memA) (fun a72 k72 c72 => ?_))
     refine Gc bxA memB ?_
     refine Gf (i := 7) HV HU HU (fun _ => ?_)
     have hal : cmpR N B (f + 1) (T, A) i = allR (fun s x => cmpR N B f s x.2) (trmL b) (T1, i :: A) := by rw [hbn, if_neg c66, if_pos c68]; exact (allR_map (cmpR N B f) (·.2) (trmL b) _).symm
     have hwl := trmN_len b b.words.length
     refine Gd HU HU (Hr (Gg (F' := fL T1 a22 k22 c22 :: fTm (trmL b) a72 k72 c72 :: Fact.held hx :: F) (mem2 memA memA (mem1 memA (fun x hx => by repeat (first | exact hx | refine List.mem_cons_of_mem _ ?_))))) (tallT_c (σ := List Ty × List Int) (μ := (Int → Option Bool) × Option Addr × Nat × Nat) (fun s x => cmpR N B f s x.2) (trmL b) (by have := hokb.words; unfold trmL; omega) (fun s x => CmpI N T1 (n + 1) s ∧ seenP s.2 x.1) (fun x e => _ :: _ :: _ :: Lf (aCells x.2.1 x.2.2.1 x.2.2.2 a2 k2 c2 a3 k3 c3 bm e) x.1) (fun s x => fL s.1 x.2.1 x.2.2.1 x.2.2.2 :: fTm (trmL b) a72 k72 c72 :: Fact.held hx :: F) (Fact.held hx :: F) (fun x e => aCells x.2.1 x.2.2.1 x.2.2.2 a2 k2 c2 a3 k3 c3 bm e) (ia := ia + 3) (fun x e => HA _ _) (fun x e => rfl) (fun s x => .tail _ (.head _)) (cs := [.pointer (some ⟨b2, 0, none⟩)])
     (fun A' q' hq' s x R' hIx hy hn => cmp1_c _ (i2 := A'.length + 2) ((getP _).trans rfl) (fun r R2 hh => ACalls.out (R' := fun v L' F' => ∃ F'', Sub L' F' L' F'' ∧ R2 v L' F'') (ih f HW (fun w m => r :: (A' ++ (_ :: _ :: _ :: Lf w m))) (ia := A'.length + (ia + 3) + 1) (im := A'.length + (im + 3) + 1) (fun w m => (getP _).trans (HA w m)) (fun w m => (getP _).trans (HM w m)) (fun w m w' => congrArg (r :: ·) ((setP _ _).trans (congrArg (fun z => A' ++ (_ :: _ :: _ :: z)) (SA w m w')))) (fun w m m' => congrArg (r :: ·) ((setP _ _).trans (congrArg (fun z => A' ++ (_ :: _ :: _ :: z)) (SM w m m')))) (n + 1) HW T1 s.1 s.2 hIx.1 (hB1.up hIx.1.pre) _ (htm _ (List.getElem_mem hq')).1 (by have := (htm _ (List.getElem_mem hq')).2; have := hIx.1.pre.length_le; omega) x.1 hIx.2 (.head _) (.tail _ (.tail _ (.tail _ mN))) (.tail _ (.tail _ (.tail _ mB))) (.tail _ (.tail _ (.tail _ mE))) (fun T' A2 m' a k c hx2 hs2 => ⟨_, Gg (mem1 (.head _) (fun z hz => .tail _ (.tail _ hz))), hh _ _ _ (hy (T', A2) (m', a, k, c) hx2 ⟨(cmpR_ok f (n + 1) s _ _ hIx.1 (hB1.up hIx.1.pre) (htm _ (List.getElem_mem hq')).1 (by have := (htm _ (List.getElem_mem hq')).2; have := hIx.1.pre.length_le; omega) hx2).1, hs2⟩)⟩) (fun e m' a k c hb => ⟨_, Gg (fun z hz => .tail _ (.tail _ hz)), hh _ _ _ (hn e (m', a, k, c) hb)⟩)) (fun v L' F' ⟨F'', h1, h2⟩ => ⟨L', F'', h1, h2⟩)))
     (T1, i :: A) (upd m i true, a22, k22, c22) ⟨hI1.low List.prefix_rfl, hm1⟩ (fun s x hx2 hs2 => ?_) (fun e x hb2 => ?_)))
     all_goals refine Gc bxA memB ?_
     ·refine qt [8, 9] ?_
      refine Gm HV ?_
      refine qs 4 ?_
      exact Gb (L' := Lf (aCells x.2.1 x.2.2.1 x.2.2.2 a2 k2 c2 a3 k3 c3 bm 0) x.1) (F' := fL s.1 x.2.1 x.2.2.1 x.2.2.2 :: F) Tryz.results76 rfl (by repeat (first | exact Gg (mem1 memA (fun x hx => by repeat (first | exact hx | refine List.mem_cons_of_mem _ ?_))) | refine GR Gn ?_)) (hO s.1 s.2 x.1 _ _ _ (hal.trans hx2) hs2.2)
     refine qt [8, 9] ?_
     refine Gm HV ?_
     refine qs 4 ?_
     exact Gb (L' := Lf (aCells x.2.1 x.2.2.1 x.2.2.2 a2 k2 c2 a3 k3 c3 bm e) x.1) (F' := F) Tryz.results76 rfl subA (hN e x.1 _ _ _ (by rw [hal]; exact hb2))
    refine qt [2, 3, 4, 6, 5, 7, 8, 9] ?_
    refine Gm HV ?_
    refine qs 4 ?_
    exact Gb (L' := Lf (aCells a22 k22 c22 a2 k2 c2 a3 k3 c3 bm 0) (upd m i true)) (F' := F) Tryz.results76 rfl subA (hN 0 _ a22 k22 c22 (.inr ⟨rfl, by rw [hbn, if_neg c66, if_neg c68]⟩))
   refine qs 3 ?_
   refine Ga (Gq HU (fun b7 => ?_))
   refine qs 24 ?_
   exact Gb (L' := Lf (aCells a22 k22 c22 a2 k2 c2 a3 k3 c3 bm 0) (upd m i true)) (F' := F) Tryz.results76 rfl subA (hN 0 _ a22 k22 c22 (.inr ⟨rfl, cmp_no hiA hud (by rw [hqe]; omega) (by rw [hqe]; omega) (by rw [hqe]; exact hb)⟩))
  refine qs 13 ?_
  exact Gb (L' := Lf (aCells a22 k22 c22 a2 k2 c2 a3 k3 c3 bm 0) (upd m i true)) (F' := F) Tryz.results76 rfl subA (hN 0 _ a22 k22 c22 (.inr ⟨rfl, cmp_no hiA hud (by rw [hqe]; omega) (by rw [hqe]; omega) (by rw [hqe]; unfold boundR; rw [if_neg (fun h => c52 h.1)])⟩))
end
end Go.Sy
namespace Go.Sy
open Go Go.Proofs Go.RowKit
theorem runL_err {σ : Type} {N : List Nmd} {stp : σ → List Ty → List Ent → List Wht → σ} {go : σ → Bool} {n : Nat} {T : List Ty} {lev : List Ent} {seen : List Int} {s : σ} {e : Int} (h : looksR N T lev lev.length = .error e) : runL N stp go (n + 1) T lev seen s = (s, .error e) := by unfold runL; rw [h]
theorem runL_nil {σ : Type} {N : List Nmd} {stp : σ → List Ty → List Ent → List Wht → σ} {go : σ → Bool} {n : Nat} {T : List Ty} {seen : List Int} {s : σ} : runL N stp go (n + 1) T [] seen s = (s, .ok T) := rfl
theorem runL_stop {σ : Type} {N : List Nmd} {stp : σ → List Ty → List Ent → List Wht → σ} {go : σ → Bool} {n : Nat} {T T1 : List Ty} {lev : List Ent} {ws : List Wht} {seen : List Int} {s : σ} (h : looksR N T lev lev.length = .ok (T1, ws)) (hl : lev ≠ []) (hg : go (stp s T1 lev ws) = false) : runL N stp go (n + 1) T lev seen s = (stp s T1 lev ws, .ok T1) := by
  unfold runL; rw [h]; simp only; rw [if_neg hl, if_neg (by rw [hg]; decide)]
theorem runL_go {σ : Type} {N : List Nmd} {stp : σ → List Ty → List Ent → List Wht → σ} {go : σ → Bool} {n : Nat} {T T1 : List Ty} {lev : List Ent} {ws : List Wht} {seen : List Int} {s : σ} (h : looksR N T lev lev.length = .ok (T1, ws)) (hl : lev ≠ []) (hg : go (stp s T1 lev ws) = true) : runL N stp go (n + 1) T lev seen s = runL N stp go n T1 (nextL T1 lev ws seen) (seen ++ typs (nextL T1 lev ws seen)) (stp s T1 lev ws) := by
  conv => lhs; unfold runL
  rw [h]; simp only; rw [if_neg hl, if_pos hg]
theorem looks_err {N : List Nmd} {T o : List Ty} {lev : List Ent} {ws : List Wht} {q : Nat} (hq : q < lev.length) (h : looksR N T lev q = .ok (o, ws)) {e : Int} (he : lookR o N lev[q].typ = .error e) : looksR N T lev lev.length = .error e := by
  unfold looksR at h ⊢
  refine stepsN_bad h ?_ hq
  simp only
  rw [Gt default hq, he]
theorem looks_ok {N : List Nmd} {T o o2 : List Ty} {lev : List Ent} {ws : List Wht} {wh : Wht} {q : Nat} (hq : q < lev.length) (h : looksR N T lev q = .ok (o, ws)) (he : lookR o N lev[q].typ = .ok (o2, wh)) : looksR N T lev (q + 1) = .ok (o2, ws ++ [wh]) := by
  unfold looksR at h ⊢
  rw [stepsN_ok h]
  simp only
  rw [Gt default hq, he]
structure Hd1 (N : List Nmd) (T0 T : List Ty) (j : Nat) (lev : List Ent) : Prop where
  right : rightU T N
  pre : T0 <+: T
  lev : levP T j lev
attribute [local irreducible] AC AT AO AK AH ACalls Sub Res.cells Res.obj Res.nix Res.own Res.map Exit.then Exit.inBlock bodyPost Code.wp Code.wpIn WL Next Post Kont
section
variable {W0 : World} {L : List Res} {F : List Fact} {R : Value → List Res → List Fact → Prop}
set_option maxRecDepth 100000
set_option maxHeartbeats 16000000
theorem levels_c {bw : Nat} (i : Int) (h : ∀ b2 b3, R (.func (.func 149) #[] #[.pointer (some ⟨b2, 0, none⟩), .pointer (some ⟨b3, 0, none⟩)]) (Res.cells b3 #[.int .i64 i] 3 :: Res.cells b2 #[.pointer (some ⟨bw, 0, none⟩)] 145 :: L) F) :
    ACalls Tryz.prog W0 91 #[.pointer (some ⟨bw, 0, none⟩), .int .i64 i] L F R := by
  refine Ge Tryz.func91 HU Tryz.ntmps91 HU ?_
  refine qs 2 ?_
  refine Ga (GJ HU HU (fun b2 => (Ga (GJ HU HU (fun b3 => ?_)))))
  refine qs 5 ?_
  refine Ga (Hq HU HU ?_)
  refine qs 4 ?_
  exact Gb Tryz.results91 rfl (Gk _ _) (h b2 b3)
theorem first2_c (g : Glob W0) (T : List Ty) (N : List Nmd) (hno : ∀ n ∈ N, NmOk n) (hu : rightU T N) (i : Int) (h0 : 0 ≤ i) (hi : i < T.length) {a a2 : Option Addr} {k c k2 c2 bw iw : Nat} (hw : L[iw]? = some (Res.cells bw #[.slice a k c, .slice a2 k2 c2, .int .i64 0] 147)) (mL : fL T a k c ∈ F) (mN : fN N a2 k2 c2 ∈ F) (mE : Fact.slc (.slice none 0 0) 5 [] ∈ F)
    (h : ∀ o bad lev a' k' c' a3 k3 c3, (bad ≠ 0 ∧ lev = [] ∧ o = T ∧ firstR T N i = .error bad) ∨ (bad = 0 ∧ firstR T N i = .ok (o, lev)) → R (.slice a3 k3 c3) (L.set iw (Res.cells bw #[.slice a' k' c', .slice a2 k2 c2, .int .i64 bad] 147)) (fL o a' k' c' :: fEn lev a3 k3 c3 :: F)) :
    ACalls Tryz.prog W0 150 #[.pointer (some ⟨bw, 0, none⟩), .int .i64 i] L F R := by
  have hs : Sub L F L (fL T a k c :: fEn [] none 0 0 :: F) := (HG (sz := 4)).trans (Gg (mem1 memA (fun x hx => hx)))
  refine Hr hs (ACalls.out (R' := fun v L' F' => ∃ F'', Sub L' F' L' F'' ∧ R v L' F'') ?_ (fun v L' F' ⟨F'', h1, h2⟩ => ⟨L', F'', h1, h2⟩))
  refine first_c g T N hno hu i h0 hi hw memA memA memA (fun e he hx => ⟨_, Gk _ _, h T e [] a k c none 0 0 (.inl ⟨he, rfl, rfl, hx⟩)⟩) (fun o lev a' k' c' a3 k3 c3 hx => ⟨fL o a' k' c' :: fEn lev a3 k3 c3 :: F, Gg ?_, h o 0 lev a' k' c' a3 k3 c3 (.inr ⟨rfl, hx⟩)⟩)
  exact mem2 memA memA (fun x hx => List.mem_cons_of_mem _ (List.mem_cons_of_mem _ (List.mem_cons_of_mem _ (List.mem_cons_of_mem _ hx))))
theorem levels1_c {σ χ : Type} (g : Glob W0) (N : List Nmd) (hno : ∀ n ∈ N, NmOk n) (T0 : List Ty) (hu : rightU T0 N) (i : Int) (h0 : 0 ≤ i) (hi : i < T0.length)
    (stp : σ → List Ty → List Ent → List Wht → σ) (go : σ → Bool) (J : Nat → σ → Prop) (Lf : σ → χ → List Value → List Res) (s0 : σ) (x0 : χ) {b2 b3 bw i2 i3 iw l : Nat} {a a2 : Option Addr} {k c k2 c2 : Nat}
    (H2 : ∀ s x w, (Lf s x w)[i2]? = some (Res.cells b2 #[.pointer (some ⟨bw, 0, none⟩)] 145)) (H3 : ∀ s x w, (Lf s x w)[i3]? = some (Res.cells b3 #[.int .i64 i] 3))
    (Hw : ∀ s x w, (Lf s x w)[iw]? = some (Res.cells bw w.toArray 147)) (HS : ∀ s x w w', (Lf s x w).set iw (Res.cells bw w'.toArray 147) = Lf s x w')
    (hJ0 : J 0 s0) (hJ : ∀ n s T lev ws, J n s → n < 7 → rightU T N → levP T n lev → ws.length = lev.length → (∀ w ∈ ws, whP T w) → go (stp s T lev ws) = true → J (n + 1) (stp s T lev ws))
    (mL : fL T0 a k c ∈ F) (mN : fN N a2 k2 c2 ∈ F) (mE : Fact.slc (.slice none 0 0) 5 [] ∈ F) (mM : Fact.slc (.slice none 0 0) 3 [] ∈ F)
    (hy : ∀ n s x T a k c lev ws a3 k3 c3 a4 k4 c4 A F', J n s → n < 7 → rightU T N → levP T n lev → ws.length = lev.length → (∀ w ∈ ws, whP T w) → fL T a k c ∈ F' → fEn lev a3 k3 c3 ∈ F' → fWh ws a4 k4 c4 ∈ F' →
      AYields Tryz.prog W0 l #[.slice a3 k3 c3, .slice a4 k4 c4] (A ++ Lf s x (wCells a k c a2 k2 c2 0)) F' fun v L' F'' => ∃ x', v = .bool (go (stp s T lev ws)) ∧ L' = A ++ Lf (stp s T lev ws) x' (wCells a k c a2 k2 c2 0) ∧ F'' = F')
    (hR : ∀ s' x' T' e a k c, (e ≠ 0 ∧ levelsL N stp go T0 i s0 = (s', .error e)) ∨ (e = 0 ∧ levelsL N stp go T0 i s0 = (s', .ok T')) → R (.tuple #[]) (Lf s' x' (wCells a k c a2 k2 c2 e)) (fL T' a k c :: F)) :
    ACalls Tryz.prog W0 149 #[.func (.yield l) #[] #[], .pointer (some ⟨b2, 0, none⟩), .pointer (some ⟨b3, 0, none⟩)] (Lf s0 x0 (wCells a k c a2 k2 c2 0)) F R := by
  have hml : 1000000 ≤ maxLen := by decide
  refine Ge Tryz.func149 HU Tryz.ntmps149 HU ?_
  refine qs 2 ?_
  refine Ga (Gw HU HU ?_ (hi := H2 _ _ _) (hv := HU))
  refine Ga (Gw HU HU ?_ (hi := H3 _ _ _) (hv := HU))
  refine Ga (Gd HU HU (first2_c g T0 N hno hu i h0 hi (Hw s0 x0 (wCells a k c a2 k2 c2 0)) memA memA memA (fun T1 bad lev a1 k1 c1 a3 k3 c3 hf => ?_)))
  rw [HS s0 x0 _ (wCells a1 k1 c1 a2 k2 c2 bad)]
  have hlv : rightU T1 N ∧ T0 <+: T1 ∧ levP T1 0 lev := by
   rcases hf with ⟨_, rfl, rfl, _⟩ | ⟨_, hx⟩
   · exact ⟨hu, List.prefix_rfl, fun e he => absurd he (by simp), by simp [typs]⟩
   exact firstR_ok hu h0 hi hx
  have hstart : (bad = 0 ∧ levelsL N stp go T0 i s0 = runL N stp go 7 T1 lev (typs lev) s0) ∨ (bad ≠ 0 ∧ lev = [] ∧ levelsL N stp go T0 i s0 = (s0, .error bad)) := by
   rcases hf with ⟨h1, h2, _, hx⟩ | ⟨h1, hx⟩
   · exact .inr ⟨h1, h2, by unfold levelsL; rw [hx]⟩
   exact .inl ⟨h1, by unfold levelsL; rw [hx]⟩
  clear hf
  refine qs 5 ?_
  have hlf := hlv.2.2.few
  have hT4 := hlv.1.1.2.1
  refine Ga (AO.makeMap vI Value.bool HU (fun b14 => ?_))
  refine qs 7 ?_
  refine Ga (Gv HU HU (fun hl16 => ?_) (enc := eEn) (lst := lev) (hm := memA))
  refine qs 4 ?_
  refine GN (fun (x : Nat × (Int → Option Bool)) => x.1 ≤ lev.length ∧ seenP (typs (lev.take x.1)) x.2) (fun x => [(0, .func (.yield l) #[] #[]), (1, .pointer (some ⟨b2, 0, none⟩)), (4, .slice a3 k3 c3), (5, .map (some b14)), (15, .slice a3 k3 c3), (16, .int .i64 lev.length), (17, .int .i64 (x.1 : Int))]) (fun x => Res.map b14 vI Value.bool x.2 :: _) (fun _ => _) (fun x => lev.length - x.1) (0, fun _ => none) ⟨Nat.zero_le _, by simpa [typs] using seen_nil⟩ srA (Gk _ _) ?_
  rintro ⟨v, mv⟩ ⟨hv, hmv⟩
  simp only at hv hmv ⊢
  refine qs 2 ?_
  refine Ga (GB HU HU HU (fun c18 => ?_) (fun c18 => ?_))
  ·refine qs 10 ?_
   have hvl : v < lev.length := by omega
   refine Ga (Gj HU HU HU HU (enc := eEn) (lst := lev) memA hvl (fun _ _ => ?_))
   refine Ga (GU HU HU ?_)
   intro a20 k20 z20
   refine Ga (Gq HU (fun b7 => ?_))
   refine qs 7 ?_
   refine Ga (Hi (kenc := vI) (venc := Value.bool) (m := mv) (i := 1) lev[v].typ true HU HU HU HU ?_)
   refine qs 7 ?_
   exact Gl (v + 1, upd mv lev[v].typ true) ⟨by simp only; omega, by
    have := seen_new hmv lev[v].typ
    rwa [show typs (lev.take v) ++ [lev[v].typ] = typs (lev.take (v + 1)) by unfold typs; rw [List.take_succ_eq_append_getElem hvl, List.map_append]; rfl] at this⟩ (by simp only; omega) srA (Sub.drop.trans subF)
  refine qs 15 ?_
  obtain rfl : v = lev.length := by omega
  rw [List.take_length] at hmv
  refine GN (fun (x : Nat × ((σ × χ) × List Ty × Int) × (List Ent × List Int × (Int → Option Bool)) × (Option Addr × Nat × Nat) × (Option Addr × Nat × Nat)) => x.1 ≤ 7 ∧ Hd1 N T0 x.2.1.2.1 x.1 x.2.2.1.1 ∧ seenP x.2.2.1.2.1 x.2.2.1.2.2 ∧ J x.1 x.2.1.1.1 ∧ ((x.2.1.2.2 = 0 ∧ levelsL N stp go T0 i s0 = runL N stp go (7 - x.1) x.2.1.2.1 x.2.2.1.1 x.2.2.1.2.1 x.2.1.1.1) ∨ (x.2.1.2.2 ≠ 0 ∧ x.1 = 0 ∧ x.2.2.1.1 = [] ∧ levelsL N stp go T0 i s0 = (x.2.1.1.1, .error x.2.1.2.2)))) (fun x => [(0, .func (.yield l) #[] #[]), (1, .pointer (some ⟨b2, 0, none⟩)), (4, .slice x.2.2.2.2.1 x.2.2.2.2.2.1 x.2.2.2.2.2.2), (5, .map (some b14)), (25, .int .i64 (x.1 : Int))]) (fun x => Res.map b14 vI Value.bool x.2.2.1.2.2 :: Lf x.2.1.1.1 x.2.1.1.2 (wCells x.2.2.2.1.1 x.2.2.2.1.2.1 x.2.2.2.1.2.2 a2 k2 c2 x.2.1.2.2)) (fun x => fL x.2.1.2.1 x.2.2.2.1.1 x.2.2.2.1.2.1 x.2.2.2.1.2.2 :: fEn x.2.2.1.1 x.2.2.2.2.1 x.2.2.2.2.2.1 x.2.2.2.2.2.2 :: F) (fun x => 7 - x.1) (0, ((s0, x0), T1, bad), (lev, typs lev, mv), (a1, k1, c1), (a3, k3, c3)) ⟨Nat.zero_le _, ⟨hlv.1, hlv.2.1, hlv.2.2⟩, hmv, hJ0, by rcases hstart with h | ⟨h1, h2, h3⟩; exact .inl h; exact .inr ⟨h1, rfl, h2, h3⟩⟩ srA (Gg (mem2 memA memA (fun x hx => by repeat (first | exact hx | refine List.mem_cons_of_mem _ ?_)))) ?_
  clear hstart hlv hlf hT4 hmv hl16 hv
  rintro ⟨j, ⟨⟨s, xx⟩, T, bd⟩, ⟨le, seen, m⟩, ⟨a5, k5, c5⟩, ⟨a6, k6, c6⟩⟩ ⟨hj, hd, hm, hjs, hrel⟩
  simp only at hj hd hm hjs hrel ⊢
  refine qs 2 ?_
  refine Ga (GB HU HU HU (fun c26 => ?_) (fun c26 => ?_))
  ·refine qs 17 ?_
   have hlf := hd.lev.few
   have hT4 := hd.right.1.2.1
   have hj7 : j < 7 := by omega
   refine Ga (Gv HU HU (fun hl28 => ?_) (enc := eEn) (lst := le) (hm := memA))
   refine qs 4 ?_
   have herr : ∀ e, looksR N T le le.length = .error e → bd = 0 → levelsL N stp go T0 i s0 = (s, .error e) := fun e he hb => by
    rcases hrel with ⟨_, h⟩ | ⟨h, _⟩
    · rw [h, show 7 - j = (6 - j) + 1 by omega, runL_err he]
    exact absurd hb h
   refine GN (fun (x : Nat × (List Ty × Int × List Wht) × (Option Addr × Nat × Nat) × (Option Addr × Nat × Nat)) => x.1 ≤ le.length ∧ x.2.1.2.2.length ≤ x.1 ∧ ((x.2.1.2.1 = 0 ∧ bd = 0 ∧ looksR N T le x.1 = .ok (x.2.1.1, x.2.1.2.2)) ∨ (x.2.1.2.1 ≠ 0 ∧ levelsL N stp go T0 i s0 = (s, .error x.2.1.2.1)))) (fun x => [(0, .func (.yield l) #[] #[]), (1, .pointer (some ⟨b2, 0, none⟩)), (4, .slice a6 k6 c6), (5, .map (some b14)), (8, .slice x.2.2.2.1 x.2.2.2.2.1 x.2.2.2.2.2), (25, .int .i64 (j : Int)), (27, .slice a6 k6 c6), (28, .int .i64 le.length), (29, .int .i64 (x.1 : Int))]) (fun x => Res.own (.slice x.2.2.2.1 x.2.2.2.2.1 x.2.2.2.2.2) 154 2 (x.2.1.2.2.map eWh) :: Res.map b14 vI Value.bool m :: Lf s xx (wCells x.2.2.1.1 x.2.2.1.2.1 x.2.2.1.2.2 a2 k2 c2 x.2.1.2.1)) (fun x => fL x.2.1.1 x.2.2.1.1 x.2.2.1.2.1 x.2.2.1.2.2 :: fEn le a6 k6 c6 :: F) (fun x => le.length - x.1) (0, (T, bd, []), (a5, k5, c5), (none, 0, 0)) ⟨Nat.zero_le _, Nat.le_refl _, by simp only; rcases hrel with ⟨h1, h2⟩ | ⟨h1, _, _, h4⟩; exact .inl ⟨h1, h1, rfl⟩; exact .inr ⟨h1, h4⟩⟩ srA Ha ?_
   rintro ⟨q, ⟨o, be, ws⟩, ⟨a7, k7, c7⟩, ⟨a8, k8, c8⟩⟩ ⟨hq, hwl, hst⟩
   simp only at hq hwl hst ⊢
   refine qs 2 ?_
   refine Ga (GB HU HU HU (fun c30 => ?_) (fun c30 => ?_))
   ·refine qs 10 ?_
    have hql : q < le.length := by omega
    refine Ga (Gj HU HU HU HU (enc := eEn) (lst := le) memA hql (fun _ _ => ?_))
    refine Ga (GU HU HU ?_)
    intro a32 k32 z32
    refine Ga (Gq HU (fun b10 => ?_))
    refine qs 5 ?_
    refine Ga (Gw HU HU ?_ (hi := hasS (hasS (hasS (H2 _ _ _)))) (hv := HU))
    refine Ga (Gu HU HU ?_)
    refine qs 1 ?_
    refine Ga (Gw (cs := wCells a7 k7 c7 a2 k2 c2 be) HU HU ?_ (hi := hasS (hasS (hasS (Hw _ _ _)))) (hv := HU))
    refine Ga (GC HU HU HU (fun c37 => ?_) (fun c37 => ?_))
    ·refine qs 5 ?_
     refine Ga (Gw HU HU ?_ (hi := hasS (hasS (hasS (H2 _ _ _)))) (hv := HU))
     refine qs 2 ?_
     obtain ⟨_, hb0, hlk⟩ : be = 0 ∧ bd = 0 ∧ looksR N T le q = .ok (o, ws) := by rcases hst with h | ⟨h, _⟩; exact h; exact absurd c37 h
     subst c37
     obtain ⟨hro, hpo, hlw, hww⟩ := looksR_ok hd.right hd.lev q hq o ws hlk
     have hle := (hd.lev.1 _ (List.getElem_mem hql)).1
     have hpl := hpo.length_le
     refine Ga (Gd HU HU (look_c g o N hno hro le[q].typ hle.1 HW (hasS (hasS (hasS (Hw s xx (wCells a7 k7 c7 a2 k2 c2 0))))) memA memA memA memA (fun e he hx => ?_) (fun o2 wh a42 k42 c42 a43 k43 c43 hx => ?_)))
     ·refine Gz (Hn (show _ = _ :: _ :: _ :: Lf s xx (wCells a7 k7 c7 a2 k2 c2 e) from by show _ :: _ :: _ :: (Lf s xx _).set iw _ = _; rw [HS])) ?_
      refine Ga (Gi HU HU HU HU HU (fun b43 => ?_))
      refine Ga (GZ (i := 1) (enc := eWh) (lst := ws) [⟨0, []⟩] HU HU HU HU (.val (.slc .nil memA)) HU HU (fun _ => rfl) HW HW (fun a44 k44 c44 => ?_))
      refine qs 8 ?_
      exact Gl (q + 1, (o, e, ws ++ [⟨0, []⟩]), (a7, k7, c7), (a44, k44, c44)) ⟨by simp only; omega, by simp; omega, .inr ⟨he, herr e (looks_err hql hlk hx) hb0⟩⟩ (by simp only; omega) srA (Sub.drop.trans (Gg (mem2 memA memA (fun x hx => by repeat (first | exact hx | refine List.mem_cons_of_mem _ ?_)))))
     refine Gz (Hn (show _ = _ :: _ :: _ :: Lf s xx (wCells a42 k42 c42 a2 k2 c2 0) from by show _ :: _ :: _ :: (Lf s xx _).set iw _ = _; rw [HS])) ?_
     refine Ga (Gi HU HU HU HU HU (fun b43 => ?_))
     refine Ga (GZ (i := 1) (enc := eWh) (lst := ws) [wh] HU HU HU HU (.val (.slc .nil memA)) HU HU (fun _ => rfl) HW HW (fun a44 k44 c44 => ?_))
     refine qs 8 ?_
     exact Gl (q + 1, (o2, 0, ws ++ [wh]), (a42, k42, c42), (a44, k44, c44)) ⟨by simp only; omega, by simp; omega, .inl ⟨rfl, hb0, looks_ok hql hlk hx⟩⟩ (by simp only; omega) srA (Sub.drop.trans (Gg (mem2 memA memA (fun x hx => by repeat (first | exact hx | refine List.mem_cons_of_mem _ ?_)))))
    refine qs 10 ?_
    refine Gl (q + 1, (o, be, ws), (a7, k7, c7), (a8, k8, c8)) ⟨by simp only; omega, by simp only; omega, ?_⟩ (by simp only; omega) srA (Sub.drop.trans (Gg (mem2 memA memA (fun x hx => by repeat (first | exact hx | refine List.mem_cons_of_mem _ ?_)))))
    rcases hst with ⟨h, _⟩ | h
    · exact absurd h c37
    exact .inr h
   refine qs 12 ?_
   refine Ga (Gw HU HU ?_ (hi := hasS (hasS (H2 _ _ _))) (hv := HU))
   refine Ga (Gu HU HU ?_)
   refine qs 1 ?_
   refine Ga (Gw (cs := wCells a7 k7 c7 a2 k2 c2 be) HU HU ?_ (hi := hasS (hasS (Hw _ _ _))) (hv := HU))
   obtain rfl : q = le.length := by omega
   refine Ga (GK HU HU HU (fun c50 => ?_) (fun c50 => ?_))
   ·refine qs 21 ?_
    have hst2 : levelsL N stp go T0 i s0 = (s, .error be) := by rcases hst with ⟨h, _⟩ | ⟨_, h⟩; exact absurd h c50; exact h
    exact AK.ret0 (L' := Lf s xx (wCells a7 k7 c7 a2 k2 c2 be)) (F' := fL o a7 k7 c7 :: F) Tryz.results149 (Sub.drop.trans (Sub.drop.trans (Gg (mem1 memA (fun x hx => by repeat (first | exact hx | refine List.mem_cons_of_mem _ ?_)))))) (hR s xx o be a7 k7 c7 (.inl ⟨c50, hst2⟩))
   refine qs 2 ?_
   subst c50
   obtain ⟨_, hb0, hlk⟩ : (0 : Int) = 0 ∧ bd = 0 ∧ looksR N T le le.length = .ok (o, ws) := by rcases hst with h | ⟨h, _⟩; exact h; exact absurd rfl h
   obtain ⟨hro, hpo, hlw, hww⟩ := looksR_ok hd.right hd.lev _ (Nat.le_refl _) o ws hlk
   have hrun : levelsL N stp go T0 i s0 = runL N stp go (6 - j + 1) T le seen s := by
    rcases hrel with ⟨_, h⟩ | ⟨h, _⟩
    · rw [h, show 7 - j = (6 - j) + 1 by omega]
    exact absurd hb0 h
   refine Gh HU HU (Gv HU HU (fun hl53 => ?_) (enc := eEn) (lst := le) (hm := memA))
   refine Gh HU HU (GC HU HU HU (fun c54 => ?_) (fun c54 => ?_))
   ·refine qs 17 ?_
    have hle : le = [] := List.eq_nil_of_length_eq_zero HW
    subst hle
    injection hlk with e1
    injection e1 with e1 e2
    subst e1
    exact AK.ret0 (L' := Lf s xx (wCells a7 k7 c7 a2 k2 c2 0)) (F' := fL T a7 k7 c7 :: F) Tryz.results149 (Sub.drop.trans (Sub.drop.trans (Gg (mem1 memA (fun x hx => by repeat (first | exact hx | refine List.mem_cons_of_mem _ ?_)))))) (hR s xx T 0 a7 k7 c7 (.inr ⟨rfl, by rw [hrun, runL_nil]⟩))
   refine qs 5 ?_
   have hle : le ≠ [] := fun e => by subst e; exact c54 rfl
   refine Gz (GH (i := 0) HU) ?_
   refine Gh HU HU (AO.yield HU HU HU ?_)
   refine AYields.mono (hy j s xx o a7 k7 c7 le ws a6 k6 c6 a8 k8 c8 [Res.nix, Res.map b14 vI Value.bool m] _ hjs hj7 hro (hd.lev.up hpo) hlw hww memA memA memA) (fun v9 L9 F9 h9 => ?_)
   obtain ⟨x9, rfl, rfl, rfl⟩ := h9
   rcases Bool.eq_false_or_eq_true (go (stp s o le ws)) with hgo | hgo
   all_goals rw [hgo]
   ·refine qs 8 ?_
    refine Ga (Gw HU HU ?_ (hi := hasS (hasS (H2 _ _ _))) (hv := HU))
    refine qs 3 ?_
    refine Ga (Gd HU HU (next_c o hro.1 j HW le ws (hd.lev.up hpo) hlw hww seen m hm (is := 1) (hasS (hasS (Hw (stp s o le ws) x9 (wCells a7 k7 c7 a2 k2 c2 0)))) HU memA memA memA (fun m9 a67 k67 c67 hm9 => ?_)))
    refine qs 8 ?_
    exact Gl (j + 1, ((stp s o le ws, x9), o, 0), (nextL o le ws seen, seen ++ typs (nextL o le ws seen), m9), (a7, k7, c7), (a67, k67, c67)) ⟨by simp only; omega, ⟨hro, hd.pre.trans hpo, nextL_ok hro.1 (hd.lev.up hpo) hlw hww⟩, hm9, hJ j s o le ws hjs hj7 hro (hd.lev.up hpo) hlw hww hgo, .inl ⟨rfl, by rw [hrun, runL_go hlk hle hgo, show 6 - j = 7 - (j + 1) by omega]⟩⟩ (by simp only; omega) srA (Sub.drop.trans (Gg (mem2 memA memA (fun x hx => by repeat (first | exact hx | refine List.mem_cons_of_mem _ ?_)))))
   refine qs 11 ?_
   exact AK.ret0 (L' := Lf (stp s o le ws) x9 (wCells a7 k7 c7 a2 k2 c2 0)) (F' := fL o a7 k7 c7 :: F) Tryz.results149 (Sub.drop.trans (Sub.drop.trans (Gg (mem1 memA (fun x hx => by repeat (first | exact hx | refine List.mem_cons_of_mem _ ?_)))))) (hR (stp s o le ws) x9 o 0 a7 k7 c7 (.inr ⟨rfl, by rw [hrun, runL_stop hlk hle hgo]⟩))
  refine qs 8 ?_
  obtain rfl : j = 7 := by omega
  obtain ⟨hb0, hfin⟩ : bd = 0 ∧ levelsL N stp go T0 i s0 = (s, .ok T) := by
   rcases hrel with ⟨h1, h2⟩ | ⟨_, h, _⟩
   · exact ⟨h1, h2⟩
   omega
  subst hb0
  exact AK.end0 (L' := Lf s xx (wCells a5 k5 c5 a2 k2 c2 0)) (F' := fL T a5 k5 c5 :: F) Tryz.results149 (Sub.drop.trans (Gg (mem1 memA (fun x hx => by repeat (first | exact hx | refine List.mem_cons_of_mem _ ?_))))) (hR s xx T 0 a5 k5 c5 (.inr ⟨rfl, hfin⟩))
end
end Go.Sy
namespace Go.Sy
open Go Go.Proofs Go.RowKit
theorem wh_cells {hx : H} {b o : Nat} {w : Wht} (hat : AtR hx b o (eWh w)) : ∃ a1 k1 c1, (∀ (j : Nat) (v : Value), [Value.int .i64 w.under, .slice a1 k1 c1][j]? = some v → hx b (o + j) = some v) ∧ (fMs w.ms a1 k1 c1).holds hx := by
  obtain ⟨vs, fs, _, h1, h2, a1, k1, c1, rfl, rfl⟩ := absorb_of (eWh w) o hat (fun vs fs => ∃ a1 k1 c1, vs = [Value.int .i64 w.under, .slice a1 k1 c1] ∧ fs = [fMs w.ms a1 k1 c1]) (by
    intro a1 k1 c1
    exact ⟨a1, k1, c1, rfl, rfl⟩)
  exact ⟨a1, k1, c1, h1, h2 _ (by simp)⟩
theorem sl_cells {hx : H} {b o : Nat} {s : SelV} (hat : AtR hx b o (eSl s)) : ∃ a1 k1 c1, (∀ (j : Nat) (v : Value), [Value.bool s.method, .int .i64 s.typ, .bool s.ptr, .bool s.via, .slice a1 k1 c1][j]? = some v → hx b (o + j) = some v) ∧ (fI s.path a1 k1 c1).holds hx := by
  obtain ⟨vs, fs, _, h1, h2, a1, k1, c1, rfl, rfl⟩ := absorb_of (eSl s) o hat (fun vs fs => ∃ a1 k1 c1, vs = [Value.bool s.method, .int .i64 s.typ, .bool s.ptr, .bool s.via, .slice a1 k1 c1] ∧ fs = [fI s.path a1 k1 c1]) (by
    intro a1 k1 c1
    exact ⟨a1, k1, c1, rfl, rfl⟩)
  exact ⟨a1, k1, c1, h1, h2 _ (by simp)⟩
theorem found_step {T : List Ty} {lev : List Ent} {ws : List Wht} {s : List UInt8} {q : Nat} (hq : q < lev.length) (hw : q < ws.length) : foundN T lev ws s (q + 1) = foundN T lev ws s q ++ hadE T ws[q] lev[q] s := by
  simp only [foundN]; rw [Gt default hw, Gt default hq]
theorem tell_two {T : List Ty} {l : List SelV} (h : 1 < l.length) : tellF (l, .ok T) = .error 9 := by
  match l, h with
  | _ :: _ :: _, _ => rfl
attribute [local irreducible] AC AT AO AK AH ACalls Sub Res.cells Res.obj Res.nix Res.own Res.map Exit.then Exit.inBlock bodyPost bodyPostM roundPost Begin AYields Code.wp Code.wpIn WL Next Post Kont
section
variable {W0 : World} {L : List Res} {F : List Fact} {R : Value → List Res → List Fact → Prop}
set_option maxRecDepth 100000
set_option maxHeartbeats 16000000
theorem sfind_c (g : Glob W0) (T : List Ty) (N : List Nmd) (hno : ∀ n ∈ N, NmOk n) (hu : rightU T N) (i : Int) (h0 : 0 ≤ i) (hi : i < T.length) (s : List UInt8) {a a2 : Option Addr} {k c k2 c2 : Nat} (mL : fL T a k c ∈ F) (mN : fN N a2 k2 c2 ∈ F) (mE : Fact.slc (.slice none 0 0) 5 [] ∈ F) (mM : Fact.slc (.slice none 0 0) 3 [] ∈ F)
    (hE : ∀ e, e ≠ 0 → findR N T i s = .error e → R (.tuple #[.agg #[.slice none 0 0, .slice none 0 0], vSl ⟨false, 0, false, false, []⟩ none 0 0, .int .i64 e]) L F)
    (hO : ∀ o x a k c a5 k5 c5, findR N T i s = .ok (o, x) → R (.tuple #[.agg #[.slice a k c, .slice a2 k2 c2], vSl x a5 k5 c5, .int .i64 0]) L (fL o a k c :: fI x.path a5 k5 c5 :: F)) :
    ACalls Tryz.prog W0 61 #[.agg #[.slice a k c, .slice a2 k2 c2], .int .i64 i, S s] L F R := by
  have hml : 1000000 ≤ maxLen := by decide
  refine ACalls.bodyM Tryz.func61 HU Tryz.ntmps61 HU ?_
  refine qs 2 ?_
  refine Ga (GJ HU HU (fun b3 => (Ga (GJ HU HU (fun b5 => (Ga (Gq HU (fun b6 => ?_))))))))
  refine Ga (Gq HU (fun b7 => ?_))
  refine qs 6 ?_
  refine Ga (GI HU HU HU (Ga (GJ HU HU (fun b17 => (Ga (Gq HU (fun b9 => ?_)))))))
  refine qs 5 ?_
  refine Ga (Gq HU (fun b10 => ?_))
  refine qs 7 ?_
  refine Gz (Ha (e := 47) (sz := 5)) ?_
  refine Ga (Gd HU HU (levels_c i (fun c2 c3 => ?_)))
  refine qs 3 ?_
  refine AC.rangeFunc HU (fun fn tm l D hsl => ?_)
  generalize hrec : recL fn tm [21, 22] _ _ D = rec
  refine Hr (Gk _ _) (levels1_c (σ := List SelV) (χ := Option Addr × Nat × Nat) g N hno T hu i h0 hi (stpF s) List.isEmpty (fun _ s => s = []) (fun s1 x w => Res.obj l (rec (bif s1.isEmpty then .ready else .done) (bif s1.isEmpty then none else some (.exit 0))) :: Res.obj D dfr :: Res.cells c3 #[.int .i64 i] 3 :: Res.cells c2 #[.pointer (some ⟨b17, 0, none⟩)] 145 :: Res.own (.slice x.1 x.2.1 x.2.2) 47 5 (s1.map eSl) :: Res.cells b10 #[.slice x.1 x.2.1 x.2.2] 105 :: Res.cells b9 #[.pointer (some ⟨b17, 0, none⟩)] 145 :: Res.cells b17 w.toArray 147 :: _) [] (none, 0, 0) (i2 := 3) (i3 := 2) (iw := 7) (fun _ _ _ => rfl) (fun _ _ _ => rfl) (fun _ _ _ => rfl) (fun _ _ _ _ => rfl) HU (fun n s1 T1 lev ws hs hn hr hl hw hws hgo => List.isEmpty_iff.1 hgo) memA memA memA memA (fun n s1 x T1 a1 k1 c1 lev ws a3 k3 c3 a4 k4 c4 A F1 hs hn hr hl hw hws m1 m2 m3 => ?_) (fun s1 x T1 e a1 k1 c1 he => ?_))
  ·subst hs
   subst hrec
   obtain ⟨a9, k9, c9⟩ := x
   refine AYields.swap ?_
   refine AYields.round (i := 0) (ps := [21, 22]) HU HU hsl HU ?_
   simp only [binds]
   refine qs 8 ?_
   refine AK.begin (i := 0) HU ?_
   refine qs 5 ?_
   have hlf := hl.few
   have hT4 := hr.1.2.1
   refine Ga (Gv HU HU (fun hl24 => ?_) (enc := eEn) (lst := lev) (hm := memA))
   refine qs 4 ?_
   refine GN (fun (v : Nat × Option Addr × Nat × Nat) => v.1 ≤ lev.length) (fun v => [(5, .pointer (some ⟨b5, 0, none⟩)), (9, .pointer (some ⟨b9, 0, none⟩)), (10, .pointer (some ⟨b10, 0, none⟩)), (11, .slice a3 k3 c3), (12, .slice a4 k4 c4), (23, .slice a3 k3 c3), (24, .int .i64 lev.length), (25, .int .i64 (v.1 : Int))]) (fun v => _ :: _ :: _ :: _ :: Res.own (.slice v.2.1 v.2.2.1 v.2.2.2) 47 5 ((foundN T1 lev ws s v.1).map eSl) :: Res.cells b10 #[.slice v.2.1 v.2.2.1 v.2.2.2] 105 :: _) (fun _ => _) (fun v => lev.length - v.1) (0, a9, k9, c9) (Nat.zero_le _) srA (Gk _ _) ?_
   rintro ⟨v, a8, k8, c8⟩ hv
   simp only at hv ⊢
   refine qs 2 ?_
   refine Ga (GB HU HU HU (fun c26 => ?_) (fun c26 => ?_))
   ·refine qs 11 ?_
    have hvl : v < lev.length := by omega
    have hvw : v < ws.length := by omega
    have hpt := (hl.1 _ (List.getElem_mem hvl)).2
    have hwv := hws _ (List.getElem_mem hvw)
    refine Ga (Gj HU HU HU HU (enc := eEn) (lst := lev) memA hvl (fun _ _ => ?_))
    refine Ga (GU HU HU ?_)
    intro a29 k29 z29
    refine Ga (Gq HU (fun b14 => ?_))
    refine qs 4 ?_
    refine GO (fun i => Nat.beq i 10) [(b10, _, _), (b9, _, _), (b14, _, _), (b5, _, _)] bxA HU (fun hx hX => ?_)
    have hk4 := (Gy (hX (fWh ws a4 k4 c4) memA)).1
    obtain ⟨p1, o1, e1, at1⟩ := GG (hX (fWh ws a4 k4 c4) memA) hvw
    subst e1
    obtain ⟨aw, kw, cw, hv1, hw1⟩ := wh_cells at1
    refine Hv hw1 memA ?_
    refine qt [0, 1, 2, 3, 4] ?_
    refine GF (i := 5) HU (GM (k := v) HU HU HU HW) HV HU HU ?_
    refine GV (i := 6) HU (HJ HU HU hv1) HV HV HU HU HU ?_
    refine qt [7] ?_
    refine Gf (i := 8) HV HU HU (fun _ => ?_)
    refine Gd HU HU (had_c T1 hr.1 ws[v] hwv lev[v] HW s (iw := 8) HU (show fL T1 a1 k1 c1 ∈ _ from memA) (show fI lev[v].path _ _ _ ∈ _ from memA) (show fMs ws[v].ms aw kw cw ∈ _ from memA) (fun a38 k38 c38 => ?_))
    refine Gc bxA memB ?_
    have h80 := foundN_len hr.1 hw hws (s := s) v hv
    have h81 := hadE_len hr.1 hwv (e := lev[v]) (s := s)
    have hv400 : v * 80 ≤ 32000 := by omega
    refine Gf (i := 9) HV HU HU (fun _ => ?_)
    refine Gx (i := 5) (enc := eSl) (lst := foundN T1 lev ws s v) (lst2 := hadE T1 ws[v] lev[v] s) HU HU HU HU memA eSl_one (fun _ => rfl) HW HW (fun a39 k39 c39 => ?_)
    rw [← found_step hvl hvw]
    refine Gc bxA memB ?_
    refine Gf (i := 10) HV HU HU (fun _ => ?_)
    refine Gs HU HU HU ?_
    refine Gr HU ?_
    refine Gm HV ?_
    refine qs 6 ?_
    exact Gl (v + 1, a39, k39, c39) (by simp only; omega) (by simp only; omega) srA (Sub.drop.trans subF)
   refine qs 12 ?_
   obtain rfl : v = lev.length := by omega
   refine Ga (AO.lenO (i := 4) HU HU HU (fun hk42 => ?_))
   rw [List.length_map]
   refine Ga (AO.gtr HU HU HU (fun c43 => ?_) (fun c43 => ?_))
   ·refine qs 5 ?_
    have hem : (stpF s [] T1 lev ws).isEmpty = false := by
     unfold stpF
     rw [List.nil_append]
     cases hf : foundN T1 lev ws s lev.length with
     | nil => rw [hf] at c43; simp at c43
     | cons y ys => rfl
    refine AK.roundX (i := 0) (F' := F1) subF rfl ⟨_, ?_, (a8, k8, c8), ?_, rfl, rfl⟩
    · simp only [hem, cond_false]; rfl
    rw [hem]
   refine qs 5 ?_
   have hem : (stpF s [] T1 lev ws).isEmpty = true := by
    have : foundN T1 lev ws s lev.length = [] := List.eq_nil_of_length_eq_zero HW
    unfold stpF; rw [this]; rfl
   refine AK.roundN (i := 0) (F' := F1) subF rfl ⟨_, ?_, (a8, k8, c8), ?_, rfl, rfl⟩
   · simp only [hem, cond_true]; rfl
   rw [hem]
  obtain ⟨a9, k9, c9⟩ := x
  simp only
  rcases s1 with _ | ⟨y, ys⟩
  ·refine Or.inl ⟨0, by subst hrec; rfl, ?_⟩
   refine qs 7 ?_
   refine Ga (Gu HU HU ?_)
   refine qs 2 ?_
   refine Ga (GK HU HU HU (fun c49 => ?_) (fun c49 => ?_))
   ·refine qs 5 ?_
    refine GO (fun _ => false) [(b9, _, _), (b17, _, _)] bxA HU (fun hx hX => ?_)
    refine qt [0, 1, 2, 3, 4, 5] ?_
    refine Gf (i := 6) HV HU HU (fun _ => ?_)
    refine GA HU HU HU HU ?_
    refine Gc bxA memB ?_
    refine Gf (i := 7) HV HU HU (fun _ => ?_)
    refine GA HU HU HU HU ?_
    refine Gc bxA memB ?_
    refine qt [8] ?_
    refine Gm HV ?_
    refine qs 4 ?_
    have hf : findR N T i s = .error e := by rcases he with ⟨_, h⟩ | ⟨h, _⟩; (unfold findR; rw [h]; rfl); exact absurd h c49
    exact AK.unmark (i := 1) rfl (GS (rs := [.cell 6 _, .cell 7 _, .tmp 8]) (L' := L) (F' := F) Tryz.results61 (.agg (j := 9) rfl rfl rfl (.agg (j := 8) rfl rfl rfl (.tmp rfl .nil))) subA (hE e c49 hf))
   refine qs 7 ?_
   have hlev : levelsL N (stpF s) List.isEmpty T i [] = ([], .ok T1) := by rcases he with ⟨h, _⟩ | ⟨_, h⟩; exact absurd c49 h; exact h
   refine Ga (AO.lenO (i := 4) HU HU HU (fun hk58 => ?_))
   rw [List.length_map]
   refine Ga (GC HU HU HU (fun c59 => ?_) (fun c59 => absurd HU c59))
   refine qs 16 ?_
   exact AK.unmark (i := 1) rfl (GS (rs := [.cell 6 _, .cell 7 _, .tmp 8]) (L' := L) (F' := F) Tryz.results61 (.agg (j := 9) rfl rfl rfl (.agg (j := 8) rfl rfl rfl (.tmp rfl .nil))) subA (hE 8 (by decide) (by unfold findR; rw [hlev]; rfl)))
  refine Or.inr ⟨0, .exit 0, by subst hrec; rfl, ?_⟩
  refine qs 8 ?_
  refine Ga (Gu HU HU ?_)
  refine qs 2 ?_
  refine Ga (GK HU HU HU (fun c49 => ?_) (fun c49 => ?_))
  ·refine qs 5 ?_
   refine GO (fun _ => false) [(b9, _, _), (b17, _, _)] bxA HU (fun hx hX => ?_)
   refine qt [0, 1, 2, 3, 4, 5] ?_
   refine Gf (i := 6) HV HU HU (fun _ => ?_)
   refine GA HU HU HU HU ?_
   refine Gc bxA memB ?_
   refine Gf (i := 7) HV HU HU (fun _ => ?_)
   refine GA HU HU HU HU ?_
   refine Gc bxA memB ?_
   refine qt [8] ?_
   refine Gm HV ?_
   refine qs 4 ?_
   have hf : findR N T i s = .error e := by rcases he with ⟨_, h⟩ | ⟨h, _⟩; (unfold findR; rw [h]; rfl); exact absurd h c49
   exact AK.unmark (i := 1) rfl (GS (rs := [.cell 6 _, .cell 7 _, .tmp 8]) (L' := L) (F' := F) Tryz.results61 (.agg (j := 9) rfl rfl rfl (.agg (j := 8) rfl rfl rfl (.tmp rfl .nil))) subA (hE e c49 hf))
  refine qs 7 ?_
  have hlev : levelsL N (stpF s) List.isEmpty T i [] = (y :: ys, .ok T1) := by rcases he with ⟨h, _⟩ | ⟨_, h⟩; exact absurd c49 h; exact h
  refine Ga (AO.lenO (i := 4) HU HU HU (fun hk58 => ?_))
  rw [List.length_map]
  refine Ga (GC HU HU HU (fun c59 => absurd c59 (by simp only [List.length_cons]; omega)) (fun c59 => ?_))
  refine qs 7 ?_
  refine Ga (AO.lenO (i := 4) HU HU HU (fun hk64 => ?_))
  rw [List.length_map]
  refine Ga (AO.gtr HU HU HU (fun c65 => ?_) (fun c65 => ?_))
  ·refine Ga (AO.assign HU HU ?_)
   refine qs 15 ?_
   exact AK.unmark (i := 1) rfl (GS (rs := [.cell 6 _, .cell 7 _, .tmp 8]) (L' := L) (F' := F) Tryz.results61 (.agg (j := 9) rfl rfl rfl (.agg (j := 8) rfl rfl rfl (.tmp rfl .nil))) subA (hE 9 (by decide) (by unfold findR; rw [hlev]; exact tell_two HW)))
  obtain rfl : ys = [] := List.eq_nil_of_length_eq_zero (by simp only [List.length_cons] at c65; omega)
  refine Gz (GH (i := 4) HU) ?_
  refine Ga (AO.assign HU HU ?_)
  refine qs 7 ?_
  refine GO (fun _ => false) [(b9, _, _), (b17, _, _), (b10, _, _)] bxA HU (fun hx hX => ?_)
  have hk9 := (Gy (hX (fSl [y] a9 k9 c9) memA)).1
  obtain ⟨p1, o1, e1, at1⟩ := GG (i := 0) (hX (fSl [y] a9 k9 c9) memA) (by simp)
  subst e1
  obtain ⟨a5, k5, c5, hv5, hp5⟩ := sl_cells (s := y) at1
  refine Hv hp5 memA ?_
  simp only [List.length_cons, List.length_nil] at hk9
  refine qt [0, 1, 2, 3, 4] ?_
  refine GF (i := 5) HU (GM (k := 0) HU HU HU HW) HV HU HU ?_
  refine GV (i := 6) HU (HJ HU HU hv5) HV HV HU HU HU ?_
  refine Gf (i := 7) HV HU HU (fun _ => ?_)
  refine GA HU HU HU HU ?_
  refine Gc bxA memB ?_
  refine Gf (i := 8) HV HU HU (fun _ => ?_)
  refine GA HU HU HU HU ?_
  refine Gc bxA memB ?_
  refine qt [9] ?_
  refine Gm HV ?_
  refine qs 2 ?_
  exact AK.unmark (i := 1) rfl (GS (rs := [.cell 6 _, .cell 7 _, .tmp 8]) (L' := L) (F' := fL T1 a1 k1 c1 :: fI y.path a5 k5 c5 :: F) Tryz.results61 (.agg (j := 9) rfl rfl rfl (.agg (j := 8) rfl rfl rfl (.tmp rfl .nil))) (Sub.drop.trans (Sub.drop.trans (Sub.drop.trans (Sub.drop.trans (Sub.drop.trans (Sub.drop.trans (Sub.drop.trans (Sub.drop.trans (Sub.drop.trans (Sub.drop.trans (Sub.drop.trans (Sub.drop.trans (Gg (mem2 memA memA (fun x hx => by repeat (first | exact hx | refine List.mem_cons_of_mem _ ?_)))))))))))))))) (hO T1 y a1 k1 c1 a5 k5 c5 (by unfold findR; rw [hlev]; rfl)))
end
end Go.Sy
namespace Go.Sy
open Go Go.Proofs Go.RowKit
def badS (T : List Ty) (N : List Nmd) (i : Int) (s : List UInt8) (e : Int) : Prop := (¬ rightU T N ∧ e = 1) ∨ (rightU T N ∧ ¬(0 ≤ i ∧ i < T.length) ∧ e = 8) ∨ (rightU T N ∧ (0 ≤ i ∧ i < T.length) ∧ (isName s = false ∨ s = [95]) ∧ e = 1)
attribute [local irreducible] AC AT AO AK AH ACalls Sub Res.cells Res.obj Res.nix Res.own Res.map Exit.then Exit.inBlock bodyPost Code.wp Code.wpIn WL Next Post Kont
section
variable {W0 : World} {L : List Res} {F : List Fact} {R : Value → List Res → List Fact → Prop}
set_option maxRecDepth 100000
set_option maxHeartbeats 16000000
theorem sthere_c (g : Glob W0) (T : List Ty) (N : List Nmd) (hok : ∀ t ∈ T, TyOk t) (hno : ∀ n ∈ N, NmOk n) (i : Int) {a a2 : Option Addr} {k c k2 c2 : Nat} (mL : fL T a k c ∈ F) (mN : fN N a2 k2 c2 ∈ F)
    (h1 : ∀ e, (¬ rightU T N ∧ e = 1) ∨ (rightU T N ∧ ¬(0 ≤ i ∧ i < T.length) ∧ e = 8) → R (.int .i64 e) L F) (h3 : rightU T N → 0 ≤ i ∧ i < T.length → R (.int .i64 0) L F) : ACalls Tryz.prog W0 59 #[.agg #[.slice a k c, .slice a2 k2 c2], .int .i64 i] L F R := by
  refine Ge Tryz.func59 HU Tryz.ntmps59 HU ?_
  refine qs 2 ?_
  refine Ga (GJ HU HU (fun b2 => ?_))
  refine qs 8 ?_
  refine Ga (Gd HU HU (uright_c g T N hok hno mL mN (fun c7 => ?_) (fun c7 => ?_)))
  ·refine qs 8 ?_
   refine Ga (GB HU HU HU (fun c11 => ?_) (fun c11 => ?_))
   ·refine qs 19 ?_
    first | exact Gb (L' := L) (F' := F) Tryz.results59 rfl subA (h1 1 (.inl ⟨c7, rfl⟩)) | exact Gb (L' := L) (F' := F) Tryz.results59 rfl subA (h1 8 (.inr ⟨c7, by omega, rfl⟩)) | exact Gb (L' := L) (F' := F) Tryz.results59 rfl subA (h3 c7 HW)
   refine qs 4 ?_
   refine Gh HU HU (Gv HU HU (fun hl16 => ?_) (enc := eTy) (lst := T) (hm := memA))
   refine Gh HU HU (Hh HU HU HU (fun c17 => ?_) (fun c17 => ?_))
   ·refine qs 13 ?_
    first | exact Gb (L' := L) (F' := F) Tryz.results59 rfl subA (h1 1 (.inl ⟨c7, rfl⟩)) | exact Gb (L' := L) (F' := F) Tryz.results59 rfl subA (h1 8 (.inr ⟨c7, by omega, rfl⟩)) | exact Gb (L' := L) (F' := F) Tryz.results59 rfl subA (h3 c7 HW)
   refine qs 14 ?_
   first | exact Gb (L' := L) (F' := F) Tryz.results59 rfl subA (h1 1 (.inl ⟨c7, rfl⟩)) | exact Gb (L' := L) (F' := F) Tryz.results59 rfl subA (h1 8 (.inr ⟨c7, by omega, rfl⟩)) | exact Gb (L' := L) (F' := F) Tryz.results59 rfl subA (h3 c7 HW)
  refine qs 13 ?_
  first | exact Gb (L' := L) (F' := F) Tryz.results59 rfl subA (h1 1 (.inl ⟨c7, rfl⟩)) | exact Gb (L' := L) (F' := F) Tryz.results59 rfl subA (h1 8 (.inr ⟨c7, by omega, rfl⟩)) | exact Gb (L' := L) (F' := F) Tryz.results59 rfl subA (h3 c7 HW)
theorem sFind_c (g : Glob W0) (T : List Ty) (N : List Nmd) (hok : ∀ t ∈ T, TyOk t) (hno : ∀ n ∈ N, NmOk n) (i : Int) (s : List UInt8) {a a2 : Option Addr} {k c k2 c2 : Nat} (mL : fL T a k c ∈ F) (mN : fN N a2 k2 c2 ∈ F) (mE : Fact.slc (.slice none 0 0) 5 [] ∈ F) (mM : Fact.slc (.slice none 0 0) 3 [] ∈ F)
    (hB : ∀ e, e ≠ 0 → badS T N i s e → R (.tuple #[.agg #[.slice none 0 0, .slice none 0 0], vSl ⟨false, 0, false, false, []⟩ none 0 0, .int .i64 e]) L F)
    (hE : rightU T N → 0 ≤ i → i < T.length → isName s = true → s ≠ [95] → ∀ e, e ≠ 0 → findR N T i s = .error e → R (.tuple #[.agg #[.slice none 0 0, .slice none 0 0], vSl ⟨false, 0, false, false, []⟩ none 0 0, .int .i64 e]) L F)
    (hO : rightU T N → 0 ≤ i → i < T.length → isName s = true → s ≠ [95] → ∀ o x a k c a5 k5 c5, findR N T i s = .ok (o, x) → R (.tuple #[.agg #[.slice a k c, .slice a2 k2 c2], vSl x a5 k5 c5, .int .i64 0]) L (fL o a k c :: fI x.path a5 k5 c5 :: F)) :
    ACalls Tryz.prog W0 19 #[.agg #[.slice a k c, .slice a2 k2 c2], .int .i64 i, S s] L F R := by
  refine Ge Tryz.func19 HU Tryz.ntmps19 HU ?_
  refine qs 2 ?_
  refine Ga (GJ HU HU (fun b3 => (Ga (Gq HU (fun b6 => (Ga (Gq HU (fun b7 => ?_))))))))
  refine qs 8 ?_
  refine Ga (Gd HU HU (sthere_c g T N hok hno i memA memA (fun e he => ?_) (fun c12 d12 => ?_)))
  ·refine qs 6 ?_
   have he0 : e ≠ 0 := by rcases he with ⟨_, h⟩ | ⟨_, _, h⟩ <;> omega
   refine Ga (GK HU HU HU (fun _ => ?_) (fun c14 => absurd c14 he0))
   refine qs 15 ?_
   exact GS (rs := [.cell 6 _, .cell 7 _, .tmp 8]) (L' := L) (F' := F) Tryz.results19 (.agg (j := 1) rfl rfl rfl (.agg (j := 0) rfl rfl rfl (.tmp rfl .nil))) subA (hB e he0 (by rcases he with h | h; exact .inl h; exact .inr (.inl h)))
  refine qs 6 ?_
  refine Ga (GK HU HU HU (fun c14 => absurd HU c14) (fun _ => ?_))
  refine qs 9 ?_
  refine Ga (Gd HU HU (Hz s (fun c19 => ?_) (fun c19 => ?_)))
  ·refine qs 3 ?_
   refine Gh HU HU (Hu HU HU HU (fun c23 => ?_) (fun c23 => ?_))
   ·refine qs 15 ?_
    exact GS (rs := [.cell 6 _, .cell 7 _, .tmp 8]) (L' := L) (F' := F) Tryz.results19 (.agg (j := 1) rfl rfl rfl (.agg (j := 0) rfl rfl rfl (.tmp rfl .nil))) subA (hB 1 (by decide) (.inr (.inr ⟨c12, d12, .inr c23, rfl⟩)))
   refine qs 11 ?_
   refine Ga (Gd HU HU (sfind_c g T N hno c12 i d12.1 d12.2 s memA memA memA memA (fun e he hx => ?_) (fun o x a30 k30 z30 a31 k31 z31 hx => ?_)))
   ·refine qs 9 ?_
    exact GS (rs := [.cell 6 _, .cell 7 _, .tmp 8]) (L' := L) (F' := F) Tryz.results19 (.agg (j := 1) rfl rfl rfl (.agg (j := 0) rfl rfl rfl (.tmp rfl .nil))) subA (hE c12 d12.1 d12.2 c19 c23 e he hx)
   refine qs 9 ?_
   exact GS (rs := [.cell 6 _, .cell 7 _, .tmp 8]) (L' := L) (F' := fL o a30 k30 z30 :: fI x.path a31 k31 z31 :: F) Tryz.results19 (.agg (j := 1) rfl rfl rfl (.agg (j := 0) rfl rfl rfl (.tmp rfl .nil))) (Sub.drop.trans (Sub.drop.trans (Sub.drop.trans (Gg (mem2 memA memA (fun x hx => by repeat (first | exact hx | refine List.mem_cons_of_mem _ ?_))))))) (hO c12 d12.1 d12.2 c19 c23 o x a30 k30 z30 a31 k31 z31 hx)
  refine qs 19 ?_
  exact GS (rs := [.cell 6 _, .cell 7 _, .tmp 8]) (L' := L) (F' := F) Tryz.results19 (.agg (j := 1) rfl rfl rfl (.agg (j := 0) rfl rfl rfl (.tmp rfl .nil))) subA (hB 1 (by decide) (.inr (.inr ⟨c12, d12, .inl c19, rfl⟩)))
end
end Go.Sy
namespace Go.Sy
open Go Go.Proofs Go.RowKit
attribute [local irreducible] AC AT AO AK AH ACalls Sub Res.cells Res.obj Res.nix Res.own Res.map Exit.then Exit.inBlock bodyPost Code.wp Code.wpIn WL Next Post Kont
section
variable {W0 : World} {L : List Res} {F : List Fact} {R : Value → List Res → List Fact → Prop}
set_option maxRecDepth 100000
set_option maxHeartbeats 16000000
end
end Go.Sy
namespace Go.Sy
open Go Go.Proofs Go.RowKit
theorem und_8 {T : List Ty} {N : List Nmd} {n : Nat} (hn : n < T.length) (h8 : T[n].kind = 8) {j : Nat} (hj : j < N.length) (hat : atN N T[n].name = some j) {u : Nat} (hu : N[j].under = (u : Int)) : undR T N (n : Int) = subR T u T[n].kids := by
  unfold undR
  rw [HI hn, if_pos h8, hat]
  simp only
  rw [Gt default hj, hu, Int.toNat_natCast]
attribute [local irreducible] AC AT AO AK AH ACalls Sub Res.cells Res.obj Res.nix Res.own Res.map Exit.then Exit.inBlock bodyPost Code.wp Code.wpIn WL Next Post Kont
section
variable {W0 : World} {L : List Res} {F : List Fact} {R : Value → List Res → List Fact → Prop}
set_option maxRecDepth 100000
set_option maxHeartbeats 16000000
end
end Go.Sy
namespace Go.Sy
open Go Go.Proofs Go.RowKit
attribute [local irreducible] AC AT AO AK AH ACalls Sub Res.cells Res.obj Res.nix Res.own Res.map Exit.then Exit.inBlock bodyPost Code.wp Code.wpIn WL Next Post Kont
section
variable {W0 : World} {L : List Res} {F : List Fact} {R : Value → List Res → List Fact → Prop}
set_option maxRecDepth 100000
set_option maxHeartbeats 16000000
end
end Go.Sy
namespace Go.Sy
open Go Go.Proofs Go.RowKit
attribute [local irreducible] AC AT AO AK AH ACalls Sub Res.cells Res.obj Res.nix Res.own Res.map Exit.then Exit.inBlock bodyPost Code.wp Code.wpIn WL Next Post Kont
section
variable {W0 : World} {L : List Res} {F : List Fact} {R : Value → List Res → List Fact → Prop}
set_option maxRecDepth 100000
set_option maxHeartbeats 16000000
end
end Go.Sy
namespace Go.Sy
open Go Go.Proofs Go.RowKit
attribute [local irreducible] AC AT AO AK AH ACalls Sub Res.cells Res.obj Res.nix Res.own Res.map Exit.then Exit.inBlock bodyPost Code.wp Code.wpIn WL Next Post Kont
section
variable {W0 : World} {L : List Res} {F : List Fact} {R : Value → List Res → List Fact → Prop}
set_option maxRecDepth 100000
set_option maxHeartbeats 16000000
end
end Go.Sy
namespace Go.Sy
open Go Go.Proofs Go.RowKit
attribute [local irreducible] AC AT AO AK AH ACalls Sub Res.cells Res.obj Res.nix Res.own Res.map Exit.then Exit.inBlock bodyPost Code.wp Code.wpIn WL Next Post Kont
section
variable {W0 : World} {L : List Res} {F : List Fact} {R : Value → List Res → List Fact → Prop}
set_option maxRecDepth 100000
set_option maxHeartbeats 16000000
end
end Go.Sy
namespace Go.Sy
open Go Go.Proofs Go.RowKit
def nmT0 : Ty := ⟨8, [112, 46, 84], 0, [], []⟩
attribute [local irreducible] AC AT AO AK AH ACalls Sub Res.cells Res.obj Res.nix Res.own Res.map Exit.then Exit.inBlock bodyPost Code.wp Code.wpIn WL Next Post Kont
section
variable {W0 : World} {L : List Res} {F : List Fact} {R : Value → List Res → List Fact → Prop}
set_option maxRecDepth 100000
set_option maxHeartbeats 16000000
end
end Go.Sy
namespace Go.Sy
open Go Go.Proofs Go.RowKit
abbrev noS : SelV := ⟨false, 0, false, false, []⟩
def goodS (T : List Ty) (N : List Nmd) (i : Int) (s : List UInt8) : Prop := rightU T N ∧ (0 ≤ i ∧ i < T.length) ∧ isName s = true ∧ s ≠ [95]
def selP (T : List Ty) (N : List Nmd) (i : Int) (s : List UInt8) (o : List Ty) (M : List Nmd) (x : SelV) (e : Int) : Prop :=
  (e ≠ 0 ∧ (badS T N i s e ∨ (goodS T N i s ∧ findR N T i s = .error e)) ∧ o = [] ∧ M = [] ∧ x = noS) ∨ (e = 0 ∧ goodS T N i s ∧ findR N T i s = .ok (o, x) ∧ M = N)
attribute [local irreducible] AC AT AO AK AH ACalls Sub Res.cells Res.obj Res.nix Res.own Res.map Exit.then Exit.inBlock bodyPost Code.wp Code.wpIn WL Next Post Kont
section
variable {W0 : World} {L : List Res} {F : List Fact} {R : Value → List Res → List Fact → Prop}
set_option maxRecDepth 100000
set_option maxHeartbeats 16000000
theorem sFind2_c (g : Glob W0) (T : List Ty) (N : List Nmd) (hok : ∀ t ∈ T, TyOk t) (hno : ∀ n ∈ N, NmOk n) (i : Int) (s : List UInt8) {a a2 : Option Addr} {k c k2 c2 : Nat} (mL : fL T a k c ∈ F) (mN : fN N a2 k2 c2 ∈ F) (mE : Fact.slc (.slice none 0 0) 5 [] ∈ F) (mM : Fact.slc (.slice none 0 0) 3 [] ∈ F) (m4 : Fact.slc (.slice none 0 0) 4 [] ∈ F) (m1 : Fact.slc (.slice none 0 0) 1 [] ∈ F)
    (h : ∀ o M x e a k c an kn cn a5 k5 c5, selP T N i s o M x e → R (.tuple #[.agg #[.slice a k c, .slice an kn cn], vSl x a5 k5 c5, .int .i64 e]) L (fL o a k c :: fN M an kn cn :: fI x.path a5 k5 c5 :: F)) :
    ACalls Tryz.prog W0 19 #[.agg #[.slice a k c, .slice a2 k2 c2], .int .i64 i, S s] L F R := by
  refine ACalls.out (R' := fun v L' F' => ∃ F'', Sub L' F' L' F'' ∧ R v L' F'') ?_ (fun v L' F' ⟨F'', h1, h2⟩ => ⟨L', F'', h1, h2⟩)
  refine sFind_c g T N hok hno i s mL mN mE mM (fun e he hb => ⟨_, Gg ?_, h [] [] noS e none 0 0 none 0 0 none 0 0 (.inl ⟨he, .inl hb, rfl, rfl, rfl⟩)⟩) (fun c1 c2 c3 c4 c5 e he hx => ⟨_, Gg ?_, h [] [] noS e none 0 0 none 0 0 none 0 0 (.inl ⟨he, .inr ⟨⟨c1, ⟨c2, c3⟩, c4, c5⟩, hx⟩, rfl, rfl, rfl⟩)⟩) (fun c1 c2' c3 c4 c5 o x a k c a5 k5 c5' hx => ⟨_, Gg ?_, h o N x 0 a k c a2 k2 c2 a5 k5 c5' (.inr ⟨rfl, ⟨c1, ⟨c2', c3⟩, c4, c5⟩, hx, rfl⟩)⟩)
  · exact mem2 mE m4 (mem1 m1 (fun x hx => hx))
  · exact mem2 mE m4 (mem1 m1 (fun x hx => hx))
  exact mem2 memA (List.mem_cons_of_mem _ (List.mem_cons_of_mem _ mN)) (mem1 memA (fun x hx => List.mem_cons_of_mem _ (List.mem_cons_of_mem _ hx)))
end
end Go.Sy
namespace Go.Sy
open Go Go.Proofs Go.RowKit
theorem idx_word {l : List (List UInt8)} {w : List UInt8} {n : Nat} (hn : n < l.length) (h : l[n] = w) (hno : ∀ x ∈ l.take n, x ≠ w) : l.idxOf? w = some n := by
  unfold List.idxOf?
  rw [List.findIdx?_eq_some_iff_getElem]
  refine ⟨hn, by simp [h], fun j hj => ?_⟩
  have := hno l[j] (List.mem_take_iff_getElem.2 ⟨j, by omega, rfl⟩)
  simpa using this
theorem idx_not {l : List (List UInt8)} {w : List UInt8} (h : w ∉ l) : l.idxOf? w = none := by
  unfold List.idxOf?
  rw [List.findIdx?_eq_none_iff]
  intro x hx
  have : x ≠ w := fun e => h (e ▸ hx)
  simpa using this
section
variable {N : List Nmd} {B : List Int} {T T1 : List Ty} {i k e : Int} {l : List Tm}
theorem ins_none (h9 : (tyAt T i).kind = 9) (hb : boundR T B (tyAt T i) = none) : insideR N B T i l = .ok none := by unfold insideR; rw [if_pos h9, hb]; rfl
theorem ins_low (h9 : (tyAt T i).kind = 9) {b : Ty} (hb : boundR T B (tyAt T i) = some b) (h2 : ¬ 2 ≤ b.n) : insideR N B T i l = .ok none := by unfold insideR; rw [if_pos h9, hb]; simp only [Option.getD_some]; rw [if_neg h2]
theorem ins_all (h9 : (tyAt T i).kind = 9) {b : Ty} (hb : boundR T B (tyAt T i) = some b) (h2 : 2 ≤ b.n) : insideR N B T i l = allR (fun T x => withinR N T x l) (trmL b) T := by unfold insideR; rw [if_pos h9, hb]; simp only [Option.getD_some]; rw [if_pos h2]
theorem ins_err (h9 : (tyAt T i).kind ≠ 9) (hx : undR T N i = .error e) : insideR N B T i l = .error e := by unfold insideR; rw [if_neg h9, hx]
theorem ins_face (h9 : (tyAt T i).kind ≠ 9) (hx : undR T N i = .ok (T1, k)) (h7 : (tyAt T1 k).kind = 7) : insideR N B T i l = .ok none := by unfold insideR; rw [if_neg h9, hx]; simp only; rw [if_pos h7]
theorem ins_one (h9 : (tyAt T i).kind ≠ 9) (hx : undR T N i = .ok (T1, k)) (h7 : (tyAt T1 k).kind ≠ 7) : insideR N B T i l = withinR N T1 (([61] : List UInt8), i) l := by unfold insideR; rw [if_neg h9, hx]; simp only; rw [if_neg h7]
end
attribute [local irreducible] AC AT AO AK AH ACalls Sub Res.cells Res.obj Res.nix Res.own Res.map Exit.then Exit.inBlock bodyPost Code.wp Code.wpIn WL Next Post Kont
section
variable {W0 : World} {L : List Res} {F : List Fact} {R : Value → List Res → List Fact → Prop}
set_option maxRecDepth 100000
set_option maxHeartbeats 16000000
theorem toldT_c {ba ia : Nat} {a a2 a3 : Option Addr} {k c k2 c2 k3 c3 bm : Nat} (ha : L[ia]? = some (Res.cells ba (aCells a k c a2 k2 c2 a3 k3 c3 bm 0).toArray 140)) (h : R (.tuple #[.bool true, .int .i64 0]) L F) : ACalls Tryz.prog W0 75 #[.pointer (some ⟨ba, 0, none⟩), .bool true] L F R := by
  refine Ge Tryz.func75 HU Tryz.ntmps75 HU ?_
  refine qs 7 ?_
  refine GO (fun _ => false) [(ba, _, _)] bxA HU (fun hx hX => ?_)
  refine GF (i := 0) HU (Y.move HU) HV HU HU ?_
  refine qt [1, 2, 3, 4, 5] ?_
  refine He (i := 6) HU (Y.eql HU HU) HV HU HU (fun _ => ?_) (fun c12 => absurd c12 (by decide))
  refine qt [7, 8, 9, 10, 11, 12, 13] ?_
  refine Gm HV ?_
  refine qs 2 ?_
  exact Hg (L' := L) (F' := F) Tryz.results75 rfl rfl subA h
theorem toldF_c {ba ia : Nat} {a a2 a3 : Option Addr} {k c k2 c2 k3 c3 bm : Nat} {e : Int} (ha : L[ia]? = some (Res.cells ba (aCells a k c a2 k2 c2 a3 k3 c3 bm e).toArray 140)) (h : R (.tuple #[.bool false, .int .i64 e]) L F) : ACalls Tryz.prog W0 75 #[.pointer (some ⟨ba, 0, none⟩), .bool false] L F R := by
  refine Ge Tryz.func75 HU Tryz.ntmps75 HU ?_
  refine qs 7 ?_
  refine GO (fun _ => false) [(ba, _, _)] bxA HU (fun hx hX => ?_)
  refine GF (i := 0) HU (Y.move HU) HV HU HU ?_
  refine qt [1, 2, 3, 4, 5, 6, 7, 8, 9, 10, 11, 12, 13] ?_
  refine Gm HV ?_
  refine qs 2 ?_
  exact Hg (L' := L) (F' := F) Tryz.results75 rfl rfl subA h
theorem tindexS_c (l : List (List UInt8)) (hl : l.length ≤ 1000000) (w : List UInt8) {a : Option Addr} {k c : Nat} (m1 : fS l a k c ∈ F)
    (hT : ∀ n : Nat, (hn : n < l.length) → l.idxOf? w = some n → R (.int .i64 n) L F) (hF : l.idxOf? w = none → R (.int .i64 (-1)) L F) : ACalls Tryz.prog W0 134 #[.slice a k c, S w] L F R := by
  refine Ge Tryz.func134 HU Tryz.ntmps134 HU ?_
  refine qs 9 ?_
  refine Ga (Gv HU HU (fun hl7 => ?_) (enc := eS) (lst := l) (hm := memA))
  refine qs 4 ?_
  refine GN (fun (v : Nat) => v ≤ l.length ∧ ∀ x ∈ l.take v, x ≠ w) (fun v => [(0, .slice a k c), (1, S w), (6, .slice a k c), (7, .int .i64 l.length), (8, .int .i64 (v : Int))]) (fun _ => _) (fun _ => _) (fun v => l.length - v) 0 ⟨Nat.zero_le _, by simp⟩ srA (Gk _ _) ?_
  rintro v ⟨hv, hno⟩
  refine qs 2 ?_
  refine Ga (GB HU HU HU (fun c9 => ?_) (fun c9 => ?_))
  ·refine qs 19 ?_
   have hvl : v < l.length := by omega
   refine Ga (Gj HU HU HU HU (enc := eS) (lst := l) memA hvl (fun _ _ => ?_))
   refine Ga (GE HU HU ?_)
   intros
   refine Ga (Hu HU HU HU (fun c16 => ?_) (fun c16 => ?_))
   ·refine qs 15 ?_
    exact Gb (L' := L) (F' := F) Tryz.results134 rfl subA (hT v hvl (idx_word hvl c16.symm hno))
   refine qs 10 ?_
   exact Gl (v + 1) ⟨hvl, fun x hx => by
    rw [List.take_succ_eq_append_getElem hvl] at hx
    rcases List.mem_append.1 hx with hx | hx
    · exact hno x hx
    rw [List.mem_singleton.1 hx]; exact fun e => c16 e.symm⟩ HW srA subF
  refine qs 15 ?_
  obtain rfl : v = l.length := by omega
  rw [List.take_length] at hno
  exact Gb (L' := L) (F' := F) Tryz.results134 rfl subA (hF (idx_not fun h => hno w h rfl))
theorem twithin2_c (g : Glob W0) (T : List Ty) (N : List Nmd) (hno : ∀ n ∈ N, NmOk n) (hu : rightU T N) (x : Tm) (h0 : 0 ≤ x.2) (hi : x.2 < T.length) (l : List Tm) (hl : l.length ≤ 1000000) (Lf : List Value → List Res) {a a2 a3 a4 : Option Addr} {k c k2 c2 k3 c3 k4 c4 bm ba ia : Nat} (HA : ∀ w, (Lf w)[ia]? = some (Res.cells ba w.toArray 140)) (SA : ∀ w w', (Lf w).set ia (Res.cells ba w'.toArray 140) = Lf w') (mL : fL T a k c ∈ F) (mN : fN N a2 k2 c2 ∈ F) (mE : Fact.slc (.slice none 0 0) 5 [] ∈ F) (mT : fTm l a4 k4 c4 ∈ F)
    (hT : ∀ o a k c, withinR N T x l = .ok (some o) → R (.bool true) (Lf (aCells a k c a2 k2 c2 a3 k3 c3 bm 0)) (fL o a k c :: F))
    (hN : ∀ e a k c, badO (withinR N T x l) e → R (.bool false) (Lf (aCells a k c a2 k2 c2 a3 k3 c3 bm e)) F) :
    ACalls Tryz.prog W0 136 #[.pointer (some ⟨ba, 0, none⟩), vTm x, .slice a4 k4 c4] (Lf (aCells a k c a2 k2 c2 a3 k3 c3 bm 0)) F R :=
  twithin_c g T N hno hu x h0 hi l hl (HA _) mL mN mE mT (fun e he hx => by rw [SA]; exact hN e a k c (.inl ⟨he, hx⟩)) (fun a k c hx => by rw [SA]; exact hN 0 a k c (.inr ⟨rfl, hx⟩)) (fun o a k c hx => by rw [SA]; exact hT o a k c hx)
theorem tunder2_c (g : Glob W0) (T : List Ty) (N : List Nmd) (hno : ∀ n ∈ N, NmOk n) (hu : rightU T N) (i : Int) (h0 : 0 ≤ i) (hi : i < T.length) (Lf : List Value → List Res) {a a2 a3 : Option Addr} {k c k2 c2 k3 c3 bm ba ia : Nat} (HA : ∀ w, (Lf w)[ia]? = some (Res.cells ba w.toArray 140)) (SA : ∀ w w', (Lf w).set ia (Res.cells ba w'.toArray 140) = Lf w') (mL : fL T a k c ∈ F) (mN : fN N a2 k2 c2 ∈ F) (mE : Fact.slc (.slice none 0 0) 5 [] ∈ F)
    (hE : ∀ e, e ≠ 0 → undR T N i = .error e → R (.int .i64 0) (Lf (aCells a k c a2 k2 c2 a3 k3 c3 bm e)) F)
    (hO : ∀ o q a k c, undR T N i = .ok (o, q) → R (.int .i64 q) (Lf (aCells a k c a2 k2 c2 a3 k3 c3 bm 0)) (fL o a k c :: F)) :
    ACalls Tryz.prog W0 129 #[.pointer (some ⟨ba, 0, none⟩), .int .i64 i] (Lf (aCells a k c a2 k2 c2 a3 k3 c3 bm 0)) F R :=
  tunder_c g T N hno hu i h0 hi (HA _) mL mN mE (fun e he hx => by rw [SA]; exact hE e he hx) (fun o q a k c hx => by rw [SA]; exact hO o q a k c hx)
theorem tin1_c (g : Glob W0) (T : List Ty) (N : List Nmd) (hno : ∀ n ∈ N, NmOk n) (hu : rightU T N) (x : Tm) (h0 : 0 ≤ x.2) (hi : x.2 < T.length) (l : List Tm) (hl : l.length ≤ 1000000) (Lf : List Value → List Res) {a a2 a3 a4 : Option Addr} {k c k2 c2 k3 c3 k4 c4 bm ba ia b3 b5 i3 i5 : Nat} (HA : ∀ w, (Lf w)[ia]? = some (Res.cells ba w.toArray 140)) (SA : ∀ w w', (Lf w).set ia (Res.cells ba w'.toArray 140) = Lf w')
    (H3 : ∀ w, (Lf w)[i3]? = some (Res.cells b3 #[.pointer (some ⟨ba, 0, none⟩)] 111)) (H5 : ∀ w, (Lf w)[i5]? = some (Res.cells b5 #[.slice a4 k4 c4] 118)) (mL : fL T a k c ∈ F) (mN : fN N a2 k2 c2 ∈ F) (mE : Fact.slc (.slice none 0 0) 5 [] ∈ F) (mT : fTm l a4 k4 c4 ∈ F)
    (hT : ∀ o a k c, withinR N T x l = .ok (some o) → R (.bool true) (Lf (aCells a k c a2 k2 c2 a3 k3 c3 bm 0)) (fL o a k c :: F))
    (hN : ∀ e a k c, badO (withinR N T x l) e → R (.bool false) (Lf (aCells a k c a2 k2 c2 a3 k3 c3 bm e)) F) :
    ACalls Tryz.prog W0 135 #[vTm x, .pointer (some ⟨b3, 0, none⟩), .pointer (some ⟨b5, 0, none⟩)] (Lf (aCells a k c a2 k2 c2 a3 k3 c3 bm 0)) F R := by
  refine Ge Tryz.func135 HU Tryz.ntmps135 HU ?_
  refine qs 2 ?_
  refine Ga (GJ HU HU (fun b3 => ?_))
  refine qs 5 ?_
  refine Ga (Gw HU HU ?_ (i := i3 + 1) (hi := H3 _) (hv := HU))
  refine qs 1 ?_
  refine Ga (Gw HU HU ?_ (i := i5 + 1) (hi := H5 _) (hv := HU))
  refine Ga (Gd HU HU (twithin2_c g T N hno hu x h0 hi l hl (fun w => _ :: Lf w) (ia := ia + 1) HA (fun w w' => congrArg (_ :: ·) (SA w w')) mL mN mE mT (fun o a8 k8 c8 hx => ?_) (fun e a8 k8 c8 hx => ?_)))
  ·refine qs 4 ?_
   exact Gb (L' := Lf (aCells a8 k8 c8 a2 k2 c2 a3 k3 c3 bm 0)) (F' := fL o a8 k8 c8 :: F) Tryz.results135 rfl Gn (hT o a8 k8 c8 hx)
  refine qs 4 ?_
  exact Gb (L' := Lf (aCells a8 k8 c8 a2 k2 c2 a3 k3 c3 bm e)) (F' := F) Tryz.results135 rfl Gn (hN e a8 k8 c8 hx)
theorem tinside_c (g : Glob W0) (N : List Nmd) (hno : ∀ n ∈ N, NmOk n) (B : List Int) (T : List Ty) (hu : rightU T N) (hB : bndP T B) (i : Int) (h0 : 0 ≤ i) (hi : i < T.length) (l : List Tm) (hl : l.length ≤ 1000000) (Lf : List Value → List Res) {a a2 a3 a4 : Option Addr} {k c k2 c2 k3 c3 k4 c4 bm ba ia : Nat} (HA : ∀ w, (Lf w)[ia]? = some (Res.cells ba w.toArray 140)) (SA : ∀ w w', (Lf w).set ia (Res.cells ba w'.toArray 140) = Lf w')
    (mL : fL T a k c ∈ F) (mN : fN N a2 k2 c2 ∈ F) (mB : fI B a3 k3 c3 ∈ F) (mE : Fact.slc (.slice none 0 0) 5 [] ∈ F) (mT : fTm l a4 k4 c4 ∈ F)
    (hT : ∀ o a k c, insideR N B T i l = .ok (some o) → R (.bool true) (Lf (aCells a k c a2 k2 c2 a3 k3 c3 bm 0)) (fL o a k c :: F))
    (hN : ∀ e a k c, badO (insideR N B T i l) e → R (.bool false) (Lf (aCells a k c a2 k2 c2 a3 k3 c3 bm e)) F) :
    ACalls Tryz.prog W0 79 #[.pointer (some ⟨ba, 0, none⟩), .int .i64 i, .slice a4 k4 c4] (Lf (aCells a k c a2 k2 c2 a3 k3 c3 bm 0)) F R := by
  obtain ⟨hin, hie⟩ := GQ h0 hi
  refine Ge Tryz.func79 HU Tryz.ntmps79 HU ?_
  refine qs 2 ?_
  refine Ga (GJ HU HU (fun b3 => (Ga (GJ HU HU (fun b5 => ?_)))))
  refine qs 6 ?_
  refine Ga (Gu HU HU ?_)
  refine qs 2 ?_
  refine Ga (Gw (cs := aCells a k c a2 k2 c2 a3 k3 c3 bm 0) HU HU ?_ (i := ia + 2) (hi := HA _) (hv := HU))
  refine qs 1 ?_
  refine Ga (Gj (k := i.toNat) HU HU HU HW (enc := eTy) (lst := T) (show fL T a k c ∈ _ from memA) hin (fun _ _ => ?_))
  refine Ga (GU HU HU ?_)
  intro a18 k18 z18 d18 e18 f18
  refine Ga (Gq HU (fun b7 => ?_))
  refine qs 8 ?_
  refine Ga (GC HU HU HU (fun c21 => ?_) (fun c21 => ?_))
  ·refine qs 7 ?_
   have h9 : (tyAt T i).kind = 9 := by rw [hie]; exact c21
   have hpn := param_n hu.1 h0 hi h9
   rw [hie] at hpn
   refine Ga (Gd HU HU (tbound_c T B hB T[i.toNat] hpn.1 (ia := ia + 3) (HA _) (show fL T a k c ∈ _ from memA) (show fI B a3 k3 c3 ∈ _ from memA) (fun b a5 k5 c5 a6 k6 c6 hb => ?_) (fun hb => ?_)))
   ·refine qs 3 ?_
    refine Ga (Gq HU (fun b8 => ?_))
    refine qs 5 ?_
    refine GO (fun _ => false) [(b8, _, _), (b3, _, _)] bxA HU (fun hx hX => ?_)
    refine qt [0] ?_
    have hbd : boundR T B (tyAt T i) = some b := by rw [hie]; exact hb
    obtain ⟨kb, _, kb0, kb1, hbe, hb7, _⟩ := bound_is hB hpn.1 hb
    obtain ⟨hkb, hke⟩ := GQ kb0 kb1
    have hif := iface_n hu.1 kb0 kb1 (by rw [← hbe]; exact hb7)
    have htm := trm_there hu.1 kb0 kb1 (by rw [← hbe]; exact hb7)
    have hokb := Hp hu.1 _ (List.getElem_mem hkb)
    rw [← hke, ← hbe] at hokb
    rw [← hbe] at hif htm
    refine Gf (i := 1) HV HU HU (fun _ => ?_)
    refine Gd HU HU (trestricts_c b (fun c29 => ?_) (fun c29 => ?_))
    all_goals refine Gc bxA memB ?_
    ·refine qt [2, 3, 4] ?_
     refine GF (i := 6) HU (Y.makeFunc HU) HV HU HU ?_
     refine Gf (i := 5) HV HU HU (fun _ => ?_)
     refine Gd HU HU (tterms_c b hokb.words (Nat.le_of_eq hif.2.2) (show fW b a5 k5 c5 ∈ _ from memA) (show fK b a6 k6 c6 ∈ _ from memA) (fun a33 k33 c33 => ?_))
     refine Gc bxA memB ?_
     refine Gf (i := 7) HV HU HU (fun _ => ?_)
     have hal := ins_all (N := N) (l := l) h9 hbd c29
     have hwl := trmN_len b b.words.length
     refine Gd HU HU (Hr (Gg (F' := fL T a k c :: fTm (trmL b) a33 k33 c33 :: Fact.held hx :: F) (mem2 memA memA (mem1 memA (fun x hx => by repeat (first | exact hx | refine List.mem_cons_of_mem _ ?_))))) (tallT_c (σ := List Ty) (μ := Option Addr × Nat × Nat) (fun s x => withinR N s x l) (trmL b) (by have := hokb.words; unfold trmL; omega) (fun s x => rightU s N ∧ T <+: s) (fun x e => _ :: _ :: _ :: _ :: Lf (aCells x.1 x.2.1 x.2.2 a2 k2 c2 a3 k3 c3 bm e)) (fun s x => fL s x.1 x.2.1 x.2.2 :: fTm (trmL b) a33 k33 c33 :: Fact.held hx :: F) (Fact.held hx :: F) (fun x e => aCells x.1 x.2.1 x.2.2 a2 k2 c2 a3 k3 c3 bm e) (ia := ia + 4) (fun x e => HA _) (fun x e => rfl) (fun s x => .tail _ (.head _)) (cs := [.pointer (some ⟨b3, 0, none⟩), .pointer (some ⟨b5, 0, none⟩)])
     (fun A' q' hq' s x R' hIx hy hn => ACalls.out (R' := fun v L' F' => ∃ F'', Sub L' F' L' F'' ∧ R' v L' F'') (tin1_c g s N hno hIx.1 _ (htm _ (List.getElem_mem hq')).1 (by have := (htm _ (List.getElem_mem hq')).2; have := hIx.2.length_le; omega) l hl (fun w => A' ++ (_ :: _ :: _ :: _ :: Lf w)) (ia := A'.length + (ia + 4)) (i3 := A'.length + 3) (i5 := A'.length + 2) (fun w => (getP _).trans (HA w)) (fun w w' => (setP _ _).trans (congrArg (fun z => A' ++ (_ :: _ :: _ :: _ :: z)) (SA w w'))) (fun w => (getP _).trans rfl) (fun w => (getP _).trans rfl) (.head _) (.tail _ (.tail _ (.tail _ mN))) (.tail _ (.tail _ (.tail _ mE))) (.tail _ (.tail _ (.tail _ mT))) (fun o a k c hx2 => ⟨_, Gg (mem1 (.head _) (fun z hz => .tail _ (.tail _ hz))), hy o (a, k, c) hx2 (by have hw := within_ok hIx.1 (htm _ (List.getElem_mem hq')).1 (by have := (htm _ (List.getElem_mem hq')).2; have := hIx.2.length_le; omega) hx2; exact ⟨hw.1, hIx.2.trans hw.2⟩)⟩) (fun e a k c hb => ⟨_, Gg (fun z hz => .tail _ (.tail _ hz)), hn e (a, k, c) hb⟩)) (fun v L' F' ⟨F'', h1, h2⟩ => ⟨L', F'', h1, h2⟩))
     T (a, k, c) ⟨hu, List.prefix_rfl⟩ (fun s x hx2 hs2 => ?_) (fun e x hb2 => ?_)))
     all_goals refine Gc bxA memB ?_
     ·refine qt [8, 9] ?_
      refine Gm HV ?_
      refine qs 3 ?_
      exact Gb (L' := Lf (aCells x.1 x.2.1 x.2.2 a2 k2 c2 a3 k3 c3 bm 0)) (F' := fL s x.1 x.2.1 x.2.2 :: F) Tryz.results79 rfl (by repeat (first | exact Gg (mem1 memA (fun x hx => by repeat (first | exact hx | refine List.mem_cons_of_mem _ ?_))) | refine GR Gn ?_)) (hT s _ _ _ (hal.trans hx2))
     refine qt [8, 9] ?_
     refine Gm HV ?_
     refine qs 3 ?_
     exact Gb (L' := Lf (aCells x.1 x.2.1 x.2.2 a2 k2 c2 a3 k3 c3 bm e)) (F' := F) Tryz.results79 rfl subA (hN e _ _ _ (by rw [hal]; exact hb2))
    refine qt [2, 3, 4, 6, 5, 7, 8, 9] ?_
    refine Gm HV ?_
    refine qs 3 ?_
    exact Gb (L' := Lf (aCells a k c a2 k2 c2 a3 k3 c3 bm 0)) (F' := F) Tryz.results79 rfl subA (hN 0 a k c (.inr ⟨rfl, ins_low h9 hbd c29⟩))
   refine qs 3 ?_
   refine Ga (Gq HU (fun b8 => ?_))
   refine qs 5 ?_
   refine GO (fun _ => false) [(b8, _, _), (b3, _, _)] bxA HU (fun hx hX => ?_)
   refine qt [0] ?_
   refine Gf (i := 1) HV HU HU (fun _ => ?_)
   refine Gd HU HU (trestricts_c noTy (fun c29 => absurd c29 (by decide)) (fun c29 => ?_))
   refine Gc bxA memB ?_
   refine qt [2, 3, 4, 6, 5, 7, 8, 9] ?_
   refine Gm HV ?_
   refine qs 3 ?_
   exact Gb (L' := Lf (aCells a k c a2 k2 c2 a3 k3 c3 bm 0)) (F' := F) Tryz.results79 rfl subA (hN 0 a k c (.inr ⟨rfl, ins_none h9 (by rw [hie]; exact hb)⟩))
  refine qs 9 ?_
  have h9 : (tyAt T i).kind ≠ 9 := by rw [hie]; exact c21
  refine Ga (Gd HU HU (tunder2_c g T N hno hu i h0 hi (fun w => _ :: _ :: _ :: Lf w) (ia := ia + 3) HA (fun w w' => congrArg (fun z => _ :: _ :: _ :: z) (SA w w')) (show fL T a k c ∈ _ from memA) (show fN N a2 k2 c2 ∈ _ from memA) memA (fun e he hud => ?_) (fun T1 q a39 k39 c39 hud => ?_)))
  ·refine qs 6 ?_
   refine Ga (Gu HU HU ?_)
   refine qs 1 ?_
   refine Ga (Gw (cs := aCells a k c a2 k2 c2 a3 k3 c3 bm e) HU HU ?_ (i := ia + 3) (hi := HA _) (hv := HU))
   refine Ga (GC HU HU HU (fun c44 => absurd c44 he) (fun _ => ?_))
   refine qs 23 ?_
   exact Gb (L' := Lf (aCells a k c a2 k2 c2 a3 k3 c3 bm e)) (F' := F) Tryz.results79 rfl subA (hN e _ _ _ (.inl ⟨he, ins_err h9 hud⟩))
  refine qs 6 ?_
  refine Ga (Gu HU HU ?_)
  refine qs 1 ?_
  refine Ga (Gw (cs := aCells a39 k39 c39 a2 k2 c2 a3 k3 c3 bm 0) HU HU ?_ (i := ia + 3) (hi := HA _) (hv := HU))
  obtain ⟨u1, u2, u3, u4⟩ := undR_ok hu h0 hi hud
  obtain ⟨hqn, hqe⟩ := GQ u3 u4
  refine Ga (GC HU HU HU (fun _ => ?_) (fun c44 => absurd HU c44))
  refine qs 2 ?_
  refine Gh HU HU (Gu HU HU ?_)
  refine qs 2 ?_
  refine Gh HU HU (Gw (cs := aCells a39 k39 c39 a2 k2 c2 a3 k3 c3 bm 0) HU HU ?_ (i := ia + 3) (hi := HA _) (hv := HU))
  refine qs 1 ?_
  refine Gh HU HU (Gj (k := q.toNat) HU HU HU HW (enc := eTy) (lst := T1) (show fL T1 a39 k39 c39 ∈ _ from memA) hqn (fun _ _ => ?_))
  refine Gh HU HU (HE HU HU (fun _ => ?_))
  refine Gh HU HU (GE HU HU ?_)
  intros
  refine Gh HU HU (GK HU HU HU (fun c55 => ?_) (fun c55 => ?_))
  ·refine qs 4 ?_
   refine Gh HU HU (GI HU HU HU ?_)
   refine qs 1 ?_
   have hon := ins_one (N := N) (B := B) (l := l) h9 hud (by rw [hqe]; exact c55)
   have hil : i < T1.length := by have := u2.length_le; omega
   refine Gh HU HU (Gd HU HU (twithin2_c g T1 N hno u1 ([61], i) h0 hil l hl (fun w => _ :: _ :: _ :: Lf w) (ia := ia + 3) HA (fun w w' => congrArg (fun z => _ :: _ :: _ :: z) (SA w w')) (show fL T1 a39 k39 c39 ∈ _ from memA) (show fN N a2 k2 c2 ∈ _ from memA) memA (show fTm l a4 k4 c4 ∈ _ from memA) (fun o a62 k62 c62 hx => ?_) (fun e a62 k62 c62 hx => ?_)))
   ·refine qs 5 ?_
    exact Gb (L' := Lf (aCells a62 k62 c62 a2 k2 c2 a3 k3 c3 bm 0)) (F' := fL o a62 k62 c62 :: F) Tryz.results79 rfl (by repeat (first | exact Gg (mem1 memA (fun x hx => by repeat (first | exact hx | refine List.mem_cons_of_mem _ ?_))) | refine GR Gn ?_)) (hT o _ _ _ (hon.trans hx))
   refine qs 5 ?_
   exact Gb (L' := Lf (aCells a62 k62 c62 a2 k2 c2 a3 k3 c3 bm e)) (F' := F) Tryz.results79 rfl subA (hN e _ _ _ (by rw [hon]; exact hx))
  refine qs 12 ?_
  exact Gb (L' := Lf (aCells a39 k39 c39 a2 k2 c2 a3 k3 c3 bm 0)) (F' := F) Tryz.results79 rfl subA (hN 0 _ _ _ (.inr ⟨rfl, ins_face h9 hud (by rw [hqe]; exact c55)⟩))
end
end Go.Sy
namespace Go.Sy
open Go Go.Proofs Go.RowKit
def badM (r : Except Int Bool) (e : Int) : Prop := (e ≠ 0 ∧ r = .error e) ∨ (e = 0 ∧ r = .ok false)
def tellB (r : Except Int Bool) (is : Bool) (e : Int) : Prop := (is = true ∧ e = 0 ∧ r = .ok true) ∨ (is = false ∧ badM r e)
def badA (T : List Ty) (N : List Nmd) (B pl : List Int) (e : Int) : Prop := (¬(rightU T N ∧ bndP T B) ∧ e = 1) ∨ ((rightU T N ∧ bndP T B) ∧ ¬(∀ p ∈ pl, 0 ≤ p ∧ p < T.length) ∧ e = 8)
def goodA (T : List Ty) (N : List Nmd) (B pl : List Int) : Prop := (rightU T N ∧ bndP T B) ∧ ∀ p ∈ pl, 0 ≤ p ∧ p < T.length
theorem meth_par {N : List Nmd} {B : List Int} {T : List Ty} {i g : Int} {w : List UInt8} (h9 : (tyAt T i).kind = 9) : methR N B T i w g = .ok (kidOf ((boundR T B (tyAt T i)).getD noTy) w == some g) := by unfold methR; rw [if_pos h9]
theorem kid_some {b : Ty} {w : List UInt8} {n : Nat} (h : b.words.idxOf? w = some n) (hn : n < b.kids.length) : kidOf b w = some b.kids[n] := by unfold kidOf; rw [h]; simp only [Option.map_some]; rw [Gt 0 hn]
theorem kid_none {b : Ty} {w : List UInt8} (h : b.words.idxOf? w = none) : kidOf b w = none := by unfold kidOf; rw [h]; rfl
theorem meth_sel {N M : List Nmd} {B : List Int} {T o : List Ty} {i g e : Int} {w : List UInt8} {x : SelV} (hu : rightU T N) (hi : 0 ≤ i ∧ i < T.length) (hn : isName w = true) (h9 : (tyAt T i).kind ≠ 9) (hs : selP T N i w o M x e) :
    (e = 0 → methR N B T i w g = .ok (x.method && decide (x.typ = g) && (!x.ptr || x.via))) ∧ (e = 1 ∨ e = 8 ∨ e = 9 → methR N B T i w g = .ok false) ∧ (e ≠ 0 → ¬(e = 1 ∨ e = 8 ∨ e = 9) → methR N B T i w g = .error e) := by
  unfold methR
  rw [if_neg h9]
  rcases hs with ⟨h0, hb | ⟨⟨_, _, _, g4⟩, hx⟩, _⟩ | ⟨h0, ⟨_, _, _, g4⟩, hx, _⟩
  · obtain ⟨hw, he⟩ : w = [95] ∧ e = 1 := by
      rcases hb with ⟨h, _⟩ | ⟨_, h, _⟩ | ⟨_, _, h | h, he⟩
      · exact absurd hu h
      · exact absurd hi h
      · rw [hn] at h; cases h
      exact ⟨h, he⟩
    rw [if_pos hw]
    exact ⟨fun h => absurd h h0, fun _ => rfl, fun _ h => absurd (.inl he) h⟩
  · rw [if_neg g4, hx]
    simp only
    exact ⟨fun h => absurd h h0, fun h => if_pos h, fun _ h => if_neg h⟩
  rw [if_neg g4, hx]
  exact ⟨fun _ => rfl, fun h => by omega, fun h => absurd h0 h⟩
attribute [local irreducible] AC AT AO AK AH ACalls Sub Res.cells Res.obj Res.nix Res.own Res.map Exit.then Exit.inBlock bodyPost Code.wp Code.wpIn WL Next Post Kont
section
variable {W0 : World} {L : List Res} {F : List Fact} {R : Value → List Res → List Fact → Prop}
set_option maxRecDepth 100000
set_option maxHeartbeats 16000000
theorem tmethod_c (g : Glob W0) (N : List Nmd) (hno : ∀ n ∈ N, NmOk n) (B : List Int) (T : List Ty) (hu : rightU T N) (hB : bndP T B) (i : Int) (hi : 0 ≤ i ∧ i < T.length) (w : List UInt8) (hnm : isName w = true) (sg : Int) (Lf : List Value → List Res) {a a2 a3 : Option Addr} {k c k2 c2 k3 c3 bm ba ia : Nat} (HA : ∀ w, (Lf w)[ia]? = some (Res.cells ba w.toArray 140)) (SA : ∀ w w', (Lf w).set ia (Res.cells ba w'.toArray 140) = Lf w')
    (mL : fL T a k c ∈ F) (mN : fN N a2 k2 c2 ∈ F) (mB : fI B a3 k3 c3 ∈ F) (mE : Fact.slc (.slice none 0 0) 5 [] ∈ F) (mM : Fact.slc (.slice none 0 0) 3 [] ∈ F) (m4 : Fact.slc (.slice none 0 0) 4 [] ∈ F) (m1 : Fact.slc (.slice none 0 0) 1 [] ∈ F)
    (hT : methR N B T i w sg = .ok true → R (.bool true) (Lf (aCells a k c a2 k2 c2 a3 k3 c3 bm 0)) F)
    (hN : ∀ e, badM (methR N B T i w sg) e → R (.bool false) (Lf (aCells a k c a2 k2 c2 a3 k3 c3 bm e)) F) :
    ACalls Tryz.prog W0 77 #[.pointer (some ⟨ba, 0, none⟩), .int .i64 i, S w, .int .i64 sg] (Lf (aCells a k c a2 k2 c2 a3 k3 c3 bm 0)) F R := by
  obtain ⟨hin, hie⟩ := GQ hi.1 hi.2
  have hok := Hp hu.1
  refine Ge Tryz.func77 HU Tryz.ntmps77 HU ?_
  refine qs 8 ?_
  refine Ga (Gu HU HU ?_)
  refine qs 2 ?_
  refine Ga (Gw (cs := aCells a k c a2 k2 c2 a3 k3 c3 bm 0) HU HU ?_ (i := ia) (hi := HA _) (hv := HU))
  refine qs 1 ?_
  refine Ga (Gj (k := i.toNat) HU HU HU HW (enc := eTy) (lst := T) (show fL T a k c ∈ _ from memA) hin (fun _ _ => ?_))
  refine Ga (GU HU HU ?_)
  intro a23 k23 z23 d23 e23 f23
  refine Ga (Gq HU (fun b9 => ?_))
  refine qs 8 ?_
  refine Ga (GK HU HU HU (fun c26 => ?_) (fun c26 => ?_))
  ·refine qs 6 ?_
   refine Ga (Gu HU HU ?_)
   refine qs 1 ?_
   refine Ga (AO.loadBA (cs := aCells a k c a2 k2 c2 a3 k3 c3 bm 0) HU HU ?_ (i := ia + 1) (hi := HA _) (hk := HU))
   refine qs 2 ?_
   refine Ga (Gd HU HU (sFind2_c g T N hok hno i w (show fL T a k c ∈ _ from memA) (show fN N a2 k2 c2 ∈ _ from memA) memA memA memA memA (fun o M x e a34 k34 c34 an kn cn a35 k35 c35 hs => ?_)))
   obtain ⟨hm0, hm1, hm2⟩ := meth_sel (B := B) (g := sg) hu hi hnm (by rw [hie]; exact c26) hs
   obtain ⟨mt, ty, pt, vi, pa⟩ := x
   refine qs 4 ?_
   refine Ga (Gq HU (fun b10 => (Ga (Gq HU (fun b11 => ?_)))))
   refine qs 14 ?_
   refine Ga (GC HU HU HU (fun c40 => ?_) (fun c40 => ?_))
   ·refine qs 7 ?_
    rw [c40] at hm0
    replace hm0 := hm0 rfl
    rcases Bool.eq_false_or_eq_true mt with rfl | rfl
    all_goals refine Ga (Gw rfl rfl ?_)
    ·refine qs 4 ?_
     refine Gh HU HU (GC HU HU HU (fun c47 => ?_) (fun c47 => ?_))
     ·refine qs 3 ?_
      rcases Bool.eq_false_or_eq_true pt with rfl | rfl
      all_goals refine Gh rfl rfl (Gw rfl rfl ?_)
      ·refine qs 3 ?_
       rcases Bool.eq_false_or_eq_true vi with rfl | rfl
       all_goals refine Gh rfl rfl (Gw rfl rfl ?_)
       ·refine qs 9 ?_
        exact Gb (L' := Lf (aCells a k c a2 k2 c2 a3 k3 c3 bm 0)) (F' := F) Tryz.results77 rfl subA (hT (by rw [hm0]; have c48 : ty = sg := c47; simp [c48]))
       refine qs 9 ?_
       exact Gb (L' := Lf (aCells a k c a2 k2 c2 a3 k3 c3 bm 0)) (F' := F) Tryz.results77 rfl subA (hN 0 (.inr ⟨rfl, by rw [hm0]; have c48 : ty = sg := c47; simp [c48]⟩))
      refine qs 13 ?_
      exact Gb (L' := Lf (aCells a k c a2 k2 c2 a3 k3 c3 bm 0)) (F' := F) Tryz.results77 rfl subA (hT (by rw [hm0]; have c48 : ty = sg := c47; simp [c48]))
     refine qs 17 ?_
     exact Gb (L' := Lf (aCells a k c a2 k2 c2 a3 k3 c3 bm 0)) (F' := F) Tryz.results77 rfl subA (hN 0 (.inr ⟨rfl, by rw [hm0]; have c48 : ty ≠ sg := c47; simp [c48]⟩))
    refine qs 22 ?_
    exact Gb (L' := Lf (aCells a k c a2 k2 c2 a3 k3 c3 bm 0)) (F' := F) Tryz.results77 rfl subA (hN 0 (.inr ⟨rfl, by rw [hm0]; rfl⟩))
   refine qs 7 ?_
   refine Ga (GC HU HU HU (fun c59 => ?_) (fun c59 => ?_))
   ·refine qs 16 ?_
    exact Gb (L' := Lf (aCells a k c a2 k2 c2 a3 k3 c3 bm 0)) (F' := F) Tryz.results77 rfl subA (hN 0 (.inr ⟨rfl, hm1 HW⟩))
   refine qs 6 ?_
   refine Ga (GC HU HU HU (fun c60 => ?_) (fun c60 => ?_))
   ·refine qs 16 ?_
    exact Gb (L' := Lf (aCells a k c a2 k2 c2 a3 k3 c3 bm 0)) (F' := F) Tryz.results77 rfl subA (hN 0 (.inr ⟨rfl, hm1 HW⟩))
   refine qs 5 ?_
   refine Ga (GC HU HU HU (fun c61 => ?_) (fun c61 => ?_))
   ·refine qs 13 ?_
    exact Gb (L' := Lf (aCells a k c a2 k2 c2 a3 k3 c3 bm 0)) (F' := F) Tryz.results77 rfl subA (hN 0 (.inr ⟨rfl, hm1 HW⟩))
   refine qs 11 ?_
   refine Ga (Gu HU HU ?_)
   refine qs 1 ?_
   refine Ga (Gs (cs := aCells a k c a2 k2 c2 a3 k3 c3 bm 0) HU HU HU ?_ (i := ia + 3) (hi := HA _) (ho := HU))
   refine AL.weak (SubR.refl _) (Hn (show _ = _ :: _ :: _ :: Lf (aCells a k c a2 k2 c2 a3 k3 c3 bm e) from congrArg (fun z => _ :: _ :: _ :: z) (SA _ _))) ?_
   refine qs 9 ?_
   exact Gb (L' := Lf (aCells a k c a2 k2 c2 a3 k3 c3 bm e)) (F' := F) Tryz.results77 rfl subA (hN e (.inl ⟨c40, hm2 c40 HW⟩))
  refine qs 9 ?_
  have h9 : (tyAt T i).kind = 9 := by rw [hie]; exact c26
  have hpn := param_n hu.1 hi.1 hi.2 h9
  rw [hie] at hpn
  have hmp := meth_par (N := N) (B := B) (g := sg) (w := w) h9
  rw [hie] at hmp
  refine Ga (Gd HU HU (tbound_c T B hB T[i.toNat] hpn.1 (ia := ia + 1) (HA _) (show fL T a k c ∈ _ from memA) (show fI B a3 k3 c3 ∈ _ from memA) (fun b a5 k5 c5 a6 k6 c6 hb => ?_) (fun hb => ?_)))
  all_goals rw [hb] at hmp
  ·refine qs 3 ?_
   refine Ga (Gq HU (fun b13 => ?_))
   refine qs 9 ?_
   simp only [Option.getD_some] at hmp
   obtain ⟨kb, _, kb0, kb1, hbe, hb7, _⟩ := bound_is hB hpn.1 hb
   obtain ⟨hkb, hke⟩ := GQ kb0 kb1
   have hif := iface_n hu.1 kb0 kb1 (by rw [← hbe]; exact hb7)
   have hokb := Hp hu.1 _ (List.getElem_mem hkb)
   rw [← hke, ← hbe] at hokb
   rw [← hbe] at hif
   refine Ga (Gd HU HU (tindexS_c b.words (by have := hokb.words; omega) w (show fW b a5 k5 c5 ∈ _ from memA) (fun n hn hx => ?_) (fun hx => ?_)))
   ·refine qs 6 ?_
    refine Ga (Hh HU HU HU (fun _ => ?_) (fun c77 => absurd c77 HW))
    refine qs 4 ?_
    have hnk : n < b.kids.length := by omega
    refine Gh HU HU (Gj (k := n) HU HU HU HU (enc := eI) (lst := b.kids) (show fK b a6 k6 c6 ∈ _ from memA) hnk (fun _ _ => ?_))
    rw [kid_some hx hnk] at hmp
    refine Gh HU HU (GE HU HU ?_)
    intros
    refine qs 1 ?_
    refine Gh HU HU (GC HU HU HU (fun c85 => ?_) (fun c85 => ?_))
    ·refine qs 5 ?_
     exact Gb (L' := Lf (aCells a k c a2 k2 c2 a3 k3 c3 bm 0)) (F' := F) Tryz.results77 rfl subA (hT (by rw [hmp, c85]; simp))
    refine qs 5 ?_
    exact Gb (L' := Lf (aCells a k c a2 k2 c2 a3 k3 c3 bm 0)) (F' := F) Tryz.results77 rfl subA (hN 0 (.inr ⟨rfl, by rw [hmp]; simp [c85]⟩))
   refine qs 6 ?_
   refine Ga (Hh HU HU HU (fun c77 => absurd c77 (by decide)) (fun _ => ?_))
   refine qs 13 ?_
   exact Gb (L' := Lf (aCells a k c a2 k2 c2 a3 k3 c3 bm 0)) (F' := F) Tryz.results77 rfl subA (hN 0 (.inr ⟨rfl, by rw [hmp, kid_none hx]; rfl⟩))
  refine qs 3 ?_
  refine Ga (Gq HU (fun b13 => ?_))
  refine qs 9 ?_
  refine Ga (Gd HU HU (tindexS_c [] (by simp) w (show fS [] none 0 0 ∈ _ from memA) (fun n hn _ => absurd hn (by simp)) (fun hx => ?_)))
  refine qs 6 ?_
  refine Ga (Hh HU HU HU (fun c77 => absurd c77 (by decide)) (fun _ => ?_))
  refine qs 13 ?_
  exact Gb (L' := Lf (aCells a k c a2 k2 c2 a3 k3 c3 bm 0)) (F' := F) Tryz.results77 rfl subA (hN 0 (.inr ⟨rfl, by rw [hmp, kid_none hx]; rfl⟩))
theorem ask1_c (T : List Ty) (s : Int) {a a2 : Option Addr} {k c k2 c2 b i : Nat} (mL : fL T a k c ∈ F) (hb : L[i]? = some (Res.cells b #[.slice a k c, .slice a2 k2 c2] 25)) (hT : s < 0 ∨ s ≥ T.length → R (.bool true) L F) (hF : ¬(s < 0 ∨ s ≥ T.length) → R (.bool false) L F) :
    ACalls Tryz.prog W0 128 #[.int .i64 s, .pointer (some ⟨b, 0, none⟩)] L F R := by
  refine Ge Tryz.func128 HU Tryz.ntmps128 HU ?_
  refine qs 8 ?_
  refine Ga (GB HU HU HU (fun c5 => ?_) (fun c5 => ?_))
  ·refine qs 11 ?_
   exact Gb (L' := L) (F' := F) Tryz.results128 rfl subA (hT (.inl c5))
  refine qs 3 ?_
  refine Gh HU HU (Gw (cs := [.slice a k c, .slice a2 k2 c2]) HU HU ?_ (hi := hb) (hv := HU))
  refine Gh HU HU (Gv HU HU (fun hl10 => ?_) (enc := eTy) (lst := T) (hm := mL))
  refine Gh HU HU (Hh HU HU HU (fun c11 => ?_) (fun c11 => ?_))
  ·refine qs 5 ?_
   exact Gb (L' := L) (F' := F) Tryz.results128 rfl subA (hT (.inr c11))
  refine qs 5 ?_
  exact Gb (L' := L) (F' := F) Tryz.results128 rfl subA (hF HW)
theorem task_c (g : Glob W0) (T : List Ty) (N : List Nmd) (hok : ∀ t ∈ T, TyOk t) (hno : ∀ n ∈ N, NmOk n) (B pl : List Int) {a a2 a3 a4 : Option Addr} {k c k2 c2 k3 c3 k4 c4 : Nat} (mL : fL T a k c ∈ F) (mN : fN N a2 k2 c2 ∈ F) (mB : fI B a3 k3 c3 ∈ F) (mP : fI pl a4 k4 c4 ∈ F)
    (hB : ∀ e, e ≠ 0 → badA T N B pl e → R (.tuple #[.pointer none, .int .i64 e]) L F)
    (hO : goodA T N B pl → ∀ ba bm r, R (.tuple #[.pointer (some ⟨ba, 0, none⟩), .int .i64 0]) (Res.cells ba (aCells a k c a2 k2 c2 a3 k3 c3 bm 0).toArray 140 :: Res.map bm vI Value.bool (fun _ => none) :: r :: L) F) :
    ACalls Tryz.prog W0 74 #[.agg #[.slice a k c, .slice a2 k2 c2], .slice a3 k3 c3, .slice a4 k4 c4] L F R := by
  refine Ge Tryz.func74 HU Tryz.ntmps74 HU ?_
  refine qs 2 ?_
  refine Ga (GJ HU HU (fun b3 => ?_))
  refine qs 8 ?_
  refine Ga (Gd HU HU (uright_c g T N hok hno mL mN (fun c11 => ?_) (fun c11 => ?_)))
  ·refine qs 3 ?_
   refine Gh HU HU (Gv HU HU (fun hl15 => ?_) (enc := eI) (lst := B) (hm := memA))
   refine Gh HU HU (AO.gtr HU HU HU (fun c16 => ?_) (fun c16 => ?_))
   ·refine qs 12 ?_
    exact Hg (L' := L) (F' := F) Tryz.results74 rfl rfl subA (hB 1 (by decide) (.inl ⟨fun h => by have := h.2.1; omega, rfl⟩))
   refine qs 10 ?_
   refine Ga (Gv HU HU (fun hl19 => ?_) (enc := eI) (lst := B) (hm := memA))
   refine qs 4 ?_
   refine GN (fun (v : Nat) => v ≤ B.length ∧ ∀ b ∈ B.take v, 0 ≤ b ∧ b < T.length ∧ (tyAt T b).kind = 7) (fun v => [(2, .slice a4 k4 c4), (1, .slice a3 k3 c3), (3, .pointer (some ⟨b3, 0, none⟩)), (18, .slice a3 k3 c3), (19, .int .i64 B.length), (20, .int .i64 (v : Int))]) (fun _ => _) (fun _ => _) (fun v => B.length - v) 0 ⟨Nat.zero_le _, by simp⟩ srA (Gk _ _) ?_
   rintro v ⟨hv, hall⟩
   refine qs 2 ?_
   refine Ga (GB HU HU HU (fun c21 => ?_) (fun c21 => ?_))
   ·refine qs 10 ?_
    have hvl : v < B.length := by omega
    refine Ga (Gj HU HU HU HU (enc := eI) (lst := B) (show fI B a3 k3 c3 ∈ _ from memA) hvl (fun _ _ => ?_))
    refine Ga (GE HU HU ?_)
    intros
    refine qs 6 ?_
    refine Ga (GB HU HU HU (fun c25 => ?_) (fun c25 => ?_))
    ·refine qs 31 ?_
     exact Hg (L' := L) (F' := F) Tryz.results74 rfl rfl subA (hB 1 (by decide) (.inl ⟨fun h => by have := (h.2.2 _ (List.getElem_mem hvl)).1; omega, rfl⟩))
    refine qs 4 ?_
    refine Gh HU HU (Gv HU HU (fun hl30 => ?_) (enc := eTy) (lst := T) (hm := memA))
    refine Gh HU HU (Hh HU HU HU (fun c31 => ?_) (fun c31 => ?_))
    ·refine qs 25 ?_
     exact Hg (L' := L) (F' := F) Tryz.results74 rfl rfl subA (hB 1 (by decide) (.inl ⟨fun h => by have := (h.2.2 _ (List.getElem_mem hvl)).2.1; omega, rfl⟩))
    refine qs 5 ?_
    obtain ⟨hbn, hbe⟩ := GQ (T := T) (i := B[v]) HW HW
    refine Gh HU HU (Gj (k := B[v].toNat) HU HU HU HW (enc := eTy) (lst := T) (show fL T a k c ∈ _ from memA) hbn (fun _ _ => ?_))
    refine Gh HU HU (HE HU HU (fun _ => ?_))
    refine Gh HU HU (GE HU HU ?_)
    intros
    refine Gh HU HU (GK HU HU HU (fun c40 => ?_) (fun c40 => ?_))
    ·refine qs 16 ?_
     exact Hg (L' := L) (F' := F) Tryz.results74 rfl rfl subA (hB 1 (by decide) (.inl ⟨fun h => by have := (h.2.2 _ (List.getElem_mem hvl)).2.2; rw [hbe] at this; exact c40 this, rfl⟩))
    refine qs 11 ?_
    exact Gl (v + 1) ⟨hvl, fun x hx => by
     rw [List.take_succ_eq_append_getElem hvl] at hx
     rcases List.mem_append.1 hx with hx | hx
     · exact hall x hx
     rw [List.mem_singleton.1 hx]; exact ⟨by omega, by omega, by rw [hbe]; exact c40⟩⟩ HW srA subF
   refine qs 13 ?_
   refine Ga (Hq HU HU ?_)
   obtain rfl : v = B.length := by omega
   rw [List.take_length] at hall
   have hbp : bndP T B := ⟨by omega, hall⟩
   refine Ga (Gd HU HU (containsFuncI_c pl (show fI pl a4 k4 c4 ∈ _ from memA) 128 [.pointer (some ⟨b3, 0, none⟩)] (fun s => s < 0 ∨ s ≥ T.length) (fun s F' hF' R' h1 h2 => ask1_c T s (hF' _ memA) (i := 0) HU h1 h2) (fun c45 => ?_) (fun c45 => ?_)))
   ·refine qs 11 ?_
    exact Hg (L' := L) (F' := F) Tryz.results74 rfl rfl subA (hB 8 (by decide) (.inr ⟨⟨c11, hbp⟩, fun h => c45 fun j hj => by have := h _ (List.getElem_mem hj); omega, rfl⟩))
   refine qs 9 ?_
   refine Ga (AO.makeMap vI Value.bool HU (fun b48 => ?_))
   refine Ga (GI HU HU HU (Ga (GJ HU HU (fun b50 => ?_))))
   refine qs 5 ?_
   exact Hg Tryz.results74 rfl rfl (Gk _ _) (hO ⟨⟨c11, hbp⟩, fun p hp => by obtain ⟨j, hj, rfl⟩ := List.getElem_of_mem hp; have := c45 j hj; omega⟩ b50 b48 _)
  refine qs 17 ?_
  exact Hg (L' := L) (F' := F) Tryz.results74 rfl rfl subA (hB 1 (by decide) (.inl ⟨fun h => c11 h.1, rfl⟩))
end
end Go.Sy
namespace Go.Sy
open Go Go.Proofs Go.RowKit
theorem cmpI0 {N : List Nmd} {T : List Ty} (hu : rightU T N) : CmpI N T 0 (T, []) := ⟨hu, List.prefix_rfl, List.nodup_nil, fun x hx => (by cases hx), Nat.zero_le _⟩
theorem seen0 : seenP [] (fun _ => none) := fun t => by simp
def hasTP (T : List Ty) (N : List Nmd) (B : List Int) (i c : Int) (is : Bool) (e : Int) : Prop := (e ≠ 0 ∧ badA T N B [i, c] e ∧ is = false) ∨ (goodA T N B [i, c] ∧ (((tyAt T c).kind ≠ 7 ∧ e = 1 ∧ is = false) ∨ ((tyAt T c).kind = 7 ∧ tellB (isR N B T i c) is e)))
section
variable {N : List Nmd} {B : List Int} {T T1 : List Ty} {i c e : Int} {t : Ty} {q : Nat}
theorem words_step (hq : q < t.words.length) (hk : q < t.kids.length) (h : wordsR N B T i t q = .ok true) : wordsR N B T i t (q + 1) = if isName t.words[q] = true then methR N B T i t.words[q] t.kids[q] else .ok true := by
  simp only [wordsR, h]; rw [Gt [] hq, Gt 0 hk]
theorem words_stop (hb : badM (wordsR N B T i t q) e) : ∀ r, q ≤ r → badM (wordsR N B T i t r) e
  | 0, h => by obtain rfl : q = 0 := by omega
               exact hb
  | r + 1, h => by
    by_cases c : q = r + 1
    · exact c ▸ hb
    have ih := words_stop hb r HW
    rcases ih with ⟨h1, h2⟩ | ⟨h1, h2⟩
    · exact .inl ⟨h1, by simp only [wordsR, h2]⟩
    exact .inr ⟨h1, by simp only [wordsR, h2]⟩
theorem inside_ok (hu : rightU T N) (hB : bndP T B) (h0 : 0 ≤ i) (hi : i < T.length) {l : List Tm} (h : insideR N B T i l = .ok (some T1)) : rightU T1 N ∧ T <+: T1 := by
  unfold insideR at h
  split at h
  · rename_i h9
    split at h
    · rename_i h2
      cases hb : boundR T B (tyAt T i) with
      | none => rw [hb] at h2; exact absurd h2 (by decide)
      | some b =>
        rw [hb] at h
        simp only [Option.getD_some] at h
        obtain ⟨kb, _, kb0, kb1, hbe, hb7, _⟩ := bound_is hB (param_n hu.1 h0 hi h9).1 hb
        have htm := trm_there hu.1 kb0 kb1 (by rw [← hbe]; exact hb7)
        rw [← hbe] at htm
        exact all_inv (f := fun T x => withinR N T x l) (fun s => rightU s N ∧ T <+: s) (trmL b) T T1 ⟨hu, List.prefix_rfl⟩ (fun x hx a c ha hac => by
          have hx2 := htm x hx
          have := ha.2.length_le
          have := within_ok ha.1 hx2.1 HW hac
          exact ⟨this.1, ha.2.trans this.2⟩) h
    cases h
  split at h
  · cases h
  rename_i hx
  obtain ⟨u1, u2, _⟩ := undR_ok hu h0 hi hx
  split at h
  · cases h
  have := u2.length_le
  have h3 := within_ok u1 (x := (([61] : List UInt8), i)) h0 (by simp only; omega) h
  exact ⟨h3.1, u2.trans h3.2⟩
theorem is_bad (h : badM (wordsR N B T i (tyAt T c) (tyAt T c).words.length) e) : badM (isR N B T i c) e := by
  rcases h with ⟨h1, h2⟩ | ⟨h1, h2⟩
  · exact .inl ⟨h1, by unfold isR; rw [h2]⟩
  exact .inr ⟨h1, by unfold isR; rw [h2]⟩
theorem is_out (hw : wordsR N B T i (tyAt T c) (tyAt T c).words.length = .ok true) (h2 : 2 ≤ (tyAt T c).n) (h : badO (insideR N B T i (trmL (tyAt T c))) e) : badM (isR N B T i c) e := by
  rcases h with ⟨h1, h3⟩ | ⟨h1, h3⟩
  · exact .inl ⟨h1, by unfold isR; rw [hw]; simp only; rw [if_pos h2, h3]⟩
  exact .inr ⟨h1, by unfold isR; rw [hw]; simp only; rw [if_pos h2, h3]⟩
theorem is_even (hw : wordsR N B T i (tyAt T c) (tyAt T c).words.length = .ok true) (h : (if 2 ≤ (tyAt T c).n then insideR N B T i (trmL (tyAt T c)) else .ok (some T)) = .ok (some T1)) (he : (tyAt T c).n % 2 = 0) : isR N B T i c = .ok true := by
  unfold isR; rw [hw]; simp only; rw [h]; simp only; rw [if_neg HW]
theorem is_odd (hw : wordsR N B T i (tyAt T c) (tyAt T c).words.length = .ok true) (h : (if 2 ≤ (tyAt T c).n then insideR N B T i (trmL (tyAt T c)) else .ok (some T)) = .ok (some T1)) (he : (tyAt T c).n % 2 ≠ 0) (_ : 0 ≤ (tyAt T c).n) :
    (∀ s, cmpR N B 400 (T1, []) i = .ok (some s) → isR N B T i c = .ok true) ∧ (badO (cmpR N B 400 (T1, []) i) e → badM (isR N B T i c) e) := by
  have hx : isR N B T i c = match cmpR N B 400 (T1, []) i with | .error e => .error e | .ok none => .ok false | .ok (some _) => .ok true := by
    unfold isR; rw [hw]; simp only; rw [h]; simp only; rw [if_pos HW]
    cases cmpR N B 400 (T1, []) i with
    | error e => rfl
    | ok o => cases o <;> rfl
  refine ⟨fun s hs => by rw [hx, hs], fun hb => ?_⟩
  rcases hb with ⟨h1, h2⟩ | ⟨h1, h2⟩
  · exact .inl ⟨h1, by rw [hx, h2]⟩
  exact .inr ⟨h1, by rw [hx, h2]⟩
end
attribute [local irreducible] AC AT AO AK AH ACalls Sub Res.cells Res.obj Res.nix Res.own Res.map Exit.then Exit.inBlock bodyPost Code.wp Code.wpIn WL Next Post Kont
section
variable {W0 : World} {L : List Res} {F : List Fact} {R : Value → List Res → List Fact → Prop}
set_option maxRecDepth 100000
set_option maxHeartbeats 16000000
theorem tHas_c (g : Glob W0) (T : List Ty) (N : List Nmd) (hok : ∀ t ∈ T, TyOk t) (hno : ∀ n ∈ N, NmOk n) (B : List Int) (i cc : Int) {a a2 a3 : Option Addr} {k c k2 c2 k3 c3 : Nat} (mL : fL T a k c ∈ F) (mN : fN N a2 k2 c2 ∈ F) (mB : fI B a3 k3 c3 ∈ F) (mE : Fact.slc (.slice none 0 0) 5 [] ∈ F) (mM : Fact.slc (.slice none 0 0) 3 [] ∈ F) (m4 : Fact.slc (.slice none 0 0) 4 [] ∈ F) (m1 : Fact.slc (.slice none 0 0) 1 [] ∈ F)
    (h : ∀ is e, hasTP T N B i cc is e → R (.tuple #[.bool is, .int .i64 e]) L F) :
    ACalls Tryz.prog W0 31 #[.agg #[.slice a k c, .slice a2 k2 c2], .slice a3 k3 c3, .int .i64 i, .int .i64 cc] L F R := by
  refine Ge Tryz.func31 HU Tryz.ntmps31 HU ?_
  refine qs 2 ?_
  refine Ga (GJ HU HU (fun b4 => ?_))
  refine qs 10 ?_
  refine Ga (Gi HU HU HU HU HU (fun b20 => ?_))
  refine Gz (GR (GP (i := 0) (enc := eI) (sz := 1) [i, cc] HU (.val (.val .nil)) (fun _ => rfl) HU (by simp only [List.length_cons, List.length_nil, maxLen]; omega)) Gn) ?_
  refine Ga (Gd HU HU (task_c g T N hok hno B [i, cc] (show fL T a k c ∈ _ from memA) (show fN N a2 k2 c2 ∈ _ from memA) (show fI B a3 k3 c3 ∈ _ from memA) (show fI [i, cc] _ _ _ ∈ _ from memA) (fun e he hb => ?_) (fun hg ba bm r => ?_)))
  ·refine qs 12 ?_
   refine Ga (GK HU HU HU (fun _ => ?_) (fun c26 => absurd c26 he))
   refine qs 14 ?_
   exact Hg (L' := L) (F' := F) Tryz.results31 rfl rfl subA (h false e (.inl ⟨he, hb, rfl⟩))
  refine qs 12 ?_
  have hi := hg.2 i (.head _)
  have hc := hg.2 cc (.tail _ (.head _))
  obtain ⟨hcn, hce⟩ := GQ hc.1 hc.2
  have hokc := hok _ (List.getElem_mem hcn)
  refine Ga (GK HU HU HU (fun c26 => absurd HU c26) (fun _ => ?_))
  refine qs 9 ?_
  refine Ga (Gj (k := cc.toNat) HU HU HU HW (enc := eTy) (lst := T) (show fL T a k c ∈ _ from memA) hcn (fun _ _ => ?_))
  refine Ga (HE HU HU (fun _ => ?_))
  refine Ga (GE HU HU ?_)
  intros
  refine Ga (GK HU HU HU (fun c35 => ?_) (fun c35 => ?_))
  ·refine qs 13 ?_
   exact Hg (L' := L) (F' := F) Tryz.results31 rfl rfl subA (h false 1 (.inr ⟨hg, .inl ⟨by rw [hce]; exact c35, rfl, rfl⟩⟩))
  refine qs 12 ?_
  have hif := iface_n hg.1.1.1 hc.1 hc.2 (by rw [hce]; exact c35)
  rw [hce] at hif
  refine Ga (Gj (k := cc.toNat) HU HU HU HW (enc := eTy) (lst := T) (show fL T a k c ∈ _ from memA) hcn (fun _ _ => ?_))
  refine Ga (GU HU HU ?_)
  intro a40 k40 z40 d40 e40 f40
  refine Ga (Gq HU (fun b12 => ?_))
  refine qs 8 ?_
  refine Ga (Gv HU HU (fun hl43 => ?_) (enc := eS) (lst := T[cc.toNat].words) (hm := memA))
  refine qs 4 ?_
  refine GN (fun (v : Nat) => v ≤ T[cc.toNat].words.length ∧ wordsR N B T i T[cc.toNat] v = .ok true) (fun v => [(2, .int .i64 i), (10, .pointer (some ⟨ba, 0, none⟩)), (12, .pointer (some ⟨b12, 0, none⟩)), (42, .slice a40 k40 z40), (43, .int .i64 T[cc.toNat].words.length), (44, .int .i64 (v : Int))]) (fun _ => _) (fun _ => _) (fun v => T[cc.toNat].words.length - v) 0 ⟨Nat.zero_le _, rfl⟩ srA (Gk _ _) ?_
  rintro v ⟨hv, hw⟩
  refine qs 2 ?_
  refine Ga (GB HU HU HU (fun c45 => ?_) (fun c45 => ?_))
  ·refine qs 11 ?_
   have hvl : v < T[cc.toNat].words.length := by omega
   have hvk : v < T[cc.toNat].kids.length := by omega
   have hstep := words_step hvl hvk hw
   refine Ga (Gj HU HU HU HU (enc := eS) (lst := T[cc.toNat].words) (show fW T[cc.toNat] a40 k40 z40 ∈ _ from memA) hvl (fun _ _ => ?_))
   refine Ga (GE HU HU ?_)
   intros
   refine qs 7 ?_
   refine Ga (Gd HU HU (Hz T[cc.toNat].words[v] (fun c50 => ?_) (fun c50 => ?_)))
   ·refine qs 7 ?_
    refine Gh HU HU (Gj HU HU HU HU (enc := eI) (lst := T[cc.toNat].kids) (show fK T[cc.toNat] d40 e40 f40 ∈ _ from memA) hvk (fun _ _ => ?_))
    refine Gh HU HU (GE HU HU ?_)
    intros
    rw [if_pos c50] at hstep
    refine Gh HU HU (Gd HU HU (tmethod_c g N hno B T hg.1.1 hg.1.2 i hi T[cc.toNat].words[v] c50 T[cc.toNat].kids[v] (fun w => _ :: Res.cells ba w.toArray 140 :: _) (bm := bm) (ia := 1) (fun _ => rfl) (fun _ _ => rfl) (show fL T a k c ∈ _ from memA) (show fN N a2 k2 c2 ∈ _ from memA) (show fI B a3 k3 c3 ∈ _ from memA) memA memA memA memA (fun hx => ?_) (fun e hx => ?_)))
    ·refine qs 12 ?_
     exact Gl (v + 1) ⟨hvl, by rw [hstep, hx]⟩ HW srA subF
    refine qs 8 ?_
    refine Ga (Gd HU HU (toldF_c (ia := 1) HU ?_))
    refine qs 12 ?_
    exact Hg (L' := L) (F' := F) Tryz.results31 rfl rfl subA (h false e (.inr ⟨hg, .inr ⟨by rw [hce]; exact c35, .inr ⟨rfl, is_bad (words_stop (by rw [hce, hstep]; exact hx) _ (by rw [hce]; exact hvl))⟩⟩⟩))
   refine qs 22 ?_
   rw [if_neg (by rw [c50]; decide)] at hstep
   exact Gl (v + 1) ⟨hvl, hstep⟩ HW srA subF
  refine qs 13 ?_
  obtain rfl : v = T[cc.toNat].words.length := by omega
  have hwl := trmN_len T[cc.toNat] T[cc.toNat].words.length
  have hww := hokc.words
  rw [← hce] at hw
  refine Ga (Gd HU HU (trestricts_c T[cc.toNat] (fun c69 => ?_) (fun c69 => ?_)))
  ·refine qs 4 ?_
   refine Gh HU HU (Gd HU HU (tterms_c T[cc.toNat] hokc.words (Nat.le_of_eq hif.2.2) (show fW T[cc.toNat] a40 k40 z40 ∈ _ from memA) (show fK T[cc.toNat] d40 e40 f40 ∈ _ from memA) (fun a74 k74 c74 => ?_)))
   refine Gh HU HU (Gd HU HU (tinside_c g N hno B T hg.1.1 hg.1.2 i hi.1 hi.2 (trmL T[cc.toNat]) (by unfold trmL; omega) (fun w => _ :: Res.cells ba w.toArray 140 :: _) (bm := bm) (ia := 1) (fun _ => rfl) (fun _ _ => rfl) (show fL T a k c ∈ _ from memA) (show fN N a2 k2 c2 ∈ _ from memA) (show fI B a3 k3 c3 ∈ _ from memA) memA (show fTm _ a74 k74 c74 ∈ _ from memA) (fun T1 a75 k75 c75 hx => ?_) (fun e a75 k75 c75 hx => ?_)))
   ·refine qs 12 ?_
    refine Ga (AO.and1 HU HU hif.1 hif.2.1 HU ?_)
    refine Ga (GC HU HU HU (fun c86 => ?_) (fun c86 => ?_))
    ·refine qs 5 ?_
     refine Ga (Gd HU HU (toldT_c (ia := 1) HU ?_))
     refine qs 7 ?_
     exact Hg (L' := L) (F' := F) Tryz.results31 rfl rfl subA (h true 0 (.inr ⟨hg, .inr ⟨by rw [hce]; exact c35, .inl ⟨rfl, rfl, is_even hw (by rw [hce, if_pos c69]; exact hx) (by rw [hce]; exact c86)⟩⟩⟩))
    refine qs 3 ?_
    have hi1 := inside_ok hg.1.1 hg.1.2 hi.1 hi.2 hx
    have hl1 := hi1.2.length_le
    refine Gh HU HU (Gd HU HU (tcompares_c g N hno B (a2 := a2) (k2 := k2) (c2 := c2) (a3 := a3) (k3 := k3) (c3 := c3) 400 (fun w m => _ :: Res.cells ba w.toArray 140 :: Res.map bm vI Value.bool m :: _) (ia := 1) (im := 2) (fun _ _ => rfl) (fun _ _ => rfl) (fun _ _ _ => rfl) (fun _ _ _ => rfl) 0 (Nat.le_refl _) T1 T1 [] (cmpI0 hi1.1) (hg.1.2.up hi1.2) i hi.1 HW _ seen0 (show fL T1 a75 k75 c75 ∈ _ from memA) (show fN N a2 k2 c2 ∈ _ from memA) (show fI B a3 k3 c3 ∈ _ from memA) memA (fun T' A' m' a6 k6 c6 hx2 hs => ?_) (fun e m' a6 k6 c6 hx2 => ?_)))
    ·refine qs 1 ?_
     refine Ga (Gd HU HU (toldT_c (ia := 1) HU ?_))
     refine qs 7 ?_
     exact Hg (L' := L) (F' := F) Tryz.results31 rfl rfl subA (h true 0 (.inr ⟨hg, .inr ⟨by rw [hce]; exact c35, .inl ⟨rfl, rfl, (is_odd (e := 0) hw (by rw [hce, if_pos c69]; exact hx) (by rw [hce]; exact c86) (by rw [hce]; exact hif.1)).1 _ hx2⟩⟩⟩))
    refine qs 1 ?_
    refine Ga (Gd HU HU (toldF_c (ia := 1) HU ?_))
    refine qs 7 ?_
    exact Hg (L' := L) (F' := F) Tryz.results31 rfl rfl subA (h false e (.inr ⟨hg, .inr ⟨by rw [hce]; exact c35, .inr ⟨rfl, (is_odd hw (by rw [hce, if_pos c69]; exact hx) (by rw [hce]; exact c86) (by rw [hce]; exact hif.1)).2 hx2⟩⟩⟩))
   refine qs 8 ?_
   refine Ga (Gd HU HU (toldF_c (ia := 1) HU ?_))
   refine qs 8 ?_
   exact Hg (L' := L) (F' := F) Tryz.results31 rfl rfl subA (h false e (.inr ⟨hg, .inr ⟨by rw [hce]; exact c35, .inr ⟨rfl, is_out hw (by rw [hce]; exact c69) (by rw [hce]; exact hx)⟩⟩⟩))
  refine qs 18 ?_
  refine Ga (AO.and1 HU HU hif.1 hif.2.1 HU ?_)
  refine Ga (GC HU HU HU (fun c86 => ?_) (fun c86 => ?_))
  ·refine qs 5 ?_
   refine Ga (Gd HU HU (toldT_c (ia := 1) HU ?_))
   refine qs 7 ?_
   exact Hg (L' := L) (F' := F) Tryz.results31 rfl rfl subA (h true 0 (.inr ⟨hg, .inr ⟨by rw [hce]; exact c35, .inl ⟨rfl, rfl, is_even hw (by rw [hce, if_neg c69]) (by rw [hce]; exact c86)⟩⟩⟩))
  refine qs 3 ?_
  refine Gh HU HU (Gd HU HU (tcompares_c g N hno B (a2 := a2) (k2 := k2) (c2 := c2) (a3 := a3) (k3 := k3) (c3 := c3) 400 (fun w m => _ :: Res.cells ba w.toArray 140 :: Res.map bm vI Value.bool m :: _) (ia := 1) (im := 2) (fun _ _ => rfl) (fun _ _ => rfl) (fun _ _ _ => rfl) (fun _ _ _ => rfl) 0 (Nat.le_refl _) T T [] (cmpI0 hg.1.1) hg.1.2 i hi.1 hi.2 _ seen0 (show fL T a k c ∈ _ from memA) (show fN N a2 k2 c2 ∈ _ from memA) (show fI B a3 k3 c3 ∈ _ from memA) memA (fun T' A' m' a6 k6 c6 hx2 hs => ?_) (fun e m' a6 k6 c6 hx2 => ?_)))
  ·refine qs 1 ?_
   refine Ga (Gd HU HU (toldT_c (ia := 1) HU ?_))
   refine qs 7 ?_
   exact Hg (L' := L) (F' := F) Tryz.results31 rfl rfl subA (h true 0 (.inr ⟨hg, .inr ⟨by rw [hce]; exact c35, .inl ⟨rfl, rfl, (is_odd (e := 0) hw (by rw [hce, if_neg c69]) (by rw [hce]; exact c86) (by rw [hce]; exact hif.1)).1 _ hx2⟩⟩⟩))
  refine qs 1 ?_
  refine Ga (Gd HU HU (toldF_c (ia := 1) HU ?_))
  refine qs 7 ?_
  exact Hg (L' := L) (F' := F) Tryz.results31 rfl rfl subA (h false e (.inr ⟨hg, .inr ⟨by rw [hce]; exact c35, .inr ⟨rfl, (is_odd hw (by rw [hce, if_neg c69]) (by rw [hce]; exact c86) (by rw [hce]; exact hif.1)).2 hx2⟩⟩⟩))
end
end Go.Sy
namespace Go.Sy
open Go Go.Proofs
section
variable {T P Q P2 Q2 : List Ty} {N : List Nmd} {i j k l : Int}
theorem bound_nil {T : List Ty} {t : Ty} (hn : 0 ≤ t.n) : boundR T [] t = none := by
  unfold boundR
  rw [if_neg (fun h => by have := h.2; simp at this; omega)]
def OutR (T P Q : List Ty) (N : List Nmd) (o o2 : Option (List Ty × List Int)) : Prop := (o = none ∧ o2 = none) ∨ ∃ P2 A Q2 B, o = some (P2, A) ∧ o2 = some (Q2, B) ∧ TwoU T P2 Q2 N ∧ P <+: P2 ∧ Q <+: Q2 ∧ All2 (EqI T P2 Q2) A B
theorem all_two {f : Nat} (hs : ∀ (P Q : List Ty) (A B : List Int) (i j : Int), TwoU T P Q N → All2 (EqI T P Q) A B → EqI T P Q i j → ∀ o o2, cmpR N [] f (P, A) i = .ok o → cmpR N [] f (Q, B) j = .ok o2 → OutR T P Q N o o2) : ∀ (l m : List Int) (P Q : List Ty) (A B : List Int), TwoU T P Q N → All2 (EqI T P Q) A B → All2 (EqI T P Q) l m → ∀ o o2, allR (cmpR N [] f) l (P, A) = .ok o → allR (cmpR N [] f) m (Q, B) = .ok o2 → OutR T P Q N o o2
  | [], [], P, Q, A, B, h, hA, _, o, o2, h1, h3 => by
    injection h1 with h1; injection h3 with h3
    subst h1 h3
    exact .inr ⟨P, A, Q, B, rfl, rfl, h, List.prefix_rfl, List.prefix_rfl, hA⟩
  | x :: l, y :: m, P, Q, A, B, h, hA, hl, o, o2, h1, h3 => by
    simp only [allR] at h1 h3
    cases x1 : cmpR N [] f (P, A) x with
    | error e => rw [x1] at h1; cases h1
    | ok u =>
      cases x3 : cmpR N [] f (Q, B) y with
      | error e => rw [x3] at h3; cases h3
      | ok v =>
        rw [x1] at h1
        rw [x3] at h3
        rcases hs P Q A B x y h hA hl.1 u v x1 x3 with ⟨rfl, rfl⟩ | ⟨P3, A3, Q3, B3, rfl, rfl, t, p1, p2, hA3⟩
        · injection h1 with h1; injection h3 with h3
          exact .inl ⟨h1.symm, h3.symm⟩
        simp only at h1 h3
        rcases all_two hs l m P3 Q3 A3 B3 t hA3 (hl.2.imp fun a b z => z.mono h.tw p1 p2) o o2 h1 h3 with e | ⟨P4, A4, Q4, B4, e1, e2, t2, q1, q2, hA4⟩
        · exact .inl e
        exact .inr ⟨P4, A4, Q4, B4, e1, e2, t2, p1.trans q1, p2.trans q2, hA4⟩
theorem cmp_two : ∀ (f : Nat) (P Q : List Ty) (A B : List Int) (i j : Int), TwoU T P Q N → All2 (EqI T P Q) A B → EqI T P Q i j → ∀ o o2, cmpR N [] f (P, A) i = .ok o → cmpR N [] f (Q, B) j = .ok o2 → OutR T P Q N o o2
  | 0, P, Q, A, B, i, j, h, hA, hij, o, o2, h1, h3 => by
    injection h1 with h1; injection h3 with h3
    subst h1 h3
    exact .inr ⟨P, A, Q, B, rfl, rfl, h, List.prefix_rfl, List.prefix_rfl, hA⟩
  | f + 1, P, Q, A, B, i, j, h, hA, hij, o, o2, h1, h3 => by
    have hl := hij.lt h.tw
    have hm := mem_two h.tw hA hij
    simp only [cmpR] at h1 h3
    by_cases c : i ∈ A
    · rw [if_pos c] at h1
      rw [if_pos (hm.1 c)] at h3
      injection h1 with h1; injection h3 with h3
      subst h1 h3
      exact .inr ⟨P, A, Q, B, rfl, rfl, h, List.prefix_rfl, List.prefix_rfl, hA⟩
    rw [if_neg c] at h1
    rw [if_neg (fun z => c (hm.2 z))] at h3
    cases x1 : undR P N i with
    | error e => rw [x1] at h1; cases h1
    | ok u =>
      cases x3 : undR Q N j with
      | error e => rw [x3] at h3; cases h3
      | ok v =>
        obtain ⟨P3, k⟩ := u
        obtain ⟨Q3, l⟩ := v
        obtain ⟨t, p1, p2, e⟩ := und_two h hij x1 x3
        rw [x1] at h1
        rw [x3] at h3
        simp only at h1 h3
        have hk := e.kind t.tw
        have hel := e.lt t.tw
        have hA3 : All2 (EqI T P3 Q3) (i :: A) (j :: B) := ⟨hij.mono h.tw p1 p2, hA.imp fun a b z => z.mono h.tw p1 p2⟩
        rw [hk] at h3
        split at h1
        · rename_i c1
          rw [if_pos c1] at h3
          injection h1 with h1; injection h3 with h3
          subst h1 h3
          exact .inr ⟨_, _, _, _, rfl, rfl, t, p1, p2, hA3⟩
        rename_i c1
        rw [if_neg c1] at h3
        split at h1
        · rename_i c2
          rw [if_pos c2] at h3
          have hf := e.flat t.tw HW
          rcases all_two (fun P Q A B i j => cmp_two f P Q A B i j) _ _ P3 Q3 _ _ t hA3 hf.2.2.2 _ _ h1 h3 with e | ⟨P4, A4, Q4, B4, e1, e2, t2, q1, q2, hA4⟩
          · exact .inl e
          exact .inr ⟨P4, A4, Q4, B4, e1, e2, t2, p1.trans q1, p2.trans q2, hA4⟩
        rename_i c2
        rw [if_neg c2] at h3
        have hb : ∀ {R : List Ty} {z : Int}, rightP R → 0 ≤ z → z < R.length → boundR R [] (tyAt R z) = none := fun {R z} hr z0 z1 => by
          by_cases h9 : (tyAt R z).kind = 9
          · exact bound_nil (param_n hr z0 z1 h9).1
          unfold boundR; rw [if_neg (fun h => h9 h.1)]
        rw [hb t.tw.rp e.1 hel.1] at h1
        rw [hb t.tw.rq e.2.1 hel.2] at h3
        injection h1 with h1; injection h3 with h3
        exact .inl ⟨h1.symm, h3.symm⟩
theorem cmp_same (h : TwoU T P Q N) (hij : EqI T P Q i j) {f : Nat} {o o2 : Option (List Ty × List Int)} (h1 : cmpR N [] f (P, []) i = .ok o) (h3 : cmpR N [] f (Q, []) j = .ok o2) : o.isSome = o2.isSome := by
  rcases cmp_two f P Q [] [] i j h trivial hij o o2 h1 h3 with ⟨rfl, rfl⟩ | ⟨_, _, _, _, rfl, rfl, _⟩ <;> rfl
def inC (S : List Tm) (i k : Int) : Prop := (([61] : List UInt8), i) ∈ S ∨ (([126] : List UInt8), k) ∈ S
theorem in_low (h : Two T P Q) (hkl : EqI T P Q k l) {S : List Tm} (hS : ∀ z ∈ S, 0 ≤ z.2 ∧ z.2 < T.length) (i : Int) : inC S i k ↔ inC S i l := by
  have key : (([126] : List UInt8), k) ∈ S ↔ (([126] : List UInt8), l) ∈ S := by
    constructor
    · intro hm
      have hb := hS _ hm
      rwa [EqI.one h hkl (EqI.base hb.1 hb.2)]
    intro hm
    have hb := hS _ hm
    rwa [EqI.inj h hkl (EqI.base hb.1 hb.2)]
  unfold inC
  rw [key]
theorem ins_cov (h : TwoU T P Q N) (h0 : 0 ≤ i) (hi : i < T.length) (h9 : (tyAt T i).kind ≠ 9) {S : List Tm} (hS : ∀ z ∈ S, 0 ≤ z.2 ∧ z.2 < T.length) {B : List Int} {Q1 : List Ty} (hq : undR Q N i = .ok (Q1, k)) {o : Option (List Ty)} (ho : insideR N B P i S = .ok o) : o.isSome = true ↔ (tyAt Q1 k).kind ≠ 7 ∧ inC S i k := by
  have lp := h.tw.tp.length_le
  have hp9 : (tyAt P i).kind ≠ 9 := by rw [tyAt_pre h.tw.tp h0 hi]; exact h9
  unfold insideR at ho
  rw [if_neg hp9] at ho
  cases x1 : undR P N i with
  | error e => rw [x1] at ho; cases ho
  | ok u =>
    obtain ⟨P1, m⟩ := u
    rw [x1] at ho
    simp only at ho
    obtain ⟨t, p1, p2, e⟩ := und_two h (EqI.base h0 hi) x1 hq
    rw [← in_low t.tw e hS, e.kind t.tw]
    have lp1 := p1.length_le
    split at ho
    · rename_i c
      injection ho with ho
      subst ho
      simp [c]
    rename_i c
    unfold withinR at ho
    unfold inC
    split at ho
    · rename_i c2
      injection ho with ho
      subst ho
      simp [c, c2]
    rename_i c2
    rw [if_neg (show ¬ ((([61] : List UInt8), i).1 = [126]) from (by decide : ¬ (([61] : List UInt8) = [126])))] at ho
    simp only at ho
    cases x2 : undR P1 N i with
    | error e => rw [x2] at ho; cases ho
    | ok u =>
      obtain ⟨P3, m2⟩ := u
      rw [x2] at ho
      simp only at ho
      have hself : TwoU T P P1 N := ⟨⟨h.tw.rp, t.tw.rp, h.tw.tp, t.tw.tp⟩, h.ut, h.up, t.up⟩
      obtain ⟨t2, _, _, e2⟩ := und_two hself (EqI.base h0 hi) x1 x2
      have hk := in_low t2.tw e2 hS i
      unfold inC at hk
      rw [hk]
      split at ho
      · rename_i c3
        injection ho with ho
        subst ho
        simp [c, c3]
      rename_i c3
      injection ho with ho
      subst ho
      simp [c2, c3]
theorem ins_und {B : List Int} {S : List Tm} {o : Option (List Ty)} (h9 : (tyAt P i).kind ≠ 9) (ho : insideR N B P i S = .ok o) : ∃ P1 k, undR P N i = .ok (P1, k) := by
  unfold insideR at ho
  rw [if_neg h9] at ho
  cases x1 : undR P N i with
  | error e => rw [x1] at ho; cases ho
  | ok u => exact ⟨u.1, u.2, rfl⟩
def mthL (t : Ty) : List Tm := (zips t).filter fun z => isName z.1
theorem mthL_at {t : Ty} (hl : t.words.length = t.kids.length) {z : Tm} : z ∈ mthL t ↔ ∃ r, ∃ (hw : r < t.words.length) (hk : r < t.kids.length), isName t.words[r] = true ∧ z = (t.words[r], t.kids[r]) := by
  unfold mthL
  rw [List.mem_filter]
  have hzl : (zips t).length = t.words.length := by unfold zips; rw [List.length_zip]; omega
  constructor
  · rintro ⟨hm, hn⟩
    obtain ⟨r, hr, rfl⟩ := List.getElem_of_mem hm
    have e : (zips t)[r] = (t.words[r]'HW, t.kids[r]'HW) := by simp [zips]
    rw [e] at hn ⊢
    exact ⟨r, by omega, by omega, hn, rfl⟩
  rintro ⟨r, hw, hk, hn, rfl⟩
  refine ⟨?_, hn⟩
  have e : (zips t)[r]'HW = (t.words[r], t.kids[r]) := by simp [zips]
  rw [← e]
  exact List.getElem_mem _
theorem words_true {B : List Int} {t : Ty} (hl : t.words.length = t.kids.length) : ∀ q, q ≤ t.words.length → wordsR N B T i t q = .ok true → ∀ r, r < q → (hw : r < t.words.length) → (hk : r < t.kids.length) → isName t.words[r] = true → methR N B T i t.words[r] t.kids[r] = .ok true
  | 0, _, _, r, hr, _, _, _ => absurd hr (Nat.not_lt_zero r)
  | q + 1, hq, h, r, hr, hw, hk, hn => by
    simp only [wordsR] at h
    cases x : wordsR N B T i t q with
    | error e => rw [x] at h; cases h
    | ok b =>
      rw [x] at h
      cases b with
      | false => cases h
      | true =>
        simp only at h
        by_cases c : r = q
        · subst c
          rw [Gt [] hw, Gt 0 hk, if_pos hn] at h
          exact h
        exact words_true hl q HW x r HW hw hk hn
theorem words_false {B : List Int} {t : Ty} (hl : t.words.length = t.kids.length) : ∀ q, q ≤ t.words.length → wordsR N B T i t q = .ok false → ∃ r, ∃ (hw : r < t.words.length) (hk : r < t.kids.length), isName t.words[r] = true ∧ methR N B T i t.words[r] t.kids[r] = .ok false
  | 0, _, h => by cases h
  | q + 1, hq, h => by
    simp only [wordsR] at h
    cases x : wordsR N B T i t q with
    | error e => rw [x] at h; cases h
    | ok b =>
      rw [x] at h
      cases b with
      | false => exact words_false hl q HW x
      | true =>
        simp only at h
        rw [Gt [] (show q < t.words.length by omega), Gt 0 (show q < t.kids.length by omega)] at h
        split at h
        · exact ⟨q, by omega, by omega, ‹_›, h⟩
        cases h
theorem is_true {B : List Int} {c : Int} (hl : (tyAt T c).words.length = (tyAt T c).kids.length) (h : isR N B T i c = .ok true) :
    (∀ z ∈ mthL (tyAt T c), methR N B T i z.1 z.2 = .ok true) ∧ ∃ T1, (if 2 ≤ (tyAt T c).n then insideR N B T i (trmL (tyAt T c)) else .ok (some T)) = .ok (some T1) ∧ ((tyAt T c).n % 2 = 1 → ∃ s, cmpR N B 400 (T1, []) i = .ok (some s)) := by
  unfold isR at h
  cases x : wordsR N B T i (tyAt T c) (tyAt T c).words.length with
  | error e => rw [x] at h; cases h
  | ok b =>
    rw [x] at h
    cases b with
    | false => cases h
    | true =>
      simp only at h
      refine ⟨fun z hz => ?_, ?_⟩
      · obtain ⟨r, hw, hk, hn, rfl⟩ := (mthL_at hl).1 hz
        exact words_true hl _ (Nat.le_refl _) x r hw hw hk hn
      split at h
      · cases h
      · cases h
      rename_i T1 hx
      refine ⟨T1, hx, fun ho => ?_⟩
      rw [if_pos ho] at h
      split at h
      · cases h
      · cases h
      exact ⟨_, ‹_›⟩
theorem is_false {B : List Int} {c : Int} (hl : (tyAt T c).words.length = (tyAt T c).kids.length) (h : isR N B T i c = .ok false) :
    (∃ z ∈ mthL (tyAt T c), methR N B T i z.1 z.2 = .ok false) ∨ (2 ≤ (tyAt T c).n ∧ insideR N B T i (trmL (tyAt T c)) = .ok none) ∨ ((tyAt T c).n % 2 = 1 ∧ ∃ T1, (if 2 ≤ (tyAt T c).n then insideR N B T i (trmL (tyAt T c)) else .ok (some T)) = .ok (some T1) ∧ cmpR N B 400 (T1, []) i = .ok none) := by
  unfold isR at h
  cases x : wordsR N B T i (tyAt T c) (tyAt T c).words.length with
  | error e => rw [x] at h; cases h
  | ok b =>
    rw [x] at h
    cases b with
    | false =>
      obtain ⟨r, hw, hk, hn, hm⟩ := words_false hl _ (Nat.le_refl _) x
      exact .inl ⟨_, (mthL_at hl).2 ⟨r, hw, hk, hn, rfl⟩, hm⟩
    | true =>
      simp only at h
      split at h
      · cases h
      · rename_i hx
        split at hx
        · exact .inr (.inl ⟨‹_›, hx⟩)
        cases hx
      rename_i T1 hx
      split at h
      · rename_i ho
        refine .inr (.inr ⟨ho, T1, hx, ?_⟩)
        split at h
        · cases h
        · assumption
        cases h
      cases h
theorem ins_some {B : List Int} {c : Int} (hu : rightU P N) (hB : bndP P B) (h0 : 0 ≤ i) (hi : i < P.length) {T1 : List Ty} (h : (if 2 ≤ (tyAt P c).n then insideR N B P i (trmL (tyAt P c)) else .ok (some P)) = .ok (some T1)) : rightU T1 N ∧ P <+: T1 := by
  split at h
  · exact inside_ok hu hB h0 hi h
  injection h with h; injection h with h
  subst h
  exact ⟨hu, List.prefix_rfl⟩
theorem both_law (ht : rightU T N) {X : List Ty} (hX : rightU X N) (hp : T <+: X) {a b m : Int} (h0 : 0 ≤ i) (hi : i < T.length) (h9 : (tyAt T i).kind ≠ 9)
    (ha : 0 ≤ a ∧ a < T.length) (hb : 0 ≤ b ∧ b < T.length) (hm : 0 ≤ m ∧ m < X.length) (ka : (tyAt T a).kind = 7) (kb : (tyAt T b).kind = 7) (km : (tyAt X m).kind = 7)
    (hmt : ∀ z, z ∈ mthL (tyAt X m) ↔ z ∈ mthL (tyAt T a) ∨ z ∈ mthL (tyAt T b))
    (hn2 : 2 ≤ (tyAt X m).n ↔ 2 ≤ (tyAt T a).n ∨ 2 ≤ (tyAt T b).n) (hn1 : (tyAt X m).n % 2 = 1 ↔ (tyAt T a).n % 2 = 1 ∨ (tyAt T b).n % 2 = 1)
    (hin : ∀ X1 k, undR X N i = .ok (X1, k) → (2 ≤ (tyAt T a).n → 2 ≤ (tyAt T b).n → (inC (trmL (tyAt X m)) i k ↔ inC (trmL (tyAt T a)) i k ∧ inC (trmL (tyAt T b)) i k)))
    (hia : 2 ≤ (tyAt T a).n → ¬ 2 ≤ (tyAt T b).n → trmL (tyAt X m) = trmL (tyAt T a)) (hib : ¬ 2 ≤ (tyAt T a).n → 2 ≤ (tyAt T b).n → trmL (tyAt X m) = trmL (tyAt T b))
    (hlow : ∀ z ∈ trmL (tyAt X m), 0 ≤ z.2 ∧ z.2 < T.length)
    {p q r : Bool} (hP : isR N [] T i a = .ok p) (hQ : isR N [] T i b = .ok q) (hR : isR N [] X i m = .ok r) : r = (p && q) := by
  have lx := hp.length_le
  have two : TwoU T T X N := ⟨⟨ht.1, hX.1, List.prefix_rfl, hp⟩, ht, ht, hX⟩
  have twx : TwoU T X X N := ⟨⟨hX.1, hX.1, hp, hp⟩, ht, hX, hX⟩
  have hii : EqI T T X i i := EqI.base h0 hi
  have la := (iface_n ht.1 ha.1 ha.2 ka).2.2
  have lb := (iface_n ht.1 hb.1 hb.2 kb).2.2
  have lm := (iface_n hX.1 hm.1 hm.2 km).2.2
  have ta := trm_there ht.1 ha.1 ha.2 ka
  have tb := trm_there ht.1 hb.1 hb.2 kb
  have x9 : (tyAt X i).kind ≠ 9 := by rw [tyAt_pre hp h0 hi]; exact h9
  have kin : ∀ {c : Int}, 0 ≤ c → c < T.length → (tyAt T c).kind = 7 → ∀ z ∈ mthL (tyAt T c), 0 ≤ z.2 ∧ z.2 < T.length := fun {c} c0 c1 k7 z hz => by
    unfold mthL at hz
    exact kids_there ht.1 c0 c1 _ (List.of_mem_zip (List.mem_filter.1 hz).1).2
  have ga := kin ha.1 ha.2 ka
  have gb := kin hb.1 hb.2 kb
  -- what the runs say of terms
  have cov : ∀ {X1 : List Ty} {k : Int}, undR X N i = .ok (X1, k) → ∀ {S : List Tm} {o : Option (List Ty)}, (∀ z ∈ S, 0 ≤ z.2 ∧ z.2 < T.length) → insideR N [] T i S = .ok o → (o.isSome = true ↔ (tyAt X1 k).kind ≠ 7 ∧ inC S i k) := @fun X1 k hk S o hS ho => ins_cov two h0 hi h9 hS hk ho
  have covx : ∀ {X1 : List Ty} {k : Int}, undR X N i = .ok (X1, k) → ∀ {o : Option (List Ty)}, insideR N [] X i (trmL (tyAt X m)) = .ok o → (o.isSome = true ↔ (tyAt X1 k).kind ≠ 7 ∧ inC (trmL (tyAt X m)) i k) := @fun X1 k hk o ho => ins_cov twx h0 hi h9 hlow hk ho
  have grow : ∀ {T1 X1 : List Ty} {c : Int}, (if 2 ≤ (tyAt T c).n then insideR N [] T i (trmL (tyAt T c)) else .ok (some T)) = .ok (some T1) → (if 2 ≤ (tyAt X m).n then insideR N [] X i (trmL (tyAt X m)) else .ok (some X)) = .ok (some X1) → TwoU T T1 X1 N ∧ EqI T T1 X1 i i := fun {T1 X1 c} e1 e2 => by
    obtain ⟨r1, p1⟩ := ins_some ht ⟨by simp, by simp⟩ h0 hi e1
    obtain ⟨r2, p2⟩ := ins_some hX ⟨by simp, by simp⟩ h0 HW e2
    exact ⟨⟨⟨r1.1, r2.1, p1, hp.trans p2⟩, ht, r1, r2⟩, EqI.base h0 hi⟩
  cases r with
  | true =>
    obtain ⟨mt, X1, mi, mc⟩ := is_true lm hR
    have side : ∀ {c : Int} {s : Bool}, 0 ≤ c → c < T.length → (tyAt T c).kind = 7 → (tyAt T c).words.length = (tyAt T c).kids.length → (∀ z ∈ mthL (tyAt T c), z ∈ mthL (tyAt X m)) → (2 ≤ (tyAt T c).n → 2 ≤ (tyAt X m).n ∧ ∀ X1 k, undR X N i = .ok (X1, k) → inC (trmL (tyAt X m)) i k → inC (trmL (tyAt T c)) i k) → ((tyAt T c).n % 2 = 1 → (tyAt X m).n % 2 = 1) → isR N [] T i c = .ok s → s = true := fun {c s} c0 c1 k7 lc hsub h2 h1 hs => by
      cases s with
      | true => rfl
      | false =>
        refine absurd ?_ (fun h : False => h)
        rcases is_false lc hs with ⟨z, hz, hf⟩ | ⟨n2, hf⟩ | ⟨n1, T1, e1, hf⟩
        · have hg := kin c0 c1 k7 z hz
          exact absurd (meth_two two hii h9 hg hf (mt z (hsub z hz))) (by decide)
        · obtain ⟨m2, himp⟩ := h2 n2
          rw [if_pos m2] at mi
          obtain ⟨X2, k, hk⟩ := ins_und x9 mi
          obtain ⟨c7, cin⟩ := (covx hk mi).1 rfl
          have := (cov hk (trm_there ht.1 c0 c1 k7) hf).2 ⟨c7, himp _ _ hk cin⟩
          cases this
        obtain ⟨s, hs2⟩ := mc (h1 n1)
        obtain ⟨t, e⟩ := grow e1 mi
        have := cmp_same t e hf hs2
        cases this
    have e1 := side ha.1 ha.2 ka la (fun z hz => (hmt z).2 (.inl hz)) (fun n2 => ⟨hn2.2 (.inl n2), fun X1 k hk hc => by
      by_cases b2 : 2 ≤ (tyAt T b).n
      · exact ((hin X1 k hk n2 b2).1 hc).1
      rw [hia n2 b2] at hc; exact hc⟩) (fun n1 => hn1.2 (.inl n1)) hP
    have e2 := side hb.1 hb.2 kb lb (fun z hz => (hmt z).2 (.inr hz)) (fun n2 => ⟨hn2.2 (.inr n2), fun X1 k hk hc => by
      by_cases a2 : 2 ≤ (tyAt T a).n
      · exact ((hin X1 k hk a2 n2).1 hc).2
      rw [hib a2 n2] at hc; exact hc⟩) (fun n1 => hn1.2 (.inr n1)) hQ
    rw [e1, e2]; rfl
  | false =>
    cases p with
    | false => rfl
    | true =>
      cases q with
      | false => rfl
      | true =>
        refine absurd ?_ (fun h : False => h)
        obtain ⟨mta, Ta, ia, ca⟩ := is_true la hP
        obtain ⟨mtb, Tb, ib, cb⟩ := is_true lb hQ
        rcases is_false lm hR with ⟨z, hz, hf⟩ | ⟨n2, hf⟩ | ⟨n1, X1, e1, hf⟩
        · rcases (hmt z).1 hz with hz | hz
          · exact absurd (meth_two two hii h9 (ga z hz) (mta z hz) hf) (by decide)
          exact absurd (meth_two two hii h9 (gb z hz) (mtb z hz) hf) (by decide)
        · obtain ⟨X2, k, hk⟩ := ins_und x9 hf
          have hno : ¬((tyAt X2 k).kind ≠ 7 ∧ inC (trmL (tyAt X m)) i k) := fun h => by
            have := (covx hk hf).2 h
            cases this
          have use : ∀ {c : Int} {T1 : List Ty}, 0 ≤ c → c < T.length → (tyAt T c).kind = 7 → 2 ≤ (tyAt T c).n → (if 2 ≤ (tyAt T c).n then insideR N [] T i (trmL (tyAt T c)) else .ok (some T)) = .ok (some T1) → (tyAt X2 k).kind ≠ 7 ∧ inC (trmL (tyAt T c)) i k := fun {c T1} c0 c1 k7 c2 h => by
            rw [if_pos c2] at h
            exact (cov hk (trm_there ht.1 c0 c1 k7) h).1 rfl
          by_cases a2 : 2 ≤ (tyAt T a).n
          · have ua := use ha.1 ha.2 ka a2 ia
            by_cases b2 : 2 ≤ (tyAt T b).n
            · have ub := use hb.1 hb.2 kb b2 ib
              exact hno ⟨ua.1, (hin X2 k hk a2 b2).2 ⟨ua.2, ub.2⟩⟩
            exact hno ⟨ua.1, by rw [hia a2 b2]; exact ua.2⟩
          have b2 := (hn2.1 n2).resolve_left a2
          have ub := use hb.1 hb.2 kb b2 ib
          exact hno ⟨ub.1, by rw [hib a2 b2]; exact ub.2⟩
        rcases hn1.1 n1 with n1 | n1
        · obtain ⟨s, hs⟩ := ca n1
          obtain ⟨t, e⟩ := grow ia e1
          have := cmp_same t e hs hf
          cases this
        obtain ⟨s, hs⟩ := cb n1
        obtain ⟨t, e⟩ := grow ib e1
        have := cmp_same t e hs hf
        cases this
end
end Go.Sy
