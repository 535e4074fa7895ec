/- Joined of my own texts: SeN, SeO, SeS. -/
import Derived.Test.YtinolpaapcpijaaGreatDoorM18
namespace Go.Sy
open Go Go.Proofs Go.RowKit
abbrev vF (a : Option Addr) (k c : Nat) (a2 : Option Addr) (k2 c2 : Nat) (x : SelV) (a5 : Option Addr) (k5 c5 : Nat) (e : Int) : Value := .agg #[.slice a k c, .slice a2 k2 c2, .bool x.method, .int .i64 x.typ, .bool x.ptr, .bool x.via, .slice a5 k5 c5, .int .i64 e]
theorem list_one {α : Type} : ∀ {l : List α} (_ : l.length = 1) (h0 : 0 < l.length), l = [l[0]]
  | [x], _, _ => rfl
theorem docFirst_err {N : List Nmd} {T : List Ty} {i e : Int} (h : firstR T N i = .error e) : docFirst N T i = .error e := by unfold docFirst; rw [h]
theorem docFirst_ok {N : List Nmd} {T T1 : List Ty} {lev : List Ent} {i : Int} (h : firstR T N i = .ok (T1, lev)) : docFirst N T i = docL N T1 lev (typs lev) := by unfold docFirst; rw [h]
structure DocOk (N : List Nmd) (n : Nat) (T : List Ty) (lev : List Ent) (ws : List Wht) (seen : List Int) : Prop where
  right : rightU T N
  lv : levP T n lev
  ln : ws.length = lev.length
  wh : ∀ w ∈ ws, whP T w
  few : seen.length ≤ (n + 1) * 400
theorem docL_is {N : List Nmd} {T : List Ty} (hu : rightU T N) {n : Nat} {lev : List Ent} (hl : levP T n lev) {seen : List Int} (hs : seen.length ≤ (n + 1) * 400) {T1 : List Ty} {lev1 : List Ent} {ws1 : List Wht} {seen1 : List Int} (h : docL N T lev seen = .ok (T1, lev1, ws1, seen1)) : DocOk N n T1 lev1 ws1 seen1 := by
  unfold docL at h
  split at h
  · cases h
  rename_i o ws hx
  injection h with h; injection h with e1 h; injection h with e2 h; injection h with e3 e4
  subst e1 e2 e3 e4
  obtain ⟨h1, h2, h3, h4⟩ := looksR_ok hu hl _ (Nat.le_refl _) o ws hx
  exact ⟨h1, hl.up h2, h3, h4, hs⟩
theorem docNext_is {N : List Nmd} {n : Nat} {T : List Ty} {lev : List Ent} {ws : List Wht} {seen : List Int} (hd : DocOk N n T lev ws seen) {T1 : List Ty} {lev1 : List Ent} {ws1 : List Wht} {seen1 : List Int} (h : docL N T (nextL T lev ws seen) (seen ++ typs (nextL T lev ws seen)) = .ok (T1, lev1, ws1, seen1)) : DocOk N (n + 1) T1 lev1 ws1 seen1 := by
  have hl := nextL_ok (seen := seen) hd.right.1 hd.lv hd.ln hd.wh
  refine docL_is hd.right hl ?_ h
  have h1 := hl.few
  have h2 := hd.right.1.2.1
  have h3 := hd.few
  rw [List.length_append, show (typs (nextL T lev ws seen)).length = (nextL T lev ws seen).length from List.length_map _]
  omega
theorem docFirst_is {N : List Nmd} {T : List Ty} (hu : rightU T N) {i : Int} (h0 : 0 ≤ i) (hi : i < T.length) {T1 : List Ty} {lev1 : List Ent} {ws1 : List Wht} {seen1 : List Int} (h : docFirst N T i = .ok (T1, lev1, ws1, seen1)) : DocOk N 0 T1 lev1 ws1 seen1 := by
  unfold docFirst at h
  split at h
  · cases h
  rename_i o lev hx
  obtain ⟨h1, h2, h3⟩ := firstR_ok hu h0 hi hx
  refine docL_is h1 h3 ?_ h
  have h4 := h3.few
  have h5 := h1.1.2.1
  rw [show (typs lev).length = lev.length from List.length_map _]
  omega
theorem docF_err {N : List Nmd} {s : List UInt8} {n : Nat} {e : Int} : docF N s (n + 1) (.error e) = .error e := rfl
theorem docF_one {N : List Nmd} {s : List UInt8} {n : Nat} {T : List Ty} {lev : List Ent} {ws : List Wht} {seen : List Int} {x : SelV} (h : foundN T lev ws s lev.length = [x]) : docF N s (n + 1) (.ok (T, lev, ws, seen)) = .ok (T, x) := by simp only [docF, h]
theorem docF_two {N : List Nmd} {s : List UInt8} {n : Nat} {T : List Ty} {lev : List Ent} {ws : List Wht} {seen : List Int} (h : 1 < (foundN T lev ws s lev.length).length) : docF N s (n + 1) (.ok (T, lev, ws, seen)) = .error 9 := by
  cases hf : foundN T lev ws s lev.length with
  | nil => rw [hf] at h; simp at h
  | cons x l =>
    cases l with
    | nil => rw [hf] at h; simp at h
    | cons y l => simp only [docF, hf]
theorem docF_none {N : List Nmd} {s : List UInt8} {n : Nat} {T : List Ty} {ws : List Wht} {seen : List Int} : docF N s (n + 1) (.ok (T, [], ws, seen)) = .error 8 := by simp [docF, foundN]
theorem docF_next {N : List Nmd} {s : List UInt8} {n : Nat} {T : List Ty} {lev : List Ent} {ws : List Wht} {seen : List Int} (h : (foundN T lev ws s lev.length).length = 0) (hl : lev ≠ []) : docF N s (n + 1) (.ok (T, lev, ws, seen)) = docF N s n (docL N T (nextL T lev ws seen) (seen ++ typs (nextL T lev ws seen))) := by
  have hf : foundN T lev ws s lev.length = [] := List.eq_nil_of_length_eq_zero h
  simp only [docF, hf, if_neg hl]
attribute [local irreducible] AC AT AO AK AH ACalls Sub Res.cells Res.obj Res.nix Res.own Res.map Exit.then Exit.inBlock bodyPost Code.wp Code.wpIn WL Next Post Kont
section
variable {W0 : World} {L : List Res} {F : List Fact} {R : Value → List Res → List Fact → Prop}
set_option maxRecDepth 100000
set_option maxHeartbeats 16000000
theorem rFirst_c (T : List Ty) (N : List Nmd) (hu : rightU T N) (i : Int) (h0 : 0 ≤ i) (hi : i < T.length) {a a2 : Option Addr} {k c k2 c2 : Nat} (mL : fL T a k c ∈ F) (mN : fN N a2 k2 c2 ∈ F) (mE : Fact.slc (.slice none 0 0) 5 [] ∈ F)
    (h : ∀ T1 lev1 ws1 seen1 a k c an kn cn a3 k3 c3 a4 k4 c4 a5 k5 c5 e, docP (docFirst N T i) T1 lev1 ws1 seen1 e → (e = 0 → an = a2 ∧ kn = k2 ∧ cn = c2) → R (vL a k c an kn cn a3 k3 c3 a4 k4 c4 a5 k5 c5 e) L (fL T1 a k c :: fEn lev1 a3 k3 c3 :: fWh ws1 a4 k4 c4 :: fI seen1 a5 k5 c5 :: F)) :
    ACalls Tryz.prog W0 67 #[.agg #[.slice a k c, .slice a2 k2 c2], .int .i64 i] L F R := by
  have hok := HA hu.1
  obtain ⟨n, rfl⟩ : ∃ n : Nat, i = (n : Int) := ⟨i.toNat, by omega⟩
  have hn : n < T.length := by omega
  refine HB ((Hn (sz := 4)).trans ((Hn (sz := 2)).trans (Hn (sz := 1)))) ?_
  refine Gg Tryz.func67 HW Tryz.ntmps67 HW ?_
  refine qs 2 ?_
  refine Ga (GK HW HW (fun b2 => (Ga (Gm HW (fun b4 => ?_)))))
  refine qs 6 ?_
  refine Ga (Gm HW (fun b5 => ?_))
  refine qs 8 ?_
  have hkl := (hok _ (List.getElem_mem hn)).kids
  refine Ga (Gd (k := n) HW HW HW HW (enc := eTy) (lst := T) memA hn (fun _ _ => ?_))
  refine Ga (GN HW HW ?_)
  intro a16 k16 z16 d16 e16 f16
  refine Ga (Gm HW (fun b6 => ?_))
  refine qs 7 ?_
  refine Ga (Gm HW (fun b7 => ?_))
  refine qs 8 ?_
  refine Ga (Gu HW HW HW (fun c21 => ?_) (fun c21 => ?_))
  ·refine qs 4 ?_
   refine GM (fun i => Nat.beq i 7) [(b2, _, _), (b6, _, _)] bxA HW (fun hx hX => ?_)
   have hk1 := ptr_of hu.1 hn c21
   have hk0 : 0 < T[n].kids.length := by omega
   have hkd := (GS hu.1 hn).kids _ (List.getElem_mem hk0)
   have hfst := first_is (N := N) hn c21 hk0
   have hkk := (Gq (hX (fK T[n] d16 e16 f16) memA)).1
   obtain ⟨p2, o2, e2, atq⟩ := Gt (hX (fK T[n] d16 e16 f16) memA) hk0
   subst e2
   obtain ⟨vq, hvq, hcq⟩ := atq 0 _ rfl
   cases hcq
   refine qt [0, 1, 2] ?_
   refine GB (i := 3) HW (GA (k := 0) HW HW HW HZ) HY HW HW ?_
   refine GL (i := 4) HW (Ho HW hvq) HY HY HW HW HW ?_
   refine HH (i := 5) (j := 6) HY HW HW HW HW (fun _ => ?_) (fun _ => ?_)
   ·refine Gf HW HW (rundT_c T N hu T[n].kids[0] hkd.1 HZ memA memA memA (fun e he hx => ?_) (fun o q a27 k27 c27 hx => ?_))
    all_goals refine Gk bxA memB ?_
    ·refine Gl (i := 6) HY HW HW (fun _ => ?_)
     refine Gm HW (fun b8 => ?_)
     refine Gk bxA memB ?_
     refine Gl (i := 7) HY HW HW (fun _ => ?_)
     refine GF HW HW HW HW ?_
     refine Gw HW ?_
     refine Gn HY ?_
     refine qs 6 ?_
     refine Ga (GJ HW HW HW (fun _ => ?_) (fun c30 => absurd c30 he))
     refine qs 14 ?_
     exact Gy (rs := [.cell 4 _]) (L' := L) (F' := fL [] none 0 0 :: fEn [] none 0 0 :: fWh [] none 0 0 :: fI [] none 0 0 :: F) Tryz.results67 (.agg (j := 4) rfl rfl rfl .nil) (by repeat (first | exact Gj (mem2 memA memA (mem2 memA memA (fun x hx => by repeat (first | exact hx | refine List.mem_cons_of_mem _ ?_)))) | refine GT GD ?_)) (h [] [] [] [] none 0 0 none 0 0 none 0 0 none 0 0 none 0 0 e (.inl ⟨he, docFirst_err (by rw [hfst, hx])⟩) (fun e0 => absurd e0 he))
    refine Gl (i := 6) HY HW HW (fun _ => ?_)
    refine Gm HW (fun b8 => ?_)
    refine Gk bxA memB ?_
    refine Gl (i := 7) HY HW HW (fun _ => ?_)
    refine GF HW HW HW HW ?_
    refine Gw HW ?_
    refine Gn HY ?_
    refine qs 6 ?_
    obtain ⟨hro, hpo, hq0, hql⟩ := undR_ok hu hkd.1 HZ hx
    obtain ⟨hqn, hqe⟩ := HC hq0 hql
    refine Ga (GJ HW HW HW (fun c30 => absurd HW c30) (fun _ => ?_))
    refine qs 12 ?_
    refine Ga (Gd (k := q.toNat) HW HW HW HZ (enc := eTy) (lst := o) memA hqn (fun _ _ => ?_))
    refine Ga (Hi HW HW (fun _ => ?_))
    refine Ga (Gs HW HW ?_)
    refine qs 7 ?_
    refine Ga (Gu HW HW HW (fun c43 => ?_) (fun c43 => ?_))
    ·refine qs 16 ?_
     have hfs : firstR T N (n : Int) = .ok (T, []) := by rw [hfst, hx]; simp only; rw [if_pos (by rw [hqe]; exact .inl c43)]
     exact Gy (rs := [.cell 4 _]) (L' := L) (F' := fL T a k c :: fEn [] none 0 0 :: fWh [] none 0 0 :: fI [] none 0 0 :: F) Tryz.results67 (.agg (j := 4) rfl rfl rfl .nil) (by repeat (first | exact Gj (mem2 memA memA (mem2 memA memA (fun x hx => by repeat (first | exact hx | refine List.mem_cons_of_mem _ ?_)))) | refine GT GD ?_)) (h T [] [] [] a k c a2 k2 c2 none 0 0 none 0 0 none 0 0 0 (.inr ⟨rfl, by rw [docFirst_ok hfs]; rfl⟩) (fun _ => ⟨rfl, rfl, rfl⟩))
    refine qs 2 ?_
    refine Ge HW HW (Gu HW HW HW (fun c46 => ?_) (fun c46 => ?_))
    ·refine qs 13 ?_
     have hfs : firstR T N (n : Int) = .ok (T, []) := by rw [hfst, hx]; simp only; rw [if_pos (by rw [hqe]; exact .inr c46)]
     exact Gy (rs := [.cell 4 _]) (L' := L) (F' := fL T a k c :: fEn [] none 0 0 :: fWh [] none 0 0 :: fI [] none 0 0 :: F) Tryz.results67 (.agg (j := 4) rfl rfl rfl .nil) (by repeat (first | exact Gj (mem2 memA memA (mem2 memA memA (fun x hx => by repeat (first | exact hx | refine List.mem_cons_of_mem _ ?_)))) | refine GT GD ?_)) (h T [] [] [] a k c a2 k2 c2 none 0 0 none 0 0 none 0 0 0 (.inr ⟨rfl, by rw [docFirst_ok hfs]; rfl⟩) (fun _ => ⟨rfl, rfl, rfl⟩))
    refine qs 17 ?_
    refine Ga (Gd (k := 0) HW HW HW HW (show fK T[n] _ _ _ ∈ _ from memA) hk0 (fun _ _ => ?_))
    refine Ga (Gs HW HW ?_)
    refine qs 7 ?_
    refine GC (GZ (e := 186) (sz := 4)) ?_
    refine Ga (GU HW HW ?_)
    refine qs 1 ?_
    refine Ga (Gh HW HW HW HW HW (fun b60 => ?_))
    refine Ga (GG (i := 0) (enc := eEn) (lst := []) [⟨T[n].kids[0], true, false, []⟩] HW HW HW HW (.val (.val (.val (.slc .nil memA)))) HW HW (fun _ => rfl) (by simp only [List.length_nil, maxLen]; omega) (by simp only [List.length_nil]; omega) (fun a61 k61 c61 => ?_))
    refine qs 7 ?_
    refine GC (Gx (i := 0) HW) ?_
    refine GC (GZ (e := 3) (sz := 1)) ?_
    refine Ga (GU HW HW ?_)
    refine qs 2 ?_
    refine Ga (Gh HW HW HW HW HW (fun b67 => ?_))
    refine Ga (GG (i := 0) (enc := eI) (lst := []) [T[n].kids[0]] HW HW HW HW (.val .nil) HW HW (fun _ => rfl) (by simp only [List.length_nil, maxLen]; omega) (by simp only [List.length_nil]; omega) (fun a68 k68 c68 => ?_))
    refine qs 6 ?_
    refine GC (Gx (i := 0) HW) ?_
    refine Ga (HM HW HW ?_)
    have hfs : firstR T N (n : Int) = .ok (o, [⟨T[n].kids[0], true, false, []⟩]) := by rw [hfst, hx]; simp only; rw [if_neg (by rw [hqe]; rintro (h | h); exact c43 h; exact c46 h)]
    obtain ⟨h1, h2, h3⟩ := firstR_ok hu h0 hi hfs
    refine Ga (Gf HW HW (rlook_c o N hro [⟨T[n].kids[0], true, false, []⟩] 0 h3 (a5 := a68) (k5 := k68) (c5 := c68) (show fL o _ _ _ ∈ _ from memA) memA (show fEn _ a61 k61 c61 ∈ _ from memA) memA (fun e he hx => ?_) (fun o3 ws1 a71 k71 c71 a72 k72 c72 hx => ?_)))
    ·refine qs 4 ?_
     exact Gy (rs := [.cell 4 _]) (L' := L) (F' := fL [] none 0 0 :: fEn [] none 0 0 :: fWh [] none 0 0 :: fI [] none 0 0 :: F) Tryz.results67 (.agg (j := 6) rfl rfl rfl .nil) (by repeat (first | exact Gj (mem2 memA memA (mem2 memA memA (fun x hx => by repeat (first | exact hx | refine List.mem_cons_of_mem _ ?_)))) | refine GT GD ?_)) (h [] [] [] [] none 0 0 none 0 0 none 0 0 none 0 0 none 0 0 e (.inl ⟨he, by rw [docFirst_ok hfs]; exact docL_err hx⟩) (fun e0 => absurd e0 he))
    refine qs 4 ?_
    exact Gy (rs := [.cell 4 _]) (L' := L) (F' := fL o3 a71 k71 c71 :: fEn [⟨T[n].kids[0], true, false, []⟩] a61 k61 c61 :: fWh ws1 a72 k72 c72 :: fI [T[n].kids[0]] a68 k68 c68 :: F) Tryz.results67 (.agg (j := 6) rfl rfl rfl .nil) (by repeat (first | exact Gj (mem2 memA memA (mem2 memA memA (fun x hx => by repeat (first | exact hx | refine List.mem_cons_of_mem _ ?_)))) | refine GT GD ?_)) (h o3 _ ws1 [T[n].kids[0]] a71 k71 c71 a2 k2 c2 a61 k61 c61 a72 k72 c72 a68 k68 c68 0 (.inr ⟨rfl, by rw [docFirst_ok hfs]; exact docL_ok hx⟩) (fun _ => ⟨rfl, rfl, rfl⟩))
   refine Gm HW (fun b8 => ?_)
   refine Gk bxA memB ?_
   refine Gl (i := 5) HY HW HW (fun _ => ?_)
   refine Gf HW HW (rundT_c T N hu T[n].kids[0] hkd.1 HZ memA memA memA (fun e he hx => ?_) (fun o q a27 k27 c27 hx => ?_))
   all_goals refine Gk bxA memB ?_
   ·refine Gl (i := 7) HY HW HW (fun _ => ?_)
    refine GF HW HW HW HW ?_
    refine Gw HW ?_
    refine Gn HY ?_
    refine qs 6 ?_
    refine Ga (GJ HW HW HW (fun _ => ?_) (fun c30 => absurd c30 he))
    refine qs 14 ?_
    exact Gy (rs := [.cell 4 _]) (L' := L) (F' := fL [] none 0 0 :: fEn [] none 0 0 :: fWh [] none 0 0 :: fI [] none 0 0 :: F) Tryz.results67 (.agg (j := 4) rfl rfl rfl .nil) (by repeat (first | exact Gj (mem2 memA memA (mem2 memA memA (fun x hx => by repeat (first | exact hx | refine List.mem_cons_of_mem _ ?_)))) | refine GT GD ?_)) (h [] [] [] [] none 0 0 none 0 0 none 0 0 none 0 0 none 0 0 e (.inl ⟨he, docFirst_err (by rw [hfst, hx])⟩) (fun e0 => absurd e0 he))
   refine Gl (i := 7) HY HW HW (fun _ => ?_)
   refine GF HW HW HW HW ?_
   refine Gw HW ?_
   refine Gn HY ?_
   refine qs 6 ?_
   obtain ⟨hro, hpo, hq0, hql⟩ := undR_ok hu hkd.1 HZ hx
   obtain ⟨hqn, hqe⟩ := HC hq0 hql
   refine Ga (GJ HW HW HW (fun c30 => absurd HW c30) (fun _ => ?_))
   refine qs 12 ?_
   refine Ga (Gd (k := q.toNat) HW HW HW HZ (enc := eTy) (lst := o) memA hqn (fun _ _ => ?_))
   refine Ga (Hi HW HW (fun _ => ?_))
   refine Ga (Gs HW HW ?_)
   refine qs 7 ?_
   refine Ga (Gu HW HW HW (fun c43 => ?_) (fun c43 => ?_))
   ·refine qs 16 ?_
    have hfs : firstR T N (n : Int) = .ok (T, []) := by rw [hfst, hx]; simp only; rw [if_pos (by rw [hqe]; exact .inl c43)]
    exact Gy (rs := [.cell 4 _]) (L' := L) (F' := fL T a k c :: fEn [] none 0 0 :: fWh [] none 0 0 :: fI [] none 0 0 :: F) Tryz.results67 (.agg (j := 4) rfl rfl rfl .nil) (by repeat (first | exact Gj (mem2 memA memA (mem2 memA memA (fun x hx => by repeat (first | exact hx | refine List.mem_cons_of_mem _ ?_)))) | refine GT GD ?_)) (h T [] [] [] a k c a2 k2 c2 none 0 0 none 0 0 none 0 0 0 (.inr ⟨rfl, by rw [docFirst_ok hfs]; rfl⟩) (fun _ => ⟨rfl, rfl, rfl⟩))
   refine qs 2 ?_
   refine Ge HW HW (Gu HW HW HW (fun c46 => ?_) (fun c46 => ?_))
   ·refine qs 13 ?_
    have hfs : firstR T N (n : Int) = .ok (T, []) := by rw [hfst, hx]; simp only; rw [if_pos (by rw [hqe]; exact .inr c46)]
    exact Gy (rs := [.cell 4 _]) (L' := L) (F' := fL T a k c :: fEn [] none 0 0 :: fWh [] none 0 0 :: fI [] none 0 0 :: F) Tryz.results67 (.agg (j := 4) rfl rfl rfl .nil) (by repeat (first | exact Gj (mem2 memA memA (mem2 memA memA (fun x hx => by repeat (first | exact hx | refine List.mem_cons_of_mem _ ?_)))) | refine GT GD ?_)) (h T [] [] [] a k c a2 k2 c2 none 0 0 none 0 0 none 0 0 0 (.inr ⟨rfl, by rw [docFirst_ok hfs]; rfl⟩) (fun _ => ⟨rfl, rfl, rfl⟩))
   refine qs 17 ?_
   refine Ga (Gd (k := 0) HW HW HW HW (show fK T[n] _ _ _ ∈ _ from memA) hk0 (fun _ _ => ?_))
   refine Ga (Gs HW HW ?_)
   refine qs 7 ?_
   refine GC (GZ (e := 186) (sz := 4)) ?_
   refine Ga (GU HW HW ?_)
   refine qs 1 ?_
   refine Ga (Gh HW HW HW HW HW (fun b60 => ?_))
   refine Ga (GG (i := 0) (enc := eEn) (lst := []) [⟨T[n].kids[0], true, false, []⟩] HW HW HW HW (.val (.val (.val (.slc .nil memA)))) HW HW (fun _ => rfl) (by simp only [List.length_nil, maxLen]; omega) (by simp only [List.length_nil]; omega) (fun a61 k61 c61 => ?_))
   refine qs 7 ?_
   refine GC (Gx (i := 0) HW) ?_
   refine GC (GZ (e := 3) (sz := 1)) ?_
   refine Ga (GU HW HW ?_)
   refine qs 2 ?_
   refine Ga (Gh HW HW HW HW HW (fun b67 => ?_))
   refine Ga (GG (i := 0) (enc := eI) (lst := []) [T[n].kids[0]] HW HW HW HW (.val .nil) HW HW (fun _ => rfl) (by simp only [List.length_nil, maxLen]; omega) (by simp only [List.length_nil]; omega) (fun a68 k68 c68 => ?_))
   refine qs 6 ?_
   refine GC (Gx (i := 0) HW) ?_
   refine Ga (HM HW HW ?_)
   have hfs : firstR T N (n : Int) = .ok (o, [⟨T[n].kids[0], true, false, []⟩]) := by rw [hfst, hx]; simp only; rw [if_neg (by rw [hqe]; rintro (h | h); exact c43 h; exact c46 h)]
   obtain ⟨h1, h2, h3⟩ := firstR_ok hu h0 hi hfs
   refine Ga (Gf HW HW (rlook_c o N hro [⟨T[n].kids[0], true, false, []⟩] 0 h3 (a5 := a68) (k5 := k68) (c5 := c68) (show fL o _ _ _ ∈ _ from memA) memA (show fEn _ a61 k61 c61 ∈ _ from memA) memA (fun e he hx => ?_) (fun o3 ws1 a71 k71 c71 a72 k72 c72 hx => ?_)))
   ·refine qs 4 ?_
    exact Gy (rs := [.cell 4 _]) (L' := L) (F' := fL [] none 0 0 :: fEn [] none 0 0 :: fWh [] none 0 0 :: fI [] none 0 0 :: F) Tryz.results67 (.agg (j := 6) rfl rfl rfl .nil) (by repeat (first | exact Gj (mem2 memA memA (mem2 memA memA (fun x hx => by repeat (first | exact hx | refine List.mem_cons_of_mem _ ?_)))) | refine GT GD ?_)) (h [] [] [] [] none 0 0 none 0 0 none 0 0 none 0 0 none 0 0 e (.inl ⟨he, by rw [docFirst_ok hfs]; exact docL_err hx⟩) (fun e0 => absurd e0 he))
   refine qs 4 ?_
   exact Gy (rs := [.cell 4 _]) (L' := L) (F' := fL o3 a71 k71 c71 :: fEn [⟨T[n].kids[0], true, false, []⟩] a61 k61 c61 :: fWh ws1 a72 k72 c72 :: fI [T[n].kids[0]] a68 k68 c68 :: F) Tryz.results67 (.agg (j := 6) rfl rfl rfl .nil) (by repeat (first | exact Gj (mem2 memA memA (mem2 memA memA (fun x hx => by repeat (first | exact hx | refine List.mem_cons_of_mem _ ?_)))) | refine GT GD ?_)) (h o3 _ ws1 [T[n].kids[0]] a71 k71 c71 a2 k2 c2 a61 k61 c61 a72 k72 c72 a68 k68 c68 0 (.inr ⟨rfl, by rw [docFirst_ok hfs]; exact docL_ok hx⟩) (fun _ => ⟨rfl, rfl, rfl⟩))
  refine qs 8 ?_
  refine GC (GZ (e := 186) (sz := 4)) ?_
  refine Ga (GU HW HW ?_)
  refine qs 1 ?_
  refine Ga (Gh HW HW HW HW HW (fun b60 => ?_))
  refine Ga (GG (i := 0) (enc := eEn) (lst := []) [⟨(n : Int), false, false, []⟩] HW HW HW HW (.val (.val (.val (.slc .nil memA)))) HW HW (fun _ => rfl) (by simp only [List.length_nil, maxLen]; omega) (by simp only [List.length_nil]; omega) (fun a61 k61 c61 => ?_))
  refine qs 7 ?_
  refine GC (Gx (i := 0) HW) ?_
  refine GC (GZ (e := 3) (sz := 1)) ?_
  refine Ga (GU HW HW ?_)
  refine qs 2 ?_
  refine Ga (Gh HW HW HW HW HW (fun b67 => ?_))
  refine Ga (GG (i := 0) (enc := eI) (lst := []) [(n : Int)] HW HW HW HW (.val .nil) HW HW (fun _ => rfl) (by simp only [List.length_nil, maxLen]; omega) (by simp only [List.length_nil]; omega) (fun a68 k68 c68 => ?_))
  refine qs 6 ?_
  refine GC (Gx (i := 0) HW) ?_
  refine Ga (HM HW HW ?_)
  have hfs := first_not (N := N) hn c21
  obtain ⟨h1, h2, h3⟩ := firstR_ok hu h0 hi hfs
  refine Ga (Gf HW HW (rlook_c T N hu [⟨(n : Int), false, false, []⟩] 0 h3 (a5 := a68) (k5 := k68) (c5 := c68) (show fL T _ _ _ ∈ _ from memA) memA (show fEn _ a61 k61 c61 ∈ _ from memA) memA (fun e he hx => ?_) (fun o ws1 a71 k71 c71 a72 k72 c72 hx => ?_)))
  ·refine qs 4 ?_
   exact Gy (rs := [.cell 4 _]) (L' := L) (F' := fL [] none 0 0 :: fEn [] none 0 0 :: fWh [] none 0 0 :: fI [] none 0 0 :: F) Tryz.results67 (.agg (j := 5) rfl rfl rfl .nil) (by repeat (first | exact Gj (mem2 memA memA (mem2 memA memA (fun x hx => by repeat (first | exact hx | refine List.mem_cons_of_mem _ ?_)))) | refine GT GD ?_)) (h [] [] [] [] none 0 0 none 0 0 none 0 0 none 0 0 none 0 0 e (.inl ⟨he, by rw [docFirst_ok hfs]; exact docL_err hx⟩) (fun e0 => absurd e0 he))
  refine qs 4 ?_
  exact Gy (rs := [.cell 4 _]) (L' := L) (F' := fL o a71 k71 c71 :: fEn [⟨(n : Int), false, false, []⟩] a61 k61 c61 :: fWh ws1 a72 k72 c72 :: fI [(n : Int)] a68 k68 c68 :: F) Tryz.results67 (.agg (j := 5) rfl rfl rfl .nil) (by repeat (first | exact Gj (mem2 memA memA (mem2 memA memA (fun x hx => by repeat (first | exact hx | refine List.mem_cons_of_mem _ ?_)))) | refine GT GD ?_)) (h o _ ws1 [(n : Int)] a71 k71 c71 a2 k2 c2 a61 k61 c61 a72 k72 c72 a68 k68 c68 0 (.inr ⟨rfl, by rw [docFirst_ok hfs]; exact docL_ok hx⟩) (fun _ => ⟨rfl, rfl, rfl⟩))
theorem rFind_c (T0 : List Ty) (N : List Nmd) (hu : rightU T0 N) (i : Int) (h0 : 0 ≤ i) (hi : i < T0.length) (s : List UInt8) {a a2 : Option Addr} {k c k2 c2 : Nat} (mL : fL T0 a k c ∈ F) (mN : fN N a2 k2 c2 ∈ F) (mE : Fact.slc (.slice none 0 0) 5 [] ∈ F)
    (hE : ∀ e, e ≠ 0 → findR N T0 i s = .error e → R (vF none 0 0 none 0 0 ⟨false, 0, false, false, []⟩ none 0 0 e) L F)
    (hO : ∀ o x a k c a5 k5 c5, findR N T0 i s = .ok (o, x) → R (vF a k c a2 k2 c2 x a5 k5 c5 0) L (fL o a k c :: fI x.path a5 k5 c5 :: F)) :
    ACalls Tryz.prog W0 25 #[.agg #[.slice a k c, .slice a2 k2 c2], .int .i64 i, S s] L F R := by
  have hfd := find_doc N T0 i s
  refine Gg Tryz.func25 HW Tryz.ntmps25 HW ?_
  refine qs 2 ?_
  refine Ga (GK HW HW (fun b3 => (Ga (Gm HW (fun b6 => ?_)))))
  refine qs 6 ?_
  refine Ga (Gf HW HW (rFirst_c T0 N hu i h0 hi memA memA memA (fun T1 lev1 ws1 seen1 a1 k1 c1 an kn cn a3 k3 c3 a4 k4 c4 a5 k5 c5 e hd hn => ?_)))
  refine Ga (Gm HW (fun b7 => ?_))
  refine qs 10 ?_
  refine Gz (fun (x : Nat × Int × (List Ty × List Ent × List Wht × List Int) × ((Option Addr × Nat × Nat) × (Option Addr × Nat × Nat) × (Option Addr × Nat × Nat) × (Option Addr × Nat × Nat) × (Option Addr × Nat × Nat))) => x.1 ≤ 7 ∧ ((x.2.1 ≠ 0 ∧ x.1 < 7 ∧ findR N T0 i s = docF N s (7 - x.1) (.error x.2.1)) ∨ (x.2.1 = 0 ∧ findR N T0 i s = docF N s (7 - x.1) (.ok x.2.2.1) ∧ (x.1 < 7 → DocOk N x.1 x.2.2.1.1 x.2.2.1.2.1 x.2.2.1.2.2.1 x.2.2.1.2.2.2 ∧ x.2.2.2.2.1 = (a2, k2, c2))))) (fun x => [(2, S s), (3, .pointer (some ⟨b3, 0, none⟩)), (6, .pointer (some ⟨b6, 0, none⟩)), (7, .pointer (some ⟨b7, 0, none⟩)), (8, .int .i64 (x.1 : Int))]) (fun x => Res.cells b7 #[.slice x.2.2.2.1.1 x.2.2.2.1.2.1 x.2.2.2.1.2.2, .slice x.2.2.2.2.1.1 x.2.2.2.2.1.2.1 x.2.2.2.2.1.2.2, .slice x.2.2.2.2.2.1.1 x.2.2.2.2.2.1.2.1 x.2.2.2.2.2.1.2.2, .slice x.2.2.2.2.2.2.1.1 x.2.2.2.2.2.2.1.2.1 x.2.2.2.2.2.2.1.2.2, .slice x.2.2.2.2.2.2.2.1 x.2.2.2.2.2.2.2.2.1 x.2.2.2.2.2.2.2.2.2, .int .i64 x.2.1] 103 :: _) (fun x => fL x.2.2.1.1 x.2.2.2.1.1 x.2.2.2.1.2.1 x.2.2.2.1.2.2 :: fEn x.2.2.1.2.1 x.2.2.2.2.2.1.1 x.2.2.2.2.2.1.2.1 x.2.2.2.2.2.1.2.2 :: fWh x.2.2.1.2.2.1 x.2.2.2.2.2.2.1.1 x.2.2.2.2.2.2.1.2.1 x.2.2.2.2.2.2.1.2.2 :: fI x.2.2.1.2.2.2 x.2.2.2.2.2.2.2.1 x.2.2.2.2.2.2.2.2.1 x.2.2.2.2.2.2.2.2.2 :: F) (fun x => 7 - x.1) (0, e, (T1, lev1, ws1, seen1), ((a1, k1, c1), (an, kn, cn), (a3, k3, c3), (a4, k4, c4), (a5, k5, c5))) ⟨Nat.zero_le _, by rcases hd with ⟨h1, h2⟩ | ⟨h1, h2⟩; exact .inl ⟨h1, by simp only; omega, by simp only; rw [hfd, h2]⟩; exact .inr ⟨h1, by simp only; rw [hfd, h2], fun _ => ⟨docFirst_is hu h0 hi h2, by obtain ⟨e1, e2, e3⟩ := hn h1; subst e1 e2 e3; rfl⟩⟩⟩ srA (Gj (mem2 memA memA (mem2 memA memA (fun x hx => by repeat (first | exact hx | refine List.mem_cons_of_mem _ ?_))))) ?_
  clear hd hn
  rintro ⟨n, e, ⟨T, lev, ws, seen⟩, ⟨⟨b1, j1, d1⟩, ⟨b2, j2, d2⟩, ⟨f3, j3, d3⟩, ⟨f4, j4, d4⟩, ⟨f5, j5, d5⟩⟩⟩ ⟨hn7, hrel⟩
  simp only at hn7 hrel ⊢
  refine qs 4 ?_
  refine Ga (Gv HW HW HW (fun c14 => ?_) (fun c14 => ?_))
  ·refine qs 12 ?_
   refine Ga (GJ HW HW HW (fun c19 => ?_) (fun c19 => ?_))
   ·refine qs 18 ?_
    have hf : findR N T0 i s = .error e := by
     rcases hrel with ⟨_, h2, h3⟩ | ⟨h, _⟩
     · rw [h3, show 7 - n = 6 - n + 1 by omega, docF_err]
     exact absurd h c19
    exact Gy (rs := [.cell 6 _]) (L' := L) (F' := F) Tryz.results25 (.agg (j := 1) rfl rfl rfl .nil) subA (hE e c19 hf)
   refine qs 9 ?_
   have hlt : n < 7 := by omega
   obtain ⟨hfn, hdo, hnm⟩ : findR N T0 i s = docF N s (6 - n + 1) (.ok (T, lev, ws, seen)) ∧ DocOk N n T lev ws seen ∧ (b2, j2, d2) = (a2, k2, c2) := by
    rcases hrel with ⟨h, _⟩ | ⟨_, h2, h3⟩
    · exact absurd c19 h
    obtain ⟨h4, h5⟩ := h3 hlt
    exact ⟨by rw [h2, show 7 - n = 6 - n + 1 by omega], h4, h5⟩
   injection hnm with e1 e2
   injection e2 with e2 e3
   subst e1 e2 e3
   have hT4 := hdo.right.1.2.1
   have hlf := hdo.lv.few
   refine Ga (Gf HW HW (rHad_c T hdo.right.1 lev n HZ hdo.lv ws hdo.ln hdo.wh s (a5 := f5) (k5 := j5) (c5 := d5) (e0 := e) (show fL T b1 j1 d1 ∈ _ from memA) (show fEn lev f3 j3 d3 ∈ _ from memA) (show fWh ws f4 j4 d4 ∈ _ from memA) (fun a25 k25 c25 => ?_)))
   refine qs 7 ?_
   refine Ga (Gr HW HW (fun hl27 => ?_) (enc := eSl) (lst := foundN T lev ws s lev.length) (hm := memA))
   refine Ga (Gu HW HW HW (fun c28 => ?_) (fun c28 => ?_))
   ·refine qs 4 ?_
    refine GM (fun _ => false) [(b7, _, _)] bxA HW (fun hx hX => ?_)
    have hpos : 0 < (foundN T lev ws s lev.length).length := by omega
    have hone := list_one (l := foundN T lev ws s lev.length) HZ hpos
    have hk9 := (Gq (hX (fSl (foundN T lev ws s lev.length) a25 k25 c25) memA)).1
    obtain ⟨p1, o1, e1, at1⟩ := Gt (i := 0) (hX (fSl (foundN T lev ws s lev.length) a25 k25 c25) memA) hpos
    subst e1
    generalize hxx : (foundN T lev ws s lev.length)[0] = xx at at1 hone
    obtain ⟨a8, k8, c8, hv8, hp8⟩ := sl_cells (s := xx) at1
    refine Hs hp8 memA ?_
    refine qt [0, 1, 2] ?_
    refine GB (i := 3) HW (GA (k := 0) HW HW HW HZ) HY HW HW ?_
    refine GL (i := 4) HW (HL HW HW hv8) HY HY HW HW HW ?_
    refine qt [5] ?_
    refine Gl (i := 6) HY HW HW (fun _ => ?_)
    refine GF HW HW HW HW ?_
    refine Gk bxA memB ?_
    refine Gn HY ?_
    refine qs 8 ?_
    exact Gy (rs := [.cell 6 _]) (L' := L) (F' := fL T b1 j1 d1 :: fI xx.path a8 k8 c8 :: F) Tryz.results25 (.agg (j := 1) rfl rfl rfl .nil) (Sub.drop.trans (Sub.drop.trans (Sub.drop.trans (Gj (mem2 memA memA (fun x hx => by repeat (first | exact hx | refine List.mem_cons_of_mem _ ?_))))))) (hO T xx b1 j1 d1 a8 k8 c8 (by rw [hfn, docF_one hone]))
   refine qs 9 ?_
   refine Ga (Gr HW HW (fun hl36 => ?_) (enc := eSl) (lst := foundN T lev ws s lev.length) (hm := memA))
   refine Ga (Hq HW HW HW (fun c37 => ?_) (fun c37 => ?_))
   ·refine qs 16 ?_
    exact Gy (rs := [.cell 6 _]) (L' := L) (F' := F) Tryz.results25 (.agg (j := 1) rfl rfl rfl .nil) subA (hE 9 (by decide) (by rw [hfn, docF_two HZ]))
   refine qs 10 ?_
   refine Ga (Gr HW HW (fun hl41 => ?_) (enc := eEn) (lst := lev) (hm := (show fEn lev f3 j3 d3 ∈ _ from memA)))
   refine Ga (Gu HW HW HW (fun c42 => ?_) (fun c42 => ?_))
   ·refine qs 16 ?_
    have hle : lev = [] := List.eq_nil_of_length_eq_zero HZ
    subst hle
    exact Gy (rs := [.cell 6 _]) (L' := L) (F' := F) Tryz.results25 (.agg (j := 1) rfl rfl rfl .nil) subA (hE 8 (by decide) (by rw [hfn, docF_none]))
   refine qs 8 ?_
   refine Ga (Gv HW HW HW (fun c45 => ?_) (fun c45 => ?_))
   ·refine qs 5 ?_
    have hle : lev ≠ [] := fun e => by subst e; exact c42 rfl
    have hnx := docF_next (N := N) (s := s) (n := 6 - n) (T := T) (ws := ws) (seen := seen) (by omega : (foundN T lev ws s lev.length).length = 0) hle
    refine Ga (Gf HW HW (rNext_c T N hdo.right lev n HZ hdo.lv ws hdo.ln hdo.wh seen (by have := hdo.few; omega) (e0 := e) (show fL T b1 j1 d1 ∈ _ from memA) (show fN N b2 j2 d2 ∈ _ from memA) (show fEn lev f3 j3 d3 ∈ _ from memA) (show fWh ws f4 j4 d4 ∈ _ from memA) (show fI seen f5 j5 d5 ∈ _ from memA) memA (fun T2 lev2 ws2 seen2 g1 l1 m1 gn ln mn g3 l3 m3 g4 l4 m4 g5 l5 m5 e2 hd2 hn2 => ?_)))
    refine qs 9 ?_
    refine Gi (n + 1, e2, (T2, lev2, ws2, seen2), ((g1, l1, m1), (gn, ln, mn), (g3, l3, m3), (g4, l4, m4), (g5, l5, m5))) ⟨by simp only; omega, ?_⟩ (by simp only; omega) srA (Gj (mem2 memA memA (mem2 memA memA (fun x hx => by repeat (first | exact hx | refine List.mem_cons_of_mem _ ?_)))))
    simp only
    rcases hd2 with ⟨h1, h2⟩ | ⟨h1, h2⟩
    · exact .inl ⟨h1, by omega, by rw [hfn, hnx, h2, show 7 - (n + 1) = 6 - n by omega]⟩
    exact .inr ⟨h1, by rw [hfn, hnx, h2, show 7 - (n + 1) = 6 - n by omega], fun _ => ⟨docNext_is hdo h2, by obtain ⟨e1, e2, e3⟩ := hn2 h1; subst e1 e2 e3; rfl⟩⟩
   refine qs 11 ?_
   have hle : lev ≠ [] := fun e => by subst e; exact c42 rfl
   have hnx := docF_next (N := N) (s := s) (n := 6 - n) (T := T) (ws := ws) (seen := seen) (by omega : (foundN T lev ws s lev.length).length = 0) hle
   obtain rfl : n = 6 := by omega
   exact Gi (7, e, (T, lev, ws, seen), ((b1, j1, d1), (b2, j2, d2), (f3, j3, d3), (f4, j4, d4), (f5, j5, d5))) ⟨by simp only; omega, .inr ⟨c19, by simp only; rw [hfn, hnx]; rfl, fun h => absurd h (by simp only; omega)⟩⟩ (by simp only; omega) srA (Gj (mem2 memA memA (mem2 memA memA (fun x hx => by repeat (first | exact hx | refine List.mem_cons_of_mem _ ?_)))))
  refine qs 15 ?_
  obtain rfl : n = 7 := by omega
  exact Gy (rs := [.cell 6 _]) (L' := L) (F' := F) Tryz.results25 (.agg (j := 1) rfl rfl rfl .nil) subA (hE 8 (by decide) (by rcases hrel with ⟨_, h, _⟩ | ⟨_, h, _⟩; exact absurd h HZ; rw [h]; rfl))
end
end Go.Sy
namespace Go.Sy
open Go Go.Proofs Go.RowKit
def stA : Ty := ⟨6, [], 0, [[65]], [2]⟩
def nmT0 : Ty := ⟨8, [112, 46, 84], 0, [], []⟩
def stT : Ty := ⟨6, [], 0, [[43, 84]], [23]⟩
def aliveS : List Ty := startL ++ [stA, nmT0, stT]
def nmS : Nmd := ⟨[112, 46, 84], [], 22, []⟩
theorem aliveS_len : aliveS.length = 25 := by decide
theorem aliveS_right : rightP aliveS := by
  have h : aliveS = ((startL ++ [stA]) ++ [nmT0]) ++ [stT] := by unfold aliveS; simp
  rw [h]
  have f1 : fieldsP stA.words := fun i hi => by
    have : i = 0 := by simp [stA] at hi; exact hi
    subst this
    exact ⟨(by decide : isName [65] = true), fun j hj => absurd hj HZ⟩
  have f2 : fieldsP stT.words := fun i hi => by
    have : i = 0 := by simp [stT] at hi; exact hi
    subst this
    exact ⟨(by decide : isName [84] = true), fun j hj => absurd hj HZ⟩
  refine right_snoc (right_snoc (right_snoc start_right (by decide) ⟨fun k hk => ?_, by decide, fun _ => rfl, fun h6 _ => absurd rfl h6, .inr (.inr (.inr (.inr (.inr (.inl ⟨rfl, rfl, f1, rfl⟩)))))⟩ (by decide)) (by decide) ⟨fun k hk => ?_, by decide, fun e => absurd rfl e, fun _ _ => rfl, (madeK_8 rfl).2 ⟨rfl, by unfold namedP; decide⟩⟩ (by decide)) (by decide) ⟨fun k hk => ?_, by decide, fun _ => rfl, fun h6 _ => absurd rfl h6, .inr (.inr (.inr (.inr (.inr (.inl ⟨rfl, rfl, f2, rfl⟩)))))⟩ (by decide)
  · have : k = 2 := by simpa [stA] using hk
    rw [this]; decide
  · simp [nmT0] at hk
  have : k = 23 := by simpa [stT] using hk
  rw [this]; decide
theorem nmS_named : namedU aliveS nmS := by
  refine ⟨by unfold namedP; decide, ⟨by decide, fun b hb => absurd hb (by simp [nmS])⟩, ⟨by unfold fewA; decide, by unfold isK; decide, by unfold isK; decide, by decide⟩, by decide, fun j hj => absurd hj (by simp [nmS]), fun e => absurd HW e⟩
theorem aliveS_rightU : rightU aliveS [nmS] := by
  refine ⟨aliveS_right, by decide, fun i hi => ?_, fun t ht h8 => ?_⟩
  · have h0 : i = 0 := by simp at hi; exact hi
    subst h0
    exact ⟨nmS_named, fun h => absurd h (by decide)⟩
  have hn : ∀ t ∈ startL ++ [stA], t.kind ≠ 8 := by decide
  have h : aliveS = (startL ++ [stA]) ++ [nmT0, stT] := by unfold aliveS; simp
  rw [h] at ht
  rcases List.mem_append.1 ht with h | h
  · exact absurd h8 (hn t h)
  simp at h
  rcases h with rfl | rfl
  · exact ⟨0, rfl, rfl⟩
  exact absurd h8 (by decide)
theorem nmS_ok : ∀ n ∈ [nmS], NmOk n := by
  intro n hn
  have : n = nmS := by simpa using hn
  subst this
  exact ⟨by decide, fun m hm => by simp [nmS] at hm⟩
theorem aliveS_sub : subR aliveS 22 [] = .ok (aliveS, 22) := subR_zero aliveS_right (by decide) (by decide)
theorem look24 : lookR aliveS [nmS] 24 = .ok (aliveS, ⟨24, []⟩) := by
  refine look_ok (k := 24) (o := aliveS) ?_ ?_
  · exact und_not (n := 24) (by decide) (by decide)
  rw [if_neg (by decide)]
  exact own_none (n := 24) (by decide) (by decide) (by decide)
theorem look23 : lookR aliveS [nmS] 23 = .ok (aliveS, ⟨22, []⟩) := by
  refine look_ok (k := 22) (o := aliveS) ?_ ?_
  · rw [show (23 : Int) = ((23 : Nat) : Int) from rfl, und_8 (N := [nmS]) (n := 23) (j := 0) (u := 22) (by decide) (by decide) (by decide) rfl rfl]
    exact aliveS_sub
  rw [if_neg (by decide)]
  rw [show (23 : Int) = ((23 : Nat) : Int) from rfl, own_8 (N := [nmS]) (n := 23) (j := 0) (by decide) (by decide) (by decide) rfl]
  rfl
theorem aliveS_find : findR [nmS] aliveS 24 [65] = .ok (aliveS, ⟨false, 2, false, false, [0, 0]⟩) := by
  unfold findR levelsL
  rw [show (24 : Int) = ((24 : Nat) : Int) from rfl, first_not (N := [nmS]) (n := 24) (by decide) (by decide)]
  simp only
  have l1 : looksR [nmS] aliveS [⟨((24 : Nat) : Int), false, false, []⟩] 1 = .ok (aliveS, [⟨24, []⟩]) := looks_ok (q := 0) (by decide) rfl look24
  have f1 : stpF [65] [] aliveS [⟨((24 : Nat) : Int), false, false, []⟩] [⟨24, []⟩] = [] := by decide
  have n1 : nextL aliveS [⟨((24 : Nat) : Int), false, false, []⟩] [⟨24, []⟩] (typs [⟨((24 : Nat) : Int), false, false, []⟩]) = [⟨23, false, false, [0]⟩] := by decide
  rw [runL_go (n := 6) l1 (by decide) (by rw [f1]; rfl), f1, n1]
  have l2 : looksR [nmS] aliveS [⟨23, false, false, [0]⟩] 1 = .ok (aliveS, [⟨22, []⟩]) := looks_ok (q := 0) (by decide) rfl look23
  have f2 : stpF [65] [] aliveS [⟨23, false, false, [0]⟩] [⟨22, []⟩] = [⟨false, 2, false, false, [0, 0]⟩] := by decide
  rw [runL_stop (n := 5) l2 (by decide) (by rw [f2]; rfl), f2]
  rfl
attribute [local irreducible] AC AT AO AK AH ACalls Sub Res.cells Res.obj Res.nix Res.own Res.map Exit.then Exit.inBlock bodyPost Code.wp Code.wpIn WL Next Post Kont
section
variable {W0 : World} {L : List Res} {F : List Fact} {R : Value → List Res → List Fact → Prop}
set_option maxRecDepth 100000
set_option maxHeartbeats 16000000
theorem sfew_c (l : List Ty) (N : List Nmd) {a a2 : Option Addr} {k c k2 c2 : Nat} (m1 : fL l a k c ∈ F) (m2 : fN N a2 k2 c2 ∈ F) (h : ∀ a k c a2 k2 c2, R (.agg #[.slice a k c, .slice a2 k2 c2]) L (fL (fewS l 70) a k c :: fN (fewN N 20) a2 k2 c2 :: F)) : ACalls Tryz.prog W0 18 #[.agg #[.slice a k c, .slice a2 k2 c2]] L F R := by
  refine Gg Tryz.func18 HW Tryz.ntmps18 HW ?_
  refine qs 2 ?_
  refine Ga (GK HW HW (fun b1 => (Ga (Gm HW (fun b2 => ?_)))))
  refine qs 5 ?_
  refine Ga (Gm HW (fun b3 => ?_))
  refine qs 10 ?_
  refine Ga (Gr HW HW (fun hl13 => ?_) (enc := eTy) (lst := l) (hm := memA))
  refine Ga (AO.min HW HW HW ?_)
  refine Ga (AO.sliceH (j' := min l.length 70) HW HW HW HZ (enc := eTy) (lst := l) memA HZ (fun a15 k15 c15 => ?_))
  refine Ga (Gr HW HW (fun hl16 => ?_) (enc := eTy) (lst := l.take (min l.length 70)) (hm := memA))
  refine qs 4 ?_
  have hfew : fewS l 70 = (l.take (min l.length 70)).map oneS := rfl
  have hwl : (l.take (min l.length 70)).length ≤ 70 := by simp only [List.length_take]; omega
  generalize l.take (min l.length 70) = l' at hwl hfew ⊢
  refine Gz (fun (i : Nat × Option Addr × Nat × Nat) => i.1 ≤ l'.length) (fun i => [(1, .pointer (some ⟨b1, 0, none⟩)), (2, .pointer (some ⟨b2, 0, none⟩)), (3, .pointer (some ⟨b3, 0, none⟩)), (15, .slice a15 k15 c15), (16, .int .i64 l'.length), (17, .int .i64 (i.1 : Int))]) (fun i => Res.own (.slice i.2.1 i.2.2.1 i.2.2.2) 29 5 (((l'.take i.1).map oneS).map eTy) :: Res.cells b3 #[.slice i.2.1 i.2.2.1 i.2.2.2, .slice none 0 0] _ :: _) (fun _ => fL l' a15 k15 c15 :: F) (fun i => l'.length - i.1) (0, none, 0, 0) (by simp) srA GZ ?_
  rintro ⟨q, a3, k3, c3⟩ hq
  simp only at hq ⊢
  refine qs 2 ?_
  refine Ga (Gv HW HW HW (fun c18 => ?_) (fun c18 => ?_))
  ·refine qs 10 ?_
   have hql : q < l'.length := by omega
   refine Ga (Gd HW HW HW HW (enc := eTy) (lst := l') memA hql (fun _ _ => ?_))
   refine Ga (GN HW HW ?_)
   intro a18 k18 z18 d18 e18 f18
   refine Ga (Gm HW (fun b5 => ?_))
   refine qs 4 ?_
   refine GM (fun i => Nat.beq i 22 || Nat.beq i 24 || Nat.beq i 26) [(b5, _, _)] bxA HW (fun hx hX => ?_)
   have hk1 := (Gq (hX (fW l'[q] a18 k18 z18) memA)).1
   have hk2 := (Gq (hX (fK l'[q] d18 e18 f18) memA)).1
   have hc1 := (Gq (hX (fW l'[q] a18 k18 z18) memA)).2
   have hc2 := (Gq (hX (fK l'[q] d18 e18 f18) memA)).2
   subst hk1 hk2
   refine AH.weak (Sub.part (enc := eS) (lst := l'[q].words) 0 (min l'[q].words.length 18) z18 (show fW l'[q] _ _ z18 ∈ _ from memA) HZ HZ HZ HZ) ?_
   refine AH.weak (Sub.part (enc := eI) (lst := l'[q].kids) 0 (min l'[q].kids.length 18) f18 (show fK l'[q] _ _ f18 ∈ _ from memA) HZ HZ HZ HZ) ?_
   refine qt [0, 1, 2, 3, 4, 5] ?_
   refine GB (i := 6) HW (Y.sliceSH (j' := min l'[q].name.length 50) HW HW HZ HZ) HY HW HW ?_
   refine qt [7, 8, 9, 10, 11, 12] ?_
   refine GB (i := 13) HW (Y.sliceH (j' := min l'[q].words.length 18) HW HW HZ HZ) HY HW HW ?_
   refine qt [14, 15, 16, 17, 18, 19] ?_
   refine GB (i := 20) HW (Y.sliceH (j' := min l'[q].kids.length 18) HW HW HZ HZ) HY HW HW ?_
   refine qt [21] ?_
   refine Gl (i := 22) HY HW HW (fun _ => ?_)
   refine GE HW HW HW ?_
   refine Gw HW ?_
   refine qt [23] ?_
   refine Gl (i := 24) HY HW HW (fun _ => ?_)
   refine GE HW HW HW ?_
   refine Gw HW ?_
   refine qt [25] ?_
   refine Gl (i := 26) HY HW HW (fun _ => ?_)
   refine GE HW HW HW ?_
   refine Gw HW ?_
   refine Gn HY ?_
   refine qs 5 ?_
   refine Ga (Gh HW HW HW HW HW (fun b48 => ?_))
   have htl : ((l'.take q).map oneS).length = q := by rw [List.length_map, List.length_take]; omega
   refine Ga (GG (i := 1) (enc := eTy) (lst := (l'.take q).map oneS) [oneS l'[q]] HW HW HW HW (.val (.val (.val (.slc (.slc .nil memA) memA)))) HW HW (fun _ => rfl) (by rw [htl]; simp only [maxLen]; omega) (by rw [htl]; omega) (fun a49 k49 c49 => ?_))
   rw [fewS_step hql]
   refine qs 9 ?_
   refine Gi (q + 1, a49, k49, c49) (by simp only; omega) (by simp only; omega) srA (Sub.drop.trans subF)
  refine qs 13 ?_
  have hall : l'.take q = l' := List.take_of_length_le HZ
  rw [hall]
  refine GC ((Gx (i := 0) HW).trans GD) ?_
  refine Ga (GU HW HW ?_)
  refine qs 2 ?_
  refine Ga (Gr HW HW (fun hl56 => ?_) (enc := eNm) (lst := N) (hm := memA))
  refine Ga (AO.min HW HW HW ?_)
  refine Ga (AO.sliceH (j' := min N.length 20) HW HW HW HZ (enc := eNm) (lst := N) memA HZ (fun a58 k58 c58 => ?_))
  refine Ga (Gr HW HW (fun hl59 => ?_) (enc := eNm) (lst := N.take (min N.length 20)) (hm := memA))
  refine qs 4 ?_
  have hfewN : fewN N 20 = (N.take (min N.length 20)).map oneN := rfl
  have hwN : (N.take (min N.length 20)).length ≤ 20 := by simp only [List.length_take]; omega
  generalize N.take (min N.length 20) = N' at hwN hfewN ⊢
  refine Gz (fun (i : Nat × Option Addr × Nat × Nat) => i.1 ≤ N'.length) (fun i => [(2, .pointer (some ⟨b2, 0, none⟩)), (3, .pointer (some ⟨b3, 0, none⟩)), (58, .slice a58 k58 c58), (59, .int .i64 N'.length), (60, .int .i64 (i.1 : Int))]) (fun i => Res.own (.slice i.2.1 i.2.2.1 i.2.2.2) 78 4 (((N'.take i.1).map oneN).map eNm) :: Res.cells b3 #[.slice a3 k3 c3, .slice i.2.1 i.2.2.1 i.2.2.2] _ :: _) (fun _ => fN N' a58 k58 c58 :: fL (l'.map oneS) a3 k3 c3 :: F) (fun i => N'.length - i.1) (0, none, 0, 0) (by simp) srA (Sub.ownNil.trans (Gj (mem2 memA memA (fun x hx => by repeat (first | exact hx | refine List.mem_cons_of_mem _ ?_))))) ?_
  rintro ⟨w, a4, k4, c4⟩ hw
  simp only at hw ⊢
  refine qs 2 ?_
  refine Ga (Gv HW HW HW (fun c61 => ?_) (fun c61 => ?_))
  ·refine qs 10 ?_
   have hwl' : w < N'.length := by omega
   refine Ga (Gd HW HW HW HW (enc := eNm) (lst := N') memA hwl' (fun _ _ => ?_))
   refine Ga (GN HW HW ?_)
   intro a63 k63 z63 d63 e63 f63
   refine Ga (Gm HW (fun b7 => ?_))
   refine qs 4 ?_
   refine GM (fun i => Nat.beq i 22 || Nat.beq i 24 || Nat.beq i 26) [(b7, _, _)] bxA HW (fun hx hX => ?_)
   have hk1 := (Gq (hX (fBd N'[w] a63 k63 z63) memA)).1
   have hk2 := (Gq (hX (fMs N'[w].methods d63 e63 f63) memA)).1
   have hc1 := (Gq (hX (fBd N'[w] a63 k63 z63) memA)).2
   have hc2 := (Gq (hX (fMs N'[w].methods d63 e63 f63) memA)).2
   subst hk1 hk2
   refine AH.weak (Sub.part (enc := eI) (lst := N'[w].bounds) 0 (min N'[w].bounds.length 18) z63 (show fBd N'[w] _ _ z63 ∈ _ from memA) HZ HZ HZ HZ) ?_
   refine AH.weak (Sub.part (enc := eMt) (lst := N'[w].methods) 0 (min N'[w].methods.length 18) f63 (show fMs N'[w].methods _ _ f63 ∈ _ from memA) HZ HZ HZ HZ) ?_
   refine qt [0, 1, 2, 3, 4, 5] ?_
   refine GB (i := 6) HW (Y.sliceSH (j' := min N'[w].name.length 50) HW HW HZ HZ) HY HW HW ?_
   refine qt [7, 8, 9, 10, 11, 12] ?_
   refine GB (i := 13) HW (Y.sliceH (j' := min N'[w].bounds.length 18) HW HW HZ HZ) HY HW HW ?_
   refine qt [14, 15, 16, 17, 18, 19] ?_
   refine GB (i := 20) HW (Y.sliceH (j' := min N'[w].methods.length 18) HW HW HZ HZ) HY HW HW ?_
   refine qt [21] ?_
   refine Gl (i := 22) HY HW HW (fun _ => ?_)
   refine GE HW HW HW ?_
   refine Gw HW ?_
   refine qt [23] ?_
   refine Gl (i := 24) HY HW HW (fun _ => ?_)
   refine GE HW HW HW ?_
   refine Gw HW ?_
   refine qt [25] ?_
   refine Gl (i := 26) HY HW HW (fun _ => ?_)
   refine GE HW HW HW ?_
   refine Gw HW ?_
   refine Gn HY ?_
   refine qs 5 ?_
   refine Ga (Gh HW HW HW HW HW (fun b91 => ?_))
   have htl : ((N'.take w).map oneN).length = w := by rw [List.length_map, List.length_take]; omega
   refine Ga (GG (i := 1) (enc := eNm) (lst := (N'.take w).map oneN) [oneN N'[w]] HW HW HW HW (.val (.slc (.val (.slc .nil memA)) memA)) HW HW (fun _ => rfl) (by rw [htl]; simp only [maxLen]; omega) (by rw [htl]; omega) (fun a92 k92 c92 => ?_))
   rw [fewN_step hwl']
   refine qs 9 ?_
   refine Gi (w + 1, a92, k92, c92) (by simp only; omega) (by simp only; omega) srA (Sub.drop.trans subF)
  refine qs 11 ?_
  have hallN : N'.take w = N' := List.take_of_length_le HZ
  rw [hallN]
  refine GC ((Gx (i := 0) HW).trans GD) ?_
  refine Ga (HM HW HW ?_)
  refine qs 4 ?_
  rw [hfew, hfewN] at h
  exact Gy (rs := [.cell 2 _]) (L' := L) (F' := fL (l'.map oneS) a3 k3 c3 :: fN (N'.map oneN) a4 k4 c4 :: F) Tryz.results18 (.agg (j := 1) rfl rfl rfl .nil) (Sub.drop.trans (Sub.drop.trans (Sub.drop.trans (Gj (mem2 memA memA (fun x hx => by repeat (first | exact hx | refine List.mem_cons_of_mem _ ?_))))))) (h _ _ _ _ _ _)
theorem sLikeR_c (p q : SelV) {a1 a2 : Option Addr} {k1 c1 k2 c2 : Nat} (m1 : fI p.path a1 k1 c1 ∈ F) (m2 : fI q.path a2 k2 c2 ∈ F) (hT : p = q → R (.bool true) L F) (hF : p ≠ q → R (.bool false) L F) :
    ACalls Tryz.prog W0 21 #[vSl p a1 k1 c1, vSl q a2 k2 c2] L F R := by
  refine Gg Tryz.func21 HW Tryz.ntmps21 HW ?_
  refine qs 2 ?_
  refine Ga (GK HW HW (fun b2 => (Ga (GK HW HW (fun b3 => ?_)))))
  refine qs 10 ?_
  refine Ga (AO.neqBs HW HW HW (fun c10 => ?_) (fun c10 => ?_))
  ·refine qs 40 ?_
   exact Gb (L' := L) (F' := F) Tryz.results21 rfl subA (hF (fun e => c10 (by rw [e])))
  refine qs 5 ?_
  refine Ge HW HW (GJ HW HW HW (fun c16 => ?_) (fun c16 => ?_))
  ·refine qs 34 ?_
   exact Gb (L' := L) (F' := F) Tryz.results21 rfl subA (hF (fun e => c16 (by rw [e])))
  refine qs 6 ?_
  refine Ge HW HW (AO.neqBs HW HW HW (fun c23 => ?_) (fun c23 => ?_))
  ·refine qs 27 ?_
   exact Gb (L' := L) (F' := F) Tryz.results21 rfl subA (hF (fun e => c23 (by rw [e])))
  refine qs 6 ?_
  refine Ge HW HW (AO.neqBs HW HW HW (fun c30 => ?_) (fun c30 => ?_))
  ·refine qs 20 ?_
   exact Gb (L' := L) (F' := F) Tryz.results21 rfl subA (hF (fun e => c30 (by rw [e])))
  refine qs 4 ?_
  refine Ge HW HW (Gr HW HW (fun hl35 => ?_) (enc := eI) (lst := p.path) (hm := (show fI p.path a1 k1 c1 ∈ _ from memA)))
  refine qs 2 ?_
  refine Ge HW HW (Gr HW HW (fun hl38 => ?_) (enc := eI) (lst := q.path) (hm := (show fI q.path a2 k2 c2 ∈ _ from memA)))
  refine Ge HW HW (GJ HW HW HW (fun c39 => ?_) (fun c39 => ?_))
  ·refine qs 11 ?_
   exact Gb (L' := L) (F' := F) Tryz.results21 rfl subA (hF (fun e => c39 (by rw [e])))
  refine qs 11 ?_
  refine Ga (Gr HW HW (fun hl43 => ?_) (enc := eI) (lst := p.path) (hm := (show fI p.path a1 k1 c1 ∈ _ from memA)))
  refine qs 4 ?_
  refine Gz (fun k => k ≤ p.path.length ∧ p.path.take k = q.path.take k) (fun k => [(2, .pointer (some ⟨b2, 0, none⟩)), (3, .pointer (some ⟨b3, 0, none⟩)), (43, .int .i64 p.path.length), (44, .int .i64 (k : Int))]) (fun _ => _) (fun _ => F) (fun k => p.path.length - k) 0 ⟨by omega, by simp⟩ srA (Gc _ _) ?_
  rintro k ⟨hk, hok⟩
  refine qs 2 ?_
  refine Ga (Gv HW HW HW (fun c45 => ?_) (fun c45 => ?_))
  ·refine qs 15 ?_
   refine GM (fun _ => false) [(b2, _, _), (b3, _, _)] bxA HW (fun hx hX => ?_)
   have hkl : k < p.path.length := by omega
   have hkm : k < q.path.length := by omega
   have hkk1 := (Gq (hX (fI p.path a1 k1 c1) memA)).1
   have hkk3 := (Gq (hX (fI q.path a2 k2 c2) memA)).1
   obtain ⟨p1, o1, e1, at1⟩ := Gt (hX (fI p.path a1 k1 c1) memA) hkl
   obtain ⟨p2, o2, e2, at2⟩ := Gt (hX (fI q.path a2 k2 c2) memA) hkm
   subst e1 e2
   obtain ⟨v1, h10, hc1⟩ := at1 0 _ rfl
   obtain ⟨v2, h20, hc2⟩ := at2 0 _ rfl
   cases hc1
   cases hc2
   refine qt [0, 1, 2] ?_
   refine GB (i := 3) HW (GA (k := k) HW HW HW HZ) HY HW HW ?_
   refine GL (i := 4) HW (Ho HW h10) HY HY HW HW HW ?_
   refine qt [5, 6, 7] ?_
   refine GB (i := 8) HW (GA (k := k) HW HW HW HZ) HY HW HW ?_
   refine GL (i := 9) HW (Ho HW h20) HY HY HW HW HW ?_
   refine Ha (i := 10) HW (Y.neq HW HW) HY HW HW (fun c57 => ?_) (fun c57 => ?_)
   ·replace c57 := ne_of_bne c57
    refine Gn HY ?_
    refine qs 13 ?_
    exact Gb (L' := L) (F' := F) Tryz.results21 rfl subA (hF (fun e => by cases e; exact c57 rfl))
   replace c57 := eq_of_bneF c57
   refine Gn HY ?_
   refine qs 9 ?_
   exact Gi (k + 1) ⟨by omega, take_step hok hkl hkm c57⟩ HZ srA subF
  refine qs 15 ?_
  exact Gb (L' := L) (F' := F) Tryz.results21 rfl subA (hT (sl_ext c10 c16 c23 c30 (Hh hok HZ HZ)))
theorem salive_c (g : Glob W0) (h : R (.bool true) L F) : ACalls Tryz.prog W0 22 #[] L F R := by
  refine HB ((Hn (sz := 3)).trans ((Hn (sz := 1)).trans (Hn (sz := 5)))) ?_
  refine Gg Tryz.func22 HW Tryz.ntmps22 HW ?_
  refine qs 7 ?_
  refine Ga (Gf HW HW (rstartO_c (fun a5 k5 c5 => ?_)))
  refine Ga (Gh HW HW HW HW HW (fun b6 => ?_))
  refine GC (GT (Hf (i := 0) (enc := eS) (sz := 1) [[65]] HW (.val .nil) (fun _ => rfl) HW (by decide)) GD) ?_
  refine Ga (Gh HW HW HW HW HW (fun b7 => ?_))
  refine GC (GT (Hf (i := 0) (enc := eI) (sz := 1) [2] HW (.val .nil) (fun _ => rfl) HW (by decide)) GD) ?_
  refine Ga (GI HW HW HW (Ga (GI HW HW HW ?_)))
  refine Ga (Gh HW HW HW HW HW (fun b10 => ?_))
  refine GC (GT (Hf (i := 0) (enc := eS) (sz := 1) [[43, 84]] HW (.val .nil) (fun _ => rfl) HW (by decide)) GD) ?_
  refine Ga (Gh HW HW HW HW HW (fun b11 => ?_))
  refine GC (GT (Hf (i := 0) (enc := eI) (sz := 1) [23] HW (.val .nil) (fun _ => rfl) HW (by decide)) GD) ?_
  refine Ga (GI HW HW HW ?_)
  refine Ga (Gh HW HW HW HW HW (fun b13 => ?_))
  refine Ga (GG (i := 0) (enc := eTy) (lst := startL) [stA, nmT0, stT] HW HW HW HW (.val (.val (.val (.slc (.slc (.val (.val (.val (.slc (.slc (.val (.val (.val (.slc (.slc .nil memA) memA)))) memA) memA)))) memA) memA)))) HW HW (fun _ => rfl) (by decide) (by decide) (fun a14 k14 c14 => ?_))
  refine GC ((Gx (i := 0) HW).trans GD) ?_
  refine qs 6 ?_
  refine Ga (GI HW HW HW ?_)
  refine Ga (Gh HW HW HW HW HW (fun b18 => ?_))
  refine GC (GT (Hf (i := 0) (enc := eNm) (sz := 4) [nmS] HW (.val (.slc (.val (.slc .nil memA)) memA)) (fun _ => rfl) HW (by decide)) GD) ?_
  refine Ga (GI HW HW HW ?_)
  refine Ga (Gf HW HW (sFind_c g aliveS [nmS] (HA aliveS_right) nmS_ok 24 [65] (show fL aliveS _ _ _ ∈ _ from memA) (show fN [nmS] _ _ _ ∈ _ from memA) memA memA (fun e _ hb => ?_) (fun _ _ _ _ _ e _ he => ?_) (fun _ _ _ _ _ o x a20 k20 c20 a21 k21 c21 hx => ?_)))
  · rcases hb with ⟨h, _⟩ | ⟨_, h, _⟩ | ⟨_, _, h, _⟩
    · exact absurd aliveS_rightU h
    · exact absurd (by rw [aliveS_len]; decide) h
    exact absurd h (by decide)
  · rw [aliveS_find] at he; cases he
  rw [aliveS_find] at hx
  injection hx with hx
  injection hx with hx1 hx2
  subst hx1 hx2
  refine qs 4 ?_
  refine Ga (Gm HW (fun b2 => (Ga (Gm HW (fun b3 => ?_)))))
  refine qs 8 ?_
  refine Ga (Gu HW HW HW (fun c25 => ?_) (fun c25 => ?_))
  ·refine qs 2 ?_
   refine Ge HW HW (GU HW HW ?_)
   refine qs 5 ?_
   refine Ge HW HW (Gu HW HW HW (fun c34 => ?_) (fun c34 => ?_))
   ·refine qs 4 ?_
    refine Ge HW HW (Gr HW HW (fun hl39 => ?_) (enc := eI) (lst := [0, 0]) (hm := (show Fact.slc (.slice a21 k21 c21) 1 (([0, 0] : List Int).map eI) ∈ _ from memA)))
    refine Ge HW HW (Gu HW HW HW (fun c40 => ?_) (fun c40 => ?_))
    ·refine qs 5 ?_
     first | exact Gb (L' := L) (F' := F) Tryz.results22 rfl subA h | exact absurd rfl c25 | exact absurd rfl c34 | exact absurd (by decide) c40
    refine qs 5 ?_
    first | exact Gb (L' := L) (F' := F) Tryz.results22 rfl subA h | exact absurd rfl c25 | exact absurd rfl c34 | exact absurd (by decide) c40
   refine qs 11 ?_
   first | exact Gb (L' := L) (F' := F) Tryz.results22 rfl subA h | exact absurd rfl c25 | exact absurd rfl c34 | exact absurd (by decide) c40
  refine qs 20 ?_
  first | exact Gb (L' := L) (F' := F) Tryz.results22 rfl subA h | exact absurd rfl c25 | exact absurd rfl c34 | exact absurd (by decide) c40
end
end Go.Sy
namespace Go.Sy
open Go Go.Proofs Go.RowKit
abbrev noS : SelV := ⟨false, 0, false, false, []⟩
def goodS (T : List Ty) (N : List Nmd) (i : Int) (s : List UInt8) : Prop := rightU T N ∧ (0 ≤ i ∧ i < T.length) ∧ isName s = true ∧ s ≠ [95]
def selP (T : List Ty) (N : List Nmd) (i : Int) (s : List UInt8) (o : List Ty) (M : List Nmd) (x : SelV) (e : Int) : Prop :=
  (e ≠ 0 ∧ (badS T N i s e ∨ (goodS T N i s ∧ findR N T i s = .error e)) ∧ o = [] ∧ M = [] ∧ x = noS) ∨ (e = 0 ∧ goodS T N i s ∧ findR N T i s = .ok (o, x) ∧ M = N)
def docS (T : List Ty) (N : List Nmd) (i : Int) (s : List UInt8) (o : List Ty) (M : List Nmd) (x : SelV) (e : Int) : Prop :=
  (e ≠ 0 ∧ findR N T i s = .error e ∧ o = [] ∧ M = [] ∧ x = noS) ∨ (e = 0 ∧ findR N T i s = .ok (o, x) ∧ M = N)
theorem bad_good {T : List Ty} {N : List Nmd} {i : Int} {s : List UInt8} {e : Int} (hb : badS T N i s e) (hg : goodS T N i s) : False := by
  obtain ⟨g1, g2, g3, g4⟩ := hg
  rcases hb with ⟨h, _⟩ | ⟨_, h, _⟩ | ⟨_, _, h | h, _⟩
  · exact h g1
  · exact h g2
  · rw [g3] at h; cases h
  exact g4 h
theorem bad_once {T : List Ty} {N : List Nmd} {i : Int} {s : List UInt8} {e b : Int} (h1 : badS T N i s e) (h2 : badS T N i s b) : e = b := by
  rcases h1 with ⟨h, e1⟩ | ⟨h, h', e1⟩ | ⟨h, h', _, e1⟩ <;> rcases h2 with ⟨k, e2⟩ | ⟨k, k', e2⟩ | ⟨k, k', _, e2⟩
  all_goals first | omega | exact absurd k h | exact absurd h k | exact absurd k' h' | exact absurd h' k'
theorem sel_bad {T : List Ty} {N : List Nmd} {i : Int} {s : List UInt8} {o : List Ty} {M : List Nmd} {x : SelV} {e b : Int} (hs : selP T N i s o M x e) (hb : badS T N i s b) : e = b ∧ o = [] ∧ M = [] ∧ x = noS := by
  rcases hs with ⟨_, h | ⟨h, _⟩, h2⟩ | ⟨_, h, _⟩
  · exact ⟨bad_once h hb, h2⟩
  · exact (bad_good hb h).elim
  exact (bad_good hb h).elim
theorem sel_doc {T : List Ty} {N : List Nmd} {i : Int} {s : List UInt8} {o o' : List Ty} {M M' : List Nmd} {x x' : SelV} {e e' : Int} (hs : selP T N i s o M x e) (hg : goodS T N i s) (hd : docS T N i s o' M' x' e') : e = e' ∧ o = o' ∧ M = M' ∧ x = x' := by
  rcases hs with ⟨h0, h | ⟨_, h⟩, h2, h3, h4⟩ | ⟨h0, _, h, h2⟩
  · exact (bad_good h hg).elim
  · rcases hd with ⟨k0, k, k2, k3, k4⟩ | ⟨k0, k, _⟩
    · rw [h] at k; injection k with k; subst k h2 h3 h4 k2 k3 k4; exact ⟨rfl, rfl, rfl, rfl⟩
    rw [h] at k; cases k
  rcases hd with ⟨k0, k, _⟩ | ⟨k0, k, k2⟩
  · rw [h] at k; cases k
  rw [h] at k; injection k with k; injection k with k1 k3; subst k1 k3 h2 k2; exact ⟨by omega, rfl, rfl, rfl⟩
def oneSl (s : SelV) : SelV := ⟨s.method, s.typ, s.ptr, s.via, s.path.take (min s.path.length 9)⟩
attribute [local irreducible] AC AT AO AK AH ACalls Sub Res.cells Res.obj Res.nix Res.own Res.map Exit.then Exit.inBlock bodyPost Code.wp Code.wpIn WL Next Post Kont
section
variable {W0 : World} {L : List Res} {F : List Fact} {R : Value → List Res → List Fact → Prop}
set_option maxRecDepth 100000
set_option maxHeartbeats 16000000
theorem sFind2_c (g : Glob W0) (T : List Ty) (N : List Nmd) (hok : ∀ t ∈ T, TyOk t) (hno : ∀ n ∈ N, NmOk n) (i : Int) (s : List UInt8) {a a2 : Option Addr} {k c k2 c2 : Nat} (mL : fL T a k c ∈ F) (mN : fN N a2 k2 c2 ∈ F) (mE : Fact.slc (.slice none 0 0) 5 [] ∈ F) (mM : Fact.slc (.slice none 0 0) 3 [] ∈ F) (m4 : Fact.slc (.slice none 0 0) 4 [] ∈ F) (m1 : Fact.slc (.slice none 0 0) 1 [] ∈ F)
    (h : ∀ o M x e a k c an kn cn a5 k5 c5, selP T N i s o M x e → R (.tuple #[.agg #[.slice a k c, .slice an kn cn], vSl x a5 k5 c5, .int .i64 e]) L (fL o a k c :: fN M an kn cn :: fI x.path a5 k5 c5 :: F)) :
    ACalls Tryz.prog W0 19 #[.agg #[.slice a k c, .slice a2 k2 c2], .int .i64 i, S s] L F R := by
  refine ACalls.out (R' := fun v L' F' => ∃ F'', Sub L' F' L' F'' ∧ R v L' F'') ?_ (fun v L' F' ⟨F'', h1, h2⟩ => ⟨L', F'', h1, h2⟩)
  refine sFind_c g T N hok hno i s mL mN mE mM (fun e he hb => ⟨_, Gj ?_, h [] [] noS e none 0 0 none 0 0 none 0 0 (.inl ⟨he, .inl hb, rfl, rfl, rfl⟩)⟩) (fun c1 c2 c3 c4 c5 e he hx => ⟨_, Gj ?_, h [] [] noS e none 0 0 none 0 0 none 0 0 (.inl ⟨he, .inr ⟨⟨c1, ⟨c2, c3⟩, c4, c5⟩, hx⟩, rfl, rfl, rfl⟩)⟩) (fun c1 c2' c3 c4 c5 o x a k c a5 k5 c5' hx => ⟨_, Gj ?_, h o N x 0 a k c a2 k2 c2 a5 k5 c5' (.inr ⟨rfl, ⟨c1, ⟨c2', c3⟩, c4, c5⟩, hx, rfl⟩)⟩)
  · exact mem2 mE m4 (mem1 m1 (fun x hx => hx))
  · exact mem2 mE m4 (mem1 m1 (fun x hx => hx))
  exact mem2 memA (List.mem_cons_of_mem _ (List.mem_cons_of_mem _ mN)) (mem1 memA (fun x hx => List.mem_cons_of_mem _ (List.mem_cons_of_mem _ hx)))
theorem rFind2_c (T : List Ty) (N : List Nmd) (i : Int) (s : List UInt8) (hg : goodS T N i s) {a a2 : Option Addr} {k c k2 c2 : Nat} (mL : fL T a k c ∈ F) (mN : fN N a2 k2 c2 ∈ F) (mE : Fact.slc (.slice none 0 0) 5 [] ∈ F) (m4 : Fact.slc (.slice none 0 0) 4 [] ∈ F) (m1 : Fact.slc (.slice none 0 0) 1 [] ∈ F)
    (h : ∀ o M x e a k c an kn cn a5 k5 c5, docS T N i s o M x e → R (vF a k c an kn cn x a5 k5 c5 e) L (fL o a k c :: fN M an kn cn :: fI x.path a5 k5 c5 :: F)) :
    ACalls Tryz.prog W0 25 #[.agg #[.slice a k c, .slice a2 k2 c2], .int .i64 i, S s] L F R := by
  refine ACalls.out (R' := fun v L' F' => ∃ F'', Sub L' F' L' F'' ∧ R v L' F'') ?_ (fun v L' F' ⟨F'', h1, h2⟩ => ⟨L', F'', h1, h2⟩)
  refine rFind_c T N hg.1 i hg.2.1.1 hg.2.1.2 s mL mN mE (fun e he hx => ⟨_, Gj ?_, h [] [] noS e none 0 0 none 0 0 none 0 0 (.inl ⟨he, hx, rfl, rfl, rfl⟩)⟩) (fun o x a k c a5 k5 c5' hx => ⟨_, Gj ?_, h o N x 0 a k c a2 k2 c2 a5 k5 c5' (.inr ⟨rfl, hx, rfl⟩)⟩)
  · exact mem2 mE m4 (mem1 m1 (fun x hx => hx))
  exact mem2 memA (List.mem_cons_of_mem _ (List.mem_cons_of_mem _ mN)) (mem1 memA (fun x hx => List.mem_cons_of_mem _ (List.mem_cons_of_mem _ hx)))
theorem selFinds_c (g : Glob W0) (T0 : List Ty) (N0 : List Nmd) (i : Int) (s0 : List UInt8) (p0 q0 : SelV) (hT : ∀ t ∈ T0, TyUp t) (hN : ∀ n ∈ N0, NmUp n) {a a2 a3 a4 : Option Addr} {k c k2 c2 k3 c3 k4 c4 : Nat}
    (n1 : fL T0 a k c ∈ F) (n2 : fN N0 a2 k2 c2 ∈ F) (n3 : fI p0.path a3 k3 c3 ∈ F) (n4 : fI q0.path a4 k4 c4 ∈ F) (h : R (.bool true) L F) :
    ACalls Tryz.prog W0 4 #[.agg #[.slice a k c, .slice a2 k2 c2], .int .i64 i, S s0, vSl p0 a3 k3 c3, vSl q0 a4 k4 c4] L F R := by
  refine HB ((Hn (sz := 3)).trans ((Hn (sz := 5)).trans ((Hn (sz := 4)).trans (Hn (sz := 1))))) ?_
  have hok := fewS_ok (m := 70) hT
  have hno := fewN_ok (m := 20) hN
  refine Gg Tryz.func4 HW Tryz.ntmps4 HW ?_
  refine qs 2 ?_
  refine Ga (GK HW HW (fun b5 => (Ga (GK HW HW (fun b8 => (Ga (GK HW HW (fun b9 => ?_))))))))
  refine qs 4 ?_
  refine GM (fun i => Nat.beq i 7) [(b5, _, _)] bxA HW (fun hx hX => ?_)
  have hk1 := (Gq (hX (fI p0.path a3 k3 c3) memA)).1
  have hk2 := (Gq (hX (fI q0.path a4 k4 c4) memA)).1
  have hc1 := (Gq (hX (fI p0.path a3 k3 c3) memA)).2
  have hc2 := (Gq (hX (fI q0.path a4 k4 c4) memA)).2
  subst hk1 hk2
  refine AH.weak (Sub.part (enc := eI) (lst := p0.path) 0 (min p0.path.length 9) c3 (show fI p0.path _ _ c3 ∈ _ from memA) HZ HZ HZ HZ) ?_
  refine AH.weak (Sub.part (enc := eI) (lst := q0.path) 0 (min q0.path.length 9) c4 (show fI q0.path _ _ c4 ∈ _ from memA) HZ HZ HZ HZ) ?_
  refine qt [0, 2, 3, 4, 5] ?_
  refine GB (i := 6) HW (Y.sliceSH (j' := min s0.length 30) HW HW HZ HZ) HY HW HW ?_
  refine Gl (i := 1) HY HW HW (fun _ => ?_)
  refine Gf HW HW (sfew_c T0 N0 (show fL T0 a k c ∈ _ from memA) (show fN N0 a2 k2 c2 ∈ _ from memA) (fun aT kT cT aN kN cN => ?_))
  generalize fewS T0 70 = T at hok ⊢
  generalize fewN N0 20 = N at hno ⊢
  refine Gk bxA memB ?_
  refine Gl (i := 7) HY HW HW (fun _ => ?_)
  refine GF HW HW HW HW ?_
  refine Gw HW ?_
  refine qt [8] ?_
  refine Gn HY ?_
  refine qs 2 ?_
  refine AC.drawM [([(b8, _, _)], fun j => Nat.beq j 15 || Nat.beq j 17), ([(b9, _, _)], fun j => Nat.beq j 17)] (.cons bxA (.cons bxA .nil)) HW (fun hx hX => ?_)
  refine HT (i := 0) HW (Y.field HW) HY HW HW ?_
  refine AJ.takeS (i := 1) (.head _) HW (HI HW (.head _) (by rfl)) HY HY HW HW HW ?_
  refine HT (i := 2) HW (Y.field HW) HY HW HW ?_
  refine AJ.takeS (i := 3) (.head _) HW (HI HW (.head _) (by rfl)) HY HY HW HW HW ?_
  refine HT (i := 4) HW (Y.lenV HW) HY HW HW ?_
  refine HT (i := 5) HW (Y.min HW HW) HY HW HW ?_
  refine HT (i := 6) HW (Y.sliceH (j' := min p0.path.length 9) HW HW HZ HZ) HY HW HW ?_
  refine HT (i := 7) HW (Y.field HW) HY HW HW ?_
  refine AJ.takeS (i := 8) (.tail _ (.head _)) HW (HI HW (.head _) (by rfl)) HY HY HW HW HW ?_
  refine HT (i := 9) HW (Y.field HW) HY HW HW ?_
  refine AJ.takeS (i := 10) (.tail _ (.head _)) HW (HI HW (.head _) (by rfl)) HY HY HW HW HW ?_
  refine HT (i := 11) HW (Y.lenV HW) HY HW HW ?_
  refine HT (i := 12) HW (Y.min HW HW) HY HW HW ?_
  refine HT (i := 13) HW (Y.sliceH (j' := min q0.path.length 9) HW HW HZ HZ) HY HW HW ?_
  refine HT (i := 14) HW (Y.field HW) HY HW HW ?_
  refine AJ.ups (is := [15]) HY (by simp) (Ups.cons HW HW (fun _ => ?_) Ups.nil)
  refine GE HW HW HW ?_
  refine AT.go (.spoil HW (.held bxA .nil)) memA ?_
  refine HT (i := 16) HW (Y.field HW) HY HW HW ?_
  refine AJ.ups (is := [17]) HY (by simp) (Ups.cons HW HW (fun _ => ?_) Ups.nil)
  refine GE HW HW HW ?_
  refine AT.go (.spoil HW (.spoil HW .nil)) memA ?_
  refine AJ.done HY ?_
  refine qs 6 ?_
  have hsl : (s0.take (min s0.length 30)).length ≤ 30 := by rw [List.length_take]; omega
  generalize s0.take (min s0.length 30) = s at hsl ⊢
  refine Ga (Gf HW HW (sFind2_c g T N hok hno i s (show fL T _ _ _ ∈ _ from memA) (show fN N _ _ _ ∈ _ from memA) memA memA memA memA (fun o M x e a43 k43 c43 an kn cn a44 k44 c44 hs => ?_)))
  refine qs 4 ?_
  refine Ga (Gm HW (fun b11 => (Ga (Gm HW (fun b12 => ?_)))))
  refine qs 7 ?_
  refine AC.cut (fun (_ : Unit) _ => [(63, .bool false), (1, .int .i64 i), (2, S s), (5, .pointer (some ⟨b5, 0, none⟩)), (11, .pointer (some ⟨b11, 0, none⟩)), (12, .pointer (some ⟨b12, 0, none⟩)), (13, .int .i64 e)]) (fun _ L => L) (fun _ F => F) ?_ (fun key => ?_)
  ·intro xx
   refine qs 14 ?_
   refine Ga (Gf HW HW (ruright_c T N hok hno (show fL T _ _ _ ∈ _ from memA) (show fN N _ _ _ ∈ _ from memA) (fun c66 => ?_) (fun c66 => ?_)))
   ·refine qs 8 ?_
    refine Ga (Gv HW HW HW (fun c70 => ?_) (fun c70 => ?_))
    ·refine qs 20 ?_
     obtain ⟨he, ho, hM, hx⟩ := sel_bad hs (.inr (.inl ⟨c66, by omega, rfl⟩))
     subst he ho hM hx
     refine Ga (GJ HW HW HW (fun _ => ?_) (fun c87 => absurd c87 (by decide)))
     refine qs 7 ?_
     refine Ga (Gu HW HW HW (fun _ => ?_) (fun c90 => absurd HW c90))
     refine qs 3 ?_
     refine Ge rfl rfl (Gf rfl rfl (rulike_c [] [] [] [] (show fL [] a43 k43 c43 ∈ _ from memA) (show fN [] an kn cn ∈ _ from memA) (show fL [] none 0 0 ∈ _ from memA) (show fN [] none 0 0 ∈ _ from memA) (fun _ _ => ?_) (fun c94 => absurd ⟨rfl, rfl⟩ c94)))
     refine qs 4 ?_
     refine Ge HW HW (Gf HW HW (sLikeR_c noS noS (show fI [] a44 k44 c44 ∈ _ from memA) (show fI [] none 0 0 ∈ _ from memA) (fun _ => ?_) (fun c99 => absurd HW c99)))
     refine qs 6 ?_
     exact Gb (L' := L) (F' := F) Tryz.results4 rfl subA h
    refine qs 4 ?_
    refine Ge HW HW (Gr HW HW (fun hl75 => ?_) (enc := eTy) (lst := T) (hm := (show fL T aT kT cT ∈ _ from memA)))
    refine Ge HW HW (Hc HW HW HW (fun c76 => ?_) (fun c76 => ?_))
    ·refine qs 14 ?_
     obtain ⟨he, ho, hM, hx⟩ := sel_bad hs (.inr (.inl ⟨c66, by omega, rfl⟩))
     subst he ho hM hx
     refine Ga (GJ HW HW HW (fun _ => ?_) (fun c87 => absurd c87 (by decide)))
     refine qs 7 ?_
     refine Ga (Gu HW HW HW (fun _ => ?_) (fun c90 => absurd HW c90))
     refine qs 3 ?_
     refine Ge rfl rfl (Gf rfl rfl (rulike_c [] [] [] [] (show fL [] a43 k43 c43 ∈ _ from memA) (show fN [] an kn cn ∈ _ from memA) (show fL [] none 0 0 ∈ _ from memA) (show fN [] none 0 0 ∈ _ from memA) (fun _ _ => ?_) (fun c94 => absurd ⟨rfl, rfl⟩ c94)))
     refine qs 4 ?_
     refine Ge HW HW (Gf HW HW (sLikeR_c noS noS (show fI [] a44 k44 c44 ∈ _ from memA) (show fI [] none 0 0 ∈ _ from memA) (fun _ => ?_) (fun c99 => absurd HW c99)))
     refine qs 6 ?_
     exact Gb (L' := L) (F' := F) Tryz.results4 rfl subA h
    refine qs 8 ?_
    refine Ga (Gf HW HW (rname_c s HZ (fun c80 => ?_) (fun c80 => ?_)))
    ·refine qs 3 ?_
     refine Ge HW HW (Hr HW HW HW (fun c84 => ?_) (fun c84 => ?_))
     ·refine qs 14 ?_
      obtain ⟨he, ho, hM, hx⟩ := sel_bad hs (.inr (.inr ⟨c66, by omega, by first | exact .inl c80 | exact .inr c84, rfl⟩))
      subst he ho hM hx
      refine Ga (GJ HW HW HW (fun _ => ?_) (fun c87 => absurd c87 (by decide)))
      refine qs 7 ?_
      refine Ga (Gu HW HW HW (fun _ => ?_) (fun c90 => absurd HW c90))
      refine qs 3 ?_
      refine Ge rfl rfl (Gf rfl rfl (rulike_c [] [] [] [] (show fL [] a43 k43 c43 ∈ _ from memA) (show fN [] an kn cn ∈ _ from memA) (show fL [] none 0 0 ∈ _ from memA) (show fN [] none 0 0 ∈ _ from memA) (fun _ _ => ?_) (fun c94 => absurd ⟨rfl, rfl⟩ c94)))
      refine qs 4 ?_
      refine Ge HW HW (Gf HW HW (sLikeR_c noS noS (show fI [] a44 k44 c44 ∈ _ from memA) (show fI [] none 0 0 ∈ _ from memA) (fun _ => ?_) (fun c99 => absurd HW c99)))
      refine qs 6 ?_
      exact Gb (L' := L) (F' := F) Tryz.results4 rfl subA h
     refine qs 12 ?_
     have hg : goodS T N i s := ⟨c66, by omega, c80, c84⟩
     refine Ga (GJ HW HW HW (fun c87 => absurd HW c87) (fun _ => ?_))
     refine qs 10 ?_
     refine Ga (Gf HW HW (rFind2_c T N i s hg (show fL T aT kT cT ∈ _ from memA) (show fN N aN kN cN ∈ _ from memA) memA memA memA (fun o2 M2 x2 e2 a104 k104 c104 bn jn dn a105 k105 c105 hd => ?_)))
     obtain ⟨he, ho, hM, hx⟩ := sel_doc hs hg hd
     subst he ho hM hx
     refine Ga (Gm HW (fun b15 => ?_))
     refine qs 8 ?_
     refine Ga (Gu HW HW HW (fun _ => ?_) (fun c108 => absurd HW c108))
     refine qs 4 ?_
     refine Ge rfl rfl (Gf rfl rfl (rulike_c o o M M (show fL o a43 k43 c43 ∈ _ from memA) (show fN M an kn cn ∈ _ from memA) (show fL o a104 k104 c104 ∈ _ from memA) (show fN M bn jn dn ∈ _ from memA) (fun _ _ => ?_) (fun c113 => absurd ⟨rfl, rfl⟩ c113)))
     refine qs 5 ?_
     refine Ge HW HW (Gf HW HW (sLikeR_c x x (show fI x.path a44 k44 c44 ∈ _ from memA) (show fI x.path a105 k105 c105 ∈ _ from memA) (fun _ => ?_) (fun c119 => absurd HW c119)))
     refine qs 5 ?_
     exact Gb (L' := L) (F' := F) Tryz.results4 rfl subA h
    refine qs 18 ?_
    obtain ⟨he, ho, hM, hx⟩ := sel_bad hs (.inr (.inr ⟨c66, by omega, by first | exact .inl c80 | exact .inr c84, rfl⟩))
    subst he ho hM hx
    refine Ga (GJ HW HW HW (fun _ => ?_) (fun c87 => absurd c87 (by decide)))
    refine qs 7 ?_
    refine Ga (Gu HW HW HW (fun _ => ?_) (fun c90 => absurd HW c90))
    refine qs 3 ?_
    refine Ge rfl rfl (Gf rfl rfl (rulike_c [] [] [] [] (show fL [] a43 k43 c43 ∈ _ from memA) (show fN [] an kn cn ∈ _ from memA) (show fL [] none 0 0 ∈ _ from memA) (show fN [] none 0 0 ∈ _ from memA) (fun _ _ => ?_) (fun c94 => absurd ⟨rfl, rfl⟩ c94)))
    refine qs 4 ?_
    refine Ge HW HW (Gf HW HW (sLikeR_c noS noS (show fI [] a44 k44 c44 ∈ _ from memA) (show fI [] none 0 0 ∈ _ from memA) (fun _ => ?_) (fun c99 => absurd HW c99)))
    refine qs 6 ?_
    exact Gb (L' := L) (F' := F) Tryz.results4 rfl subA h
   refine qs 14 ?_
   obtain ⟨he, ho, hM, hx⟩ := sel_bad hs (.inl ⟨c66, rfl⟩)
   subst he ho hM hx
   refine Ga (GJ HW HW HW (fun _ => ?_) (fun c87 => absurd c87 (by decide)))
   refine qs 7 ?_
   refine Ga (Gu HW HW HW (fun _ => ?_) (fun c90 => absurd HW c90))
   refine qs 3 ?_
   refine Ge rfl rfl (Gf rfl rfl (rulike_c [] [] [] [] (show fL [] a43 k43 c43 ∈ _ from memA) (show fN [] an kn cn ∈ _ from memA) (show fL [] none 0 0 ∈ _ from memA) (show fN [] none 0 0 ∈ _ from memA) (fun _ _ => ?_) (fun c94 => absurd ⟨rfl, rfl⟩ c94)))
   refine qs 4 ?_
   refine Ge HW HW (Gf HW HW (sLikeR_c noS noS (show fI [] a44 k44 c44 ∈ _ from memA) (show fI [] none 0 0 ∈ _ from memA) (fun _ => ?_) (fun c99 => absurd HW c99)))
   refine qs 6 ?_
   exact Gb (L' := L) (F' := F) Tryz.results4 rfl subA h
  refine GM (fun _ => false) [(b8, _, _), (b9, _, _)] bxA HW (fun hx hX => ?_)
  refine qt [0, 1, 3, 4] ?_
  refine Gl (i := 2) HY HW HW (fun _ => ?_)
  refine Gf HW HW (sLike_c (oneSl p0) (oneSl q0) memA memA (fun c49 => ?_) (fun c49 => ?_))
  all_goals refine Gk bxA memB ?_
  ·refine Gl (i := 5) HY HW HW (fun _ => ?_)
   refine Gf HW HW (sLikeR_c (oneSl p0) (oneSl q0) memA memA (fun _ => ?_) (fun c52 => absurd c49 c52))
   refine Gk bxA memB ?_
   refine Ha (i := 6) HW (Y.neqB HW HW) HY HW HW (fun c53 => absurd c53 (by decide)) (fun _ => ?_)
   refine qt [7, 8, 9] ?_
   refine Gl (i := 10) HY HW HW (fun _ => ?_)
   refine Gf HW HW (sLike_c (oneSl p0) (oneSl p0) memA memA (fun _ => ?_) (fun c57 => absurd HW c57))
   refine Gk bxA memB ?_
   refine qt [11, 12, 13] ?_
   refine Gl (i := 14) HY HW HW (fun _ => ?_)
   refine Gf HW HW (salive_c g ?_)
   refine Gk bxA memB ?_
   refine qt [15, 16] ?_
   refine Gn HY ?_
   exact Hy srA (Gj (fun x hx => by repeat (first | exact hx | refine List.mem_cons_of_mem _ ?_))) (key ())
  refine Gl (i := 5) HY HW HW (fun _ => ?_)
  refine Gf HW HW (sLikeR_c (oneSl p0) (oneSl q0) memA memA (fun c52 => absurd c52 c49) (fun _ => ?_))
  refine Gk bxA memB ?_
  refine Ha (i := 6) HW (Y.neqB HW HW) HY HW HW (fun c53 => absurd c53 (by decide)) (fun _ => ?_)
  refine qt [7, 8, 9] ?_
  refine Gl (i := 10) HY HW HW (fun _ => ?_)
  refine Gf HW HW (sLike_c (oneSl p0) (oneSl p0) memA memA (fun _ => ?_) (fun c57 => absurd HW c57))
  refine Gk bxA memB ?_
  refine qt [11, 12, 13] ?_
  refine Gl (i := 14) HY HW HW (fun _ => ?_)
  refine Gf HW HW (salive_c g ?_)
  refine Gk bxA memB ?_
  refine qt [15, 16] ?_
  refine Gn HY ?_
  exact Hy srA (Gj (fun x hx => by repeat (first | exact hx | refine List.mem_cons_of_mem _ ?_))) (key ())
end
end Go.Sy
