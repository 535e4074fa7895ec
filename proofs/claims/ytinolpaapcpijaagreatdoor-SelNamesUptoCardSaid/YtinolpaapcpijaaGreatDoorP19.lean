/- Joined of my own texts: SeN. -/
import Derived.Test.YtinolpaapcpijaaGreatDoorP18
namespace Go.Sy
open Go Go.Proofs Go.RowKit
abbrev vF (a : Option Addr) (k c : Nat) (a2 : Option Addr) (k2 c2 : Nat) (x : SelV) (a5 : Option Addr) (k5 c5 : Nat) (e : Int) : Value := .agg #[.slice a k c, .slice a2 k2 c2, .bool x.method, .int .i64 x.typ, .bool x.ptr, .bool x.via, .slice a5 k5 c5, .int .i64 e]
theorem list_one {α : Type} : ∀ {l : List α} (_ : l.length = 1) (h0 : 0 < l.length), l = [l[0]]
  | [x], _, _ => rfl
theorem docFirst_err {N : List Nmd} {T : List Ty} {i e : Int} (h : firstR T N i = .error e) : docFirst N T i = .error e := by unfold docFirst; rw [h]
theorem docFirst_ok {N : List Nmd} {T T1 : List Ty} {lev : List Ent} {i : Int} (h : firstR T N i = .ok (T1, lev)) : docFirst N T i = docL N T1 lev (typs lev) := by unfold docFirst; rw [h]
structure DocOk (N : List Nmd) (n : Nat) (T : List Ty) (lev : List Ent) (ws : List Wht) (seen : List Int) : Prop where
  right : rightU T N
  lv : levP T n lev
  ln : ws.length = lev.length
  wh : ∀ w ∈ ws, whP T w
  few : seen.length ≤ (n + 1) * 400
theorem docL_is {N : List Nmd} {T : List Ty} (hu : rightU T N) {n : Nat} {lev : List Ent} (hl : levP T n lev) {seen : List Int} (hs : seen.length ≤ (n + 1) * 400) {T1 : List Ty} {lev1 : List Ent} {ws1 : List Wht} {seen1 : List Int} (h : docL N T lev seen = .ok (T1, lev1, ws1, seen1)) : DocOk N n T1 lev1 ws1 seen1 := by
  unfold docL at h
  split at h
  · cases h
  rename_i o ws hx
  injection h with h; injection h with e1 h; injection h with e2 h; injection h with e3 e4
  subst e1 e2 e3 e4
  obtain ⟨h1, h2, h3, h4⟩ := looksR_ok hu hl _ (Nat.le_refl _) o ws hx
  exact ⟨h1, hl.up h2, h3, h4, hs⟩
theorem docNext_is {N : List Nmd} {n : Nat} {T : List Ty} {lev : List Ent} {ws : List Wht} {seen : List Int} (hd : DocOk N n T lev ws seen) {T1 : List Ty} {lev1 : List Ent} {ws1 : List Wht} {seen1 : List Int} (h : docL N T (nextL T lev ws seen) (seen ++ typs (nextL T lev ws seen)) = .ok (T1, lev1, ws1, seen1)) : DocOk N (n + 1) T1 lev1 ws1 seen1 := by
  have hl := nextL_ok (seen := seen) hd.right.1 hd.lv hd.ln hd.wh
  refine docL_is hd.right hl ?_ h
  have h1 := hl.few
  have h2 := hd.right.1.2.1
  have h3 := hd.few
  rw [List.length_append, show (typs (nextL T lev ws seen)).length = (nextL T lev ws seen).length from List.length_map _]
  omega
theorem docFirst_is {N : List Nmd} {T : List Ty} (hu : rightU T N) {i : Int} (h0 : 0 ≤ i) (hi : i < T.length) {T1 : List Ty} {lev1 : List Ent} {ws1 : List Wht} {seen1 : List Int} (h : docFirst N T i = .ok (T1, lev1, ws1, seen1)) : DocOk N 0 T1 lev1 ws1 seen1 := by
  unfold docFirst at h
  split at h
  · cases h
  rename_i o lev hx
  obtain ⟨h1, h2, h3⟩ := firstR_ok hu h0 hi hx
  refine docL_is h1 h3 ?_ h
  have h4 := h3.few
  have h5 := h1.1.2.1
  rw [show (typs lev).length = lev.length from List.length_map _]
  omega
theorem docF_err {N : List Nmd} {s : List UInt8} {n : Nat} {e : Int} : docF N s (n + 1) (.error e) = .error e := rfl
theorem docF_one {N : List Nmd} {s : List UInt8} {n : Nat} {T : List Ty} {lev : List Ent} {ws : List Wht} {seen : List Int} {x : SelV} (h : foundN T lev ws s lev.length = [x]) : docF N s (n + 1) (.ok (T, lev, ws, seen)) = .ok (T, x) := by simp only [docF, h]
theorem docF_two {N : List Nmd} {s : List UInt8} {n : Nat} {T : List Ty} {lev : List Ent} {ws : List Wht} {seen : List Int} (h : 1 < (foundN T lev ws s lev.length).length) : docF N s (n + 1) (.ok (T, lev, ws, seen)) = .error 9 := by
  cases hf : foundN T lev ws s lev.length with
  | nil => rw [hf] at h; simp at h
  | cons x l =>
    cases l with
    | nil => rw [hf] at h; simp at h
    | cons y l => simp only [docF, hf]
theorem docF_none {N : List Nmd} {s : List UInt8} {n : Nat} {T : List Ty} {ws : List Wht} {seen : List Int} : docF N s (n + 1) (.ok (T, [], ws, seen)) = .error 8 := by simp [docF, foundN]
theorem docF_next {N : List Nmd} {s : List UInt8} {n : Nat} {T : List Ty} {lev : List Ent} {ws : List Wht} {seen : List Int} (h : (foundN T lev ws s lev.length).length = 0) (hl : lev ≠ []) : docF N s (n + 1) (.ok (T, lev, ws, seen)) = docF N s n (docL N T (nextL T lev ws seen) (seen ++ typs (nextL T lev ws seen))) := by
  have hf : foundN T lev ws s lev.length = [] := List.eq_nil_of_length_eq_zero h
  simp only [docF, hf, if_neg hl]
attribute [local irreducible] AC AT AO AK AH ACalls Sub Res.cells Res.obj Res.nix Res.own Res.map Exit.then Exit.inBlock bodyPost Code.wp Code.wpIn WL Next Post Kont
section
variable {W0 : World} {L : List Res} {F : List Fact} {R : Value → List Res → List Fact → Prop}
set_option maxRecDepth 100000
set_option maxHeartbeats 16000000
theorem rFirst_c (T : List Ty) (N : List Nmd) (hu : rightU T N) (i : Int) (h0 : 0 ≤ i) (hi : i < T.length) {a a2 : Option Addr} {k c k2 c2 : Nat} (mL : fL T a k c ∈ F) (mN : fN N a2 k2 c2 ∈ F) (mE : Fact.slc (.slice none 0 0) 5 [] ∈ F)
    (h : ∀ T1 lev1 ws1 seen1 a k c an kn cn a3 k3 c3 a4 k4 c4 a5 k5 c5 e, docP (docFirst N T i) T1 lev1 ws1 seen1 e → (e = 0 → an = a2 ∧ kn = k2 ∧ cn = c2) → R (vL a k c an kn cn a3 k3 c3 a4 k4 c4 a5 k5 c5 e) L (fL T1 a k c :: fEn lev1 a3 k3 c3 :: fWh ws1 a4 k4 c4 :: fI seen1 a5 k5 c5 :: F)) :
    ACalls Tryz.prog W0 67 #[.agg #[.slice a k c, .slice a2 k2 c2], .int .i64 i] L F R := by
  have hok := Hu hu.1
  obtain ⟨n, rfl⟩ : ∃ n : Nat, i = (n : Int) := ⟨i.toNat, by omega⟩
  have hn : n < T.length := by omega
  refine Hy ((Hm (sz := 4)).trans ((Hm (sz := 2)).trans (Hm (sz := 1)))) ?_
  refine Gh Tryz.func67 HV Tryz.ntmps67 HV ?_
  refine qs 2 ?_
  refine Ga (GO HV HV (fun b2 => (Ga (Gl HV (fun b4 => ?_)))))
  refine qs 6 ?_
  refine Ga (Gl HV (fun b5 => ?_))
  refine qs 8 ?_
  have hkl := (hok _ (List.getElem_mem hn)).kids
  refine Ga (Gd (k := n) HV HV HV HV (enc := eTy) (lst := T) memA hn (fun _ _ => ?_))
  refine Ga (GJ HV HV ?_)
  intro a16 k16 z16 d16 e16 f16
  refine Ga (Gl HV (fun b6 => ?_))
  refine qs 7 ?_
  refine Ga (Gl HV (fun b7 => ?_))
  refine qs 8 ?_
  refine Ga (Gr HV HV HV (fun c21 => ?_) (fun c21 => ?_))
  ·refine qs 4 ?_
   refine GP (fun i => Nat.beq i 7) [(b2, _, _), (b6, _, _)] bxA HV (fun hx hX => ?_)
   have hk1 := ptr_of hu.1 hn c21
   have hk0 : 0 < T[n].kids.length := by omega
   have hkd := (GV hu.1 hn).kids _ (List.getElem_mem hk0)
   have hfst := first_is (N := N) hn c21 hk0
   have hkk := (Gs (hX (fK T[n] d16 e16 f16) memA)).1
   obtain ⟨p2, o2, e2, atq⟩ := Gy (hX (fK T[n] d16 e16 f16) memA) hk0
   subst e2
   obtain ⟨vq, hvq, hcq⟩ := atq 0 _ rfl
   cases hcq
   refine qt [0, 1, 2] ?_
   refine GE (i := 3) HV (GC (k := 0) HV HV HV HY) HW HV HV ?_
   refine GN (i := 4) HV (Hn HV hvq) HW HW HV HV HV ?_
   refine HI (i := 5) (j := 6) HW HV HV HV HV (fun _ => ?_) (fun _ => ?_)
   ·refine Gf HV HV (rundT_c T N hu T[n].kids[0] hkd.1 HY memA memA memA (fun e he hx => ?_) (fun o q a27 k27 c27 hx => ?_))
    all_goals refine Gk bxA memB ?_
    ·refine Gm (i := 6) HW HV HV (fun _ => ?_)
     refine Gl HV (fun b8 => ?_)
     refine Gk bxA memB ?_
     refine Gm (i := 7) HW HV HV (fun _ => ?_)
     refine GF HV HV HV HV ?_
     refine Gw HV ?_
     refine Gq HW ?_
     refine qs 6 ?_
     refine Ga (GL HV HV HV (fun _ => ?_) (fun c30 => absurd c30 he))
     refine qs 14 ?_
     exact Gx (rs := [.cell 4 _]) (L' := L) (F' := fL [] none 0 0 :: fEn [] none 0 0 :: fWh [] none 0 0 :: fI [] none 0 0 :: F) Tryz.results67 (.agg (j := 4) rfl rfl rfl .nil) (by repeat (first | exact Gj (mem2 memA memA (mem2 memA memA (fun x hx => by repeat (first | exact hx | refine List.mem_cons_of_mem _ ?_)))) | refine GM GA ?_)) (h [] [] [] [] none 0 0 none 0 0 none 0 0 none 0 0 none 0 0 e (.inl ⟨he, docFirst_err (by rw [hfst, hx])⟩) (fun e0 => absurd e0 he))
    refine Gm (i := 6) HW HV HV (fun _ => ?_)
    refine Gl HV (fun b8 => ?_)
    refine Gk bxA memB ?_
    refine Gm (i := 7) HW HV HV (fun _ => ?_)
    refine GF HV HV HV HV ?_
    refine Gw HV ?_
    refine Gq HW ?_
    refine qs 6 ?_
    obtain ⟨hro, hpo, hq0, hql⟩ := undR_ok hu hkd.1 HY hx
    obtain ⟨hqn, hqe⟩ := Hz hq0 hql
    refine Ga (GL HV HV HV (fun c30 => absurd HV c30) (fun _ => ?_))
    refine qs 12 ?_
    refine Ga (Gd (k := q.toNat) HV HV HV HY (enc := eTy) (lst := o) memA hqn (fun _ _ => ?_))
    refine Ga (Hh HV HV (fun _ => ?_))
    refine Ga (Gt HV HV ?_)
    refine qs 7 ?_
    refine Ga (Gr HV HV HV (fun c43 => ?_) (fun c43 => ?_))
    ·refine qs 16 ?_
     have hfs : firstR T N (n : Int) = .ok (T, []) := by rw [hfst, hx]; simp only; rw [if_pos (by rw [hqe]; exact .inl c43)]
     exact Gx (rs := [.cell 4 _]) (L' := L) (F' := fL T a k c :: fEn [] none 0 0 :: fWh [] none 0 0 :: fI [] none 0 0 :: F) Tryz.results67 (.agg (j := 4) rfl rfl rfl .nil) (by repeat (first | exact Gj (mem2 memA memA (mem2 memA memA (fun x hx => by repeat (first | exact hx | refine List.mem_cons_of_mem _ ?_)))) | refine GM GA ?_)) (h T [] [] [] a k c a2 k2 c2 none 0 0 none 0 0 none 0 0 0 (.inr ⟨rfl, by rw [docFirst_ok hfs]; rfl⟩) (fun _ => ⟨rfl, rfl, rfl⟩))
    refine qs 2 ?_
    refine Ge HV HV (Gr HV HV HV (fun c46 => ?_) (fun c46 => ?_))
    ·refine qs 13 ?_
     have hfs : firstR T N (n : Int) = .ok (T, []) := by rw [hfst, hx]; simp only; rw [if_pos (by rw [hqe]; exact .inr c46)]
     exact Gx (rs := [.cell 4 _]) (L' := L) (F' := fL T a k c :: fEn [] none 0 0 :: fWh [] none 0 0 :: fI [] none 0 0 :: F) Tryz.results67 (.agg (j := 4) rfl rfl rfl .nil) (by repeat (first | exact Gj (mem2 memA memA (mem2 memA memA (fun x hx => by repeat (first | exact hx | refine List.mem_cons_of_mem _ ?_)))) | refine GM GA ?_)) (h T [] [] [] a k c a2 k2 c2 none 0 0 none 0 0 none 0 0 0 (.inr ⟨rfl, by rw [docFirst_ok hfs]; rfl⟩) (fun _ => ⟨rfl, rfl, rfl⟩))
    refine qs 17 ?_
    refine Ga (Gd (k := 0) HV HV HV HV (show fK T[n] _ _ _ ∈ _ from memA) hk0 (fun _ _ => ?_))
    refine Ga (Gt HV HV ?_)
    refine qs 7 ?_
    refine GD (GY (e := 186) (sz := 4)) ?_
    refine Ga (GR HV HV ?_)
    refine qs 1 ?_
    refine Ga (Gg HV HV HV HV HV (fun b60 => ?_))
    refine Ga (GB (i := 0) (enc := eEn) (lst := []) [⟨T[n].kids[0], true, false, []⟩] HV HV HV HV (.val (.val (.val (.slc .nil memA)))) HV HV (fun _ => rfl) (by simp only [List.length_nil, maxLen]; omega) (by simp only [List.length_nil]; omega) (fun a61 k61 c61 => ?_))
    refine qs 7 ?_
    refine GD (Gv (i := 0) HV) ?_
    refine GD (GY (e := 3) (sz := 1)) ?_
    refine Ga (GR HV HV ?_)
    refine qs 2 ?_
    refine Ga (Gg HV HV HV HV HV (fun b67 => ?_))
    refine Ga (GB (i := 0) (enc := eI) (lst := []) [T[n].kids[0]] HV HV HV HV (.val .nil) HV HV (fun _ => rfl) (by simp only [List.length_nil, maxLen]; omega) (by simp only [List.length_nil]; omega) (fun a68 k68 c68 => ?_))
    refine qs 6 ?_
    refine GD (Gv (i := 0) HV) ?_
    refine Ga (HG HV HV ?_)
    have hfs : firstR T N (n : Int) = .ok (o, [⟨T[n].kids[0], true, false, []⟩]) := by rw [hfst, hx]; simp only; rw [if_neg (by rw [hqe]; rintro (h | h); exact c43 h; exact c46 h)]
    obtain ⟨h1, h2, h3⟩ := firstR_ok hu h0 hi hfs
    refine Ga (Gf HV HV (rlook_c o N hro [⟨T[n].kids[0], true, false, []⟩] 0 h3 (a5 := a68) (k5 := k68) (c5 := c68) (show fL o _ _ _ ∈ _ from memA) memA (show fEn _ a61 k61 c61 ∈ _ from memA) memA (fun e he hx => ?_) (fun o3 ws1 a71 k71 c71 a72 k72 c72 hx => ?_)))
    ·refine qs 4 ?_
     exact Gx (rs := [.cell 4 _]) (L' := L) (F' := fL [] none 0 0 :: fEn [] none 0 0 :: fWh [] none 0 0 :: fI [] none 0 0 :: F) Tryz.results67 (.agg (j := 6) rfl rfl rfl .nil) (by repeat (first | exact Gj (mem2 memA memA (mem2 memA memA (fun x hx => by repeat (first | exact hx | refine List.mem_cons_of_mem _ ?_)))) | refine GM GA ?_)) (h [] [] [] [] none 0 0 none 0 0 none 0 0 none 0 0 none 0 0 e (.inl ⟨he, by rw [docFirst_ok hfs]; exact docL_err hx⟩) (fun e0 => absurd e0 he))
    refine qs 4 ?_
    exact Gx (rs := [.cell 4 _]) (L' := L) (F' := fL o3 a71 k71 c71 :: fEn [⟨T[n].kids[0], true, false, []⟩] a61 k61 c61 :: fWh ws1 a72 k72 c72 :: fI [T[n].kids[0]] a68 k68 c68 :: F) Tryz.results67 (.agg (j := 6) rfl rfl rfl .nil) (by repeat (first | exact Gj (mem2 memA memA (mem2 memA memA (fun x hx => by repeat (first | exact hx | refine List.mem_cons_of_mem _ ?_)))) | refine GM GA ?_)) (h o3 _ ws1 [T[n].kids[0]] a71 k71 c71 a2 k2 c2 a61 k61 c61 a72 k72 c72 a68 k68 c68 0 (.inr ⟨rfl, by rw [docFirst_ok hfs]; exact docL_ok hx⟩) (fun _ => ⟨rfl, rfl, rfl⟩))
   refine Gl HV (fun b8 => ?_)
   refine Gk bxA memB ?_
   refine Gm (i := 5) HW HV HV (fun _ => ?_)
   refine Gf HV HV (rundT_c T N hu T[n].kids[0] hkd.1 HY memA memA memA (fun e he hx => ?_) (fun o q a27 k27 c27 hx => ?_))
   all_goals refine Gk bxA memB ?_
   ·refine Gm (i := 7) HW HV HV (fun _ => ?_)
    refine GF HV HV HV HV ?_
    refine Gw HV ?_
    refine Gq HW ?_
    refine qs 6 ?_
    refine Ga (GL HV HV HV (fun _ => ?_) (fun c30 => absurd c30 he))
    refine qs 14 ?_
    exact Gx (rs := [.cell 4 _]) (L' := L) (F' := fL [] none 0 0 :: fEn [] none 0 0 :: fWh [] none 0 0 :: fI [] none 0 0 :: F) Tryz.results67 (.agg (j := 4) rfl rfl rfl .nil) (by repeat (first | exact Gj (mem2 memA memA (mem2 memA memA (fun x hx => by repeat (first | exact hx | refine List.mem_cons_of_mem _ ?_)))) | refine GM GA ?_)) (h [] [] [] [] none 0 0 none 0 0 none 0 0 none 0 0 none 0 0 e (.inl ⟨he, docFirst_err (by rw [hfst, hx])⟩) (fun e0 => absurd e0 he))
   refine Gm (i := 7) HW HV HV (fun _ => ?_)
   refine GF HV HV HV HV ?_
   refine Gw HV ?_
   refine Gq HW ?_
   refine qs 6 ?_
   obtain ⟨hro, hpo, hq0, hql⟩ := undR_ok hu hkd.1 HY hx
   obtain ⟨hqn, hqe⟩ := Hz hq0 hql
   refine Ga (GL HV HV HV (fun c30 => absurd HV c30) (fun _ => ?_))
   refine qs 12 ?_
   refine Ga (Gd (k := q.toNat) HV HV HV HY (enc := eTy) (lst := o) memA hqn (fun _ _ => ?_))
   refine Ga (Hh HV HV (fun _ => ?_))
   refine Ga (Gt HV HV ?_)
   refine qs 7 ?_
   refine Ga (Gr HV HV HV (fun c43 => ?_) (fun c43 => ?_))
   ·refine qs 16 ?_
    have hfs : firstR T N (n : Int) = .ok (T, []) := by rw [hfst, hx]; simp only; rw [if_pos (by rw [hqe]; exact .inl c43)]
    exact Gx (rs := [.cell 4 _]) (L' := L) (F' := fL T a k c :: fEn [] none 0 0 :: fWh [] none 0 0 :: fI [] none 0 0 :: F) Tryz.results67 (.agg (j := 4) rfl rfl rfl .nil) (by repeat (first | exact Gj (mem2 memA memA (mem2 memA memA (fun x hx => by repeat (first | exact hx | refine List.mem_cons_of_mem _ ?_)))) | refine GM GA ?_)) (h T [] [] [] a k c a2 k2 c2 none 0 0 none 0 0 none 0 0 0 (.inr ⟨rfl, by rw [docFirst_ok hfs]; rfl⟩) (fun _ => ⟨rfl, rfl, rfl⟩))
   refine qs 2 ?_
   refine Ge HV HV (Gr HV HV HV (fun c46 => ?_) (fun c46 => ?_))
   ·refine qs 13 ?_
    have hfs : firstR T N (n : Int) = .ok (T, []) := by rw [hfst, hx]; simp only; rw [if_pos (by rw [hqe]; exact .inr c46)]
    exact Gx (rs := [.cell 4 _]) (L' := L) (F' := fL T a k c :: fEn [] none 0 0 :: fWh [] none 0 0 :: fI [] none 0 0 :: F) Tryz.results67 (.agg (j := 4) rfl rfl rfl .nil) (by repeat (first | exact Gj (mem2 memA memA (mem2 memA memA (fun x hx => by repeat (first | exact hx | refine List.mem_cons_of_mem _ ?_)))) | refine GM GA ?_)) (h T [] [] [] a k c a2 k2 c2 none 0 0 none 0 0 none 0 0 0 (.inr ⟨rfl, by rw [docFirst_ok hfs]; rfl⟩) (fun _ => ⟨rfl, rfl, rfl⟩))
   refine qs 17 ?_
   refine Ga (Gd (k := 0) HV HV HV HV (show fK T[n] _ _ _ ∈ _ from memA) hk0 (fun _ _ => ?_))
   refine Ga (Gt HV HV ?_)
   refine qs 7 ?_
   refine GD (GY (e := 186) (sz := 4)) ?_
   refine Ga (GR HV HV ?_)
   refine qs 1 ?_
   refine Ga (Gg HV HV HV HV HV (fun b60 => ?_))
   refine Ga (GB (i := 0) (enc := eEn) (lst := []) [⟨T[n].kids[0], true, false, []⟩] HV HV HV HV (.val (.val (.val (.slc .nil memA)))) HV HV (fun _ => rfl) (by simp only [List.length_nil, maxLen]; omega) (by simp only [List.length_nil]; omega) (fun a61 k61 c61 => ?_))
   refine qs 7 ?_
   refine GD (Gv (i := 0) HV) ?_
   refine GD (GY (e := 3) (sz := 1)) ?_
   refine Ga (GR HV HV ?_)
   refine qs 2 ?_
   refine Ga (Gg HV HV HV HV HV (fun b67 => ?_))
   refine Ga (GB (i := 0) (enc := eI) (lst := []) [T[n].kids[0]] HV HV HV HV (.val .nil) HV HV (fun _ => rfl) (by simp only [List.length_nil, maxLen]; omega) (by simp only [List.length_nil]; omega) (fun a68 k68 c68 => ?_))
   refine qs 6 ?_
   refine GD (Gv (i := 0) HV) ?_
   refine Ga (HG HV HV ?_)
   have hfs : firstR T N (n : Int) = .ok (o, [⟨T[n].kids[0], true, false, []⟩]) := by rw [hfst, hx]; simp only; rw [if_neg (by rw [hqe]; rintro (h | h); exact c43 h; exact c46 h)]
   obtain ⟨h1, h2, h3⟩ := firstR_ok hu h0 hi hfs
   refine Ga (Gf HV HV (rlook_c o N hro [⟨T[n].kids[0], true, false, []⟩] 0 h3 (a5 := a68) (k5 := k68) (c5 := c68) (show fL o _ _ _ ∈ _ from memA) memA (show fEn _ a61 k61 c61 ∈ _ from memA) memA (fun e he hx => ?_) (fun o3 ws1 a71 k71 c71 a72 k72 c72 hx => ?_)))
   ·refine qs 4 ?_
    exact Gx (rs := [.cell 4 _]) (L' := L) (F' := fL [] none 0 0 :: fEn [] none 0 0 :: fWh [] none 0 0 :: fI [] none 0 0 :: F) Tryz.results67 (.agg (j := 6) rfl rfl rfl .nil) (by repeat (first | exact Gj (mem2 memA memA (mem2 memA memA (fun x hx => by repeat (first | exact hx | refine List.mem_cons_of_mem _ ?_)))) | refine GM GA ?_)) (h [] [] [] [] none 0 0 none 0 0 none 0 0 none 0 0 none 0 0 e (.inl ⟨he, by rw [docFirst_ok hfs]; exact docL_err hx⟩) (fun e0 => absurd e0 he))
   refine qs 4 ?_
   exact Gx (rs := [.cell 4 _]) (L' := L) (F' := fL o3 a71 k71 c71 :: fEn [⟨T[n].kids[0], true, false, []⟩] a61 k61 c61 :: fWh ws1 a72 k72 c72 :: fI [T[n].kids[0]] a68 k68 c68 :: F) Tryz.results67 (.agg (j := 6) rfl rfl rfl .nil) (by repeat (first | exact Gj (mem2 memA memA (mem2 memA memA (fun x hx => by repeat (first | exact hx | refine List.mem_cons_of_mem _ ?_)))) | refine GM GA ?_)) (h o3 _ ws1 [T[n].kids[0]] a71 k71 c71 a2 k2 c2 a61 k61 c61 a72 k72 c72 a68 k68 c68 0 (.inr ⟨rfl, by rw [docFirst_ok hfs]; exact docL_ok hx⟩) (fun _ => ⟨rfl, rfl, rfl⟩))
  refine qs 8 ?_
  refine GD (GY (e := 186) (sz := 4)) ?_
  refine Ga (GR HV HV ?_)
  refine qs 1 ?_
  refine Ga (Gg HV HV HV HV HV (fun b60 => ?_))
  refine Ga (GB (i := 0) (enc := eEn) (lst := []) [⟨(n : Int), false, false, []⟩] HV HV HV HV (.val (.val (.val (.slc .nil memA)))) HV HV (fun _ => rfl) (by simp only [List.length_nil, maxLen]; omega) (by simp only [List.length_nil]; omega) (fun a61 k61 c61 => ?_))
  refine qs 7 ?_
  refine GD (Gv (i := 0) HV) ?_
  refine GD (GY (e := 3) (sz := 1)) ?_
  refine Ga (GR HV HV ?_)
  refine qs 2 ?_
  refine Ga (Gg HV HV HV HV HV (fun b67 => ?_))
  refine Ga (GB (i := 0) (enc := eI) (lst := []) [(n : Int)] HV HV HV HV (.val .nil) HV HV (fun _ => rfl) (by simp only [List.length_nil, maxLen]; omega) (by simp only [List.length_nil]; omega) (fun a68 k68 c68 => ?_))
  refine qs 6 ?_
  refine GD (Gv (i := 0) HV) ?_
  refine Ga (HG HV HV ?_)
  have hfs := first_not (N := N) hn c21
  obtain ⟨h1, h2, h3⟩ := firstR_ok hu h0 hi hfs
  refine Ga (Gf HV HV (rlook_c T N hu [⟨(n : Int), false, false, []⟩] 0 h3 (a5 := a68) (k5 := k68) (c5 := c68) (show fL T _ _ _ ∈ _ from memA) memA (show fEn _ a61 k61 c61 ∈ _ from memA) memA (fun e he hx => ?_) (fun o ws1 a71 k71 c71 a72 k72 c72 hx => ?_)))
  ·refine qs 4 ?_
   exact Gx (rs := [.cell 4 _]) (L' := L) (F' := fL [] none 0 0 :: fEn [] none 0 0 :: fWh [] none 0 0 :: fI [] none 0 0 :: F) Tryz.results67 (.agg (j := 5) rfl rfl rfl .nil) (by repeat (first | exact Gj (mem2 memA memA (mem2 memA memA (fun x hx => by repeat (first | exact hx | refine List.mem_cons_of_mem _ ?_)))) | refine GM GA ?_)) (h [] [] [] [] none 0 0 none 0 0 none 0 0 none 0 0 none 0 0 e (.inl ⟨he, by rw [docFirst_ok hfs]; exact docL_err hx⟩) (fun e0 => absurd e0 he))
  refine qs 4 ?_
  exact Gx (rs := [.cell 4 _]) (L' := L) (F' := fL o a71 k71 c71 :: fEn [⟨(n : Int), false, false, []⟩] a61 k61 c61 :: fWh ws1 a72 k72 c72 :: fI [(n : Int)] a68 k68 c68 :: F) Tryz.results67 (.agg (j := 5) rfl rfl rfl .nil) (by repeat (first | exact Gj (mem2 memA memA (mem2 memA memA (fun x hx => by repeat (first | exact hx | refine List.mem_cons_of_mem _ ?_)))) | refine GM GA ?_)) (h o _ ws1 [(n : Int)] a71 k71 c71 a2 k2 c2 a61 k61 c61 a72 k72 c72 a68 k68 c68 0 (.inr ⟨rfl, by rw [docFirst_ok hfs]; exact docL_ok hx⟩) (fun _ => ⟨rfl, rfl, rfl⟩))
theorem rFind_c (T0 : List Ty) (N : List Nmd) (hu : rightU T0 N) (i : Int) (h0 : 0 ≤ i) (hi : i < T0.length) (s : List UInt8) {a a2 : Option Addr} {k c k2 c2 : Nat} (mL : fL T0 a k c ∈ F) (mN : fN N a2 k2 c2 ∈ F) (mE : Fact.slc (.slice none 0 0) 5 [] ∈ F)
    (hE : ∀ e, e ≠ 0 → findR N T0 i s = .error e → R (vF none 0 0 none 0 0 ⟨false, 0, false, false, []⟩ none 0 0 e) L F)
    (hO : ∀ o x a k c a5 k5 c5, findR N T0 i s = .ok (o, x) → R (vF a k c a2 k2 c2 x a5 k5 c5 0) L (fL o a k c :: fI x.path a5 k5 c5 :: F)) :
    ACalls Tryz.prog W0 25 #[.agg #[.slice a k c, .slice a2 k2 c2], .int .i64 i, S s] L F R := by
  have hfd := find_doc N T0 i s
  refine Gh Tryz.func25 HV Tryz.ntmps25 HV ?_
  refine qs 2 ?_
  refine Ga (GO HV HV (fun b3 => (Ga (Gl HV (fun b6 => ?_)))))
  refine qs 6 ?_
  refine Ga (Gf HV HV (rFirst_c T0 N hu i h0 hi memA memA memA (fun T1 lev1 ws1 seen1 a1 k1 c1 an kn cn a3 k3 c3 a4 k4 c4 a5 k5 c5 e hd hn => ?_)))
  refine Ga (Gl HV (fun b7 => ?_))
  refine qs 10 ?_
  refine Gz (fun (x : Nat × Int × (List Ty × List Ent × List Wht × List Int) × ((Option Addr × Nat × Nat) × (Option Addr × Nat × Nat) × (Option Addr × Nat × Nat) × (Option Addr × Nat × Nat) × (Option Addr × Nat × Nat))) => x.1 ≤ 7 ∧ ((x.2.1 ≠ 0 ∧ x.1 < 7 ∧ findR N T0 i s = docF N s (7 - x.1) (.error x.2.1)) ∨ (x.2.1 = 0 ∧ findR N T0 i s = docF N s (7 - x.1) (.ok x.2.2.1) ∧ (x.1 < 7 → DocOk N x.1 x.2.2.1.1 x.2.2.1.2.1 x.2.2.1.2.2.1 x.2.2.1.2.2.2 ∧ x.2.2.2.2.1 = (a2, k2, c2))))) (fun x => [(2, S s), (3, .pointer (some ⟨b3, 0, none⟩)), (6, .pointer (some ⟨b6, 0, none⟩)), (7, .pointer (some ⟨b7, 0, none⟩)), (8, .int .i64 (x.1 : Int))]) (fun x => Res.cells b7 #[.slice x.2.2.2.1.1 x.2.2.2.1.2.1 x.2.2.2.1.2.2, .slice x.2.2.2.2.1.1 x.2.2.2.2.1.2.1 x.2.2.2.2.1.2.2, .slice x.2.2.2.2.2.1.1 x.2.2.2.2.2.1.2.1 x.2.2.2.2.2.1.2.2, .slice x.2.2.2.2.2.2.1.1 x.2.2.2.2.2.2.1.2.1 x.2.2.2.2.2.2.1.2.2, .slice x.2.2.2.2.2.2.2.1 x.2.2.2.2.2.2.2.2.1 x.2.2.2.2.2.2.2.2.2, .int .i64 x.2.1] 103 :: _) (fun x => fL x.2.2.1.1 x.2.2.2.1.1 x.2.2.2.1.2.1 x.2.2.2.1.2.2 :: fEn x.2.2.1.2.1 x.2.2.2.2.2.1.1 x.2.2.2.2.2.1.2.1 x.2.2.2.2.2.1.2.2 :: fWh x.2.2.1.2.2.1 x.2.2.2.2.2.2.1.1 x.2.2.2.2.2.2.1.2.1 x.2.2.2.2.2.2.1.2.2 :: fI x.2.2.1.2.2.2 x.2.2.2.2.2.2.2.1 x.2.2.2.2.2.2.2.2.1 x.2.2.2.2.2.2.2.2.2 :: F) (fun x => 7 - x.1) (0, e, (T1, lev1, ws1, seen1), ((a1, k1, c1), (an, kn, cn), (a3, k3, c3), (a4, k4, c4), (a5, k5, c5))) ⟨Nat.zero_le _, by rcases hd with ⟨h1, h2⟩ | ⟨h1, h2⟩; exact .inl ⟨h1, by simp only; omega, by simp only; rw [hfd, h2]⟩; exact .inr ⟨h1, by simp only; rw [hfd, h2], fun _ => ⟨docFirst_is hu h0 hi h2, by obtain ⟨e1, e2, e3⟩ := hn h1; subst e1 e2 e3; rfl⟩⟩⟩ srA (Gj (mem2 memA memA (mem2 memA memA (fun x hx => by repeat (first | exact hx | refine List.mem_cons_of_mem _ ?_))))) ?_
  clear hd hn
  rintro ⟨n, e, ⟨T, lev, ws, seen⟩, ⟨⟨b1, j1, d1⟩, ⟨b2, j2, d2⟩, ⟨f3, j3, d3⟩, ⟨f4, j4, d4⟩, ⟨f5, j5, d5⟩⟩⟩ ⟨hn7, hrel⟩
  simp only at hn7 hrel ⊢
  refine qs 4 ?_
  refine Ga (Gu HV HV HV (fun c14 => ?_) (fun c14 => ?_))
  ·refine qs 12 ?_
   refine Ga (GL HV HV HV (fun c19 => ?_) (fun c19 => ?_))
   ·refine qs 18 ?_
    have hf : findR N T0 i s = .error e := by
     rcases hrel with ⟨_, h2, h3⟩ | ⟨h, _⟩
     · rw [h3, show 7 - n = 6 - n + 1 by omega, docF_err]
     exact absurd h c19
    exact Gx (rs := [.cell 6 _]) (L' := L) (F' := F) Tryz.results25 (.agg (j := 1) rfl rfl rfl .nil) subA (hE e c19 hf)
   refine qs 9 ?_
   have hlt : n < 7 := by omega
   obtain ⟨hfn, hdo, hnm⟩ : findR N T0 i s = docF N s (6 - n + 1) (.ok (T, lev, ws, seen)) ∧ DocOk N n T lev ws seen ∧ (b2, j2, d2) = (a2, k2, c2) := by
    rcases hrel with ⟨h, _⟩ | ⟨_, h2, h3⟩
    · exact absurd c19 h
    obtain ⟨h4, h5⟩ := h3 hlt
    exact ⟨by rw [h2, show 7 - n = 6 - n + 1 by omega], h4, h5⟩
   injection hnm with e1 e2
   injection e2 with e2 e3
   subst e1 e2 e3
   have hT4 := hdo.right.1.2.1
   have hlf := hdo.lv.few
   refine Ga (Gf HV HV (rHad_c T hdo.right.1 lev n HY hdo.lv ws hdo.ln hdo.wh s (a5 := f5) (k5 := j5) (c5 := d5) (e0 := e) (show fL T b1 j1 d1 ∈ _ from memA) (show fEn lev f3 j3 d3 ∈ _ from memA) (show fWh ws f4 j4 d4 ∈ _ from memA) (fun a25 k25 c25 => ?_)))
   refine qs 7 ?_
   refine Ga (Gn HV HV (fun hl27 => ?_) (enc := eSl) (lst := foundN T lev ws s lev.length) (hm := memA))
   refine Ga (Gr HV HV HV (fun c28 => ?_) (fun c28 => ?_))
   ·refine qs 4 ?_
    refine GP (fun _ => false) [(b7, _, _)] bxA HV (fun hx hX => ?_)
    have hpos : 0 < (foundN T lev ws s lev.length).length := by omega
    have hone := list_one (l := foundN T lev ws s lev.length) HY hpos
    have hk9 := (Gs (hX (fSl (foundN T lev ws s lev.length) a25 k25 c25) memA)).1
    obtain ⟨p1, o1, e1, at1⟩ := Gy (i := 0) (hX (fSl (foundN T lev ws s lev.length) a25 k25 c25) memA) hpos
    subst e1
    generalize hxx : (foundN T lev ws s lev.length)[0] = xx at at1 hone
    obtain ⟨a8, k8, c8, hv8, hp8⟩ := sl_cells (s := xx) at1
    refine Hx hp8 memA ?_
    refine qt [0, 1, 2] ?_
    refine GE (i := 3) HV (GC (k := 0) HV HV HV HY) HW HV HV ?_
    refine GN (i := 4) HV (HP HV HV hv8) HW HW HV HV HV ?_
    refine qt [5] ?_
    refine Gm (i := 6) HW HV HV (fun _ => ?_)
    refine GF HV HV HV HV ?_
    refine Gk bxA memB ?_
    refine Gq HW ?_
    refine qs 8 ?_
    exact Gx (rs := [.cell 6 _]) (L' := L) (F' := fL T b1 j1 d1 :: fI xx.path a8 k8 c8 :: F) Tryz.results25 (.agg (j := 1) rfl rfl rfl .nil) (Sub.drop.trans (Sub.drop.trans (Sub.drop.trans (Gj (mem2 memA memA (fun x hx => by repeat (first | exact hx | refine List.mem_cons_of_mem _ ?_))))))) (hO T xx b1 j1 d1 a8 k8 c8 (by rw [hfn, docF_one hone]))
   refine qs 9 ?_
   refine Ga (Gn HV HV (fun hl36 => ?_) (enc := eSl) (lst := foundN T lev ws s lev.length) (hm := memA))
   refine Ga (Hq HV HV HV (fun c37 => ?_) (fun c37 => ?_))
   ·refine qs 16 ?_
    exact Gx (rs := [.cell 6 _]) (L' := L) (F' := F) Tryz.results25 (.agg (j := 1) rfl rfl rfl .nil) subA (hE 9 (by decide) (by rw [hfn, docF_two HY]))
   refine qs 10 ?_
   refine Ga (Gn HV HV (fun hl41 => ?_) (enc := eEn) (lst := lev) (hm := (show fEn lev f3 j3 d3 ∈ _ from memA)))
   refine Ga (Gr HV HV HV (fun c42 => ?_) (fun c42 => ?_))
   ·refine qs 16 ?_
    have hle : lev = [] := List.eq_nil_of_length_eq_zero HY
    subst hle
    exact Gx (rs := [.cell 6 _]) (L' := L) (F' := F) Tryz.results25 (.agg (j := 1) rfl rfl rfl .nil) subA (hE 8 (by decide) (by rw [hfn, docF_none]))
   refine qs 8 ?_
   refine Ga (Gu HV HV HV (fun c45 => ?_) (fun c45 => ?_))
   ·refine qs 5 ?_
    have hle : lev ≠ [] := fun e => by subst e; exact c42 rfl
    have hnx := docF_next (N := N) (s := s) (n := 6 - n) (T := T) (ws := ws) (seen := seen) (by omega : (foundN T lev ws s lev.length).length = 0) hle
    refine Ga (Gf HV HV (rNext_c T N hdo.right lev n HY hdo.lv ws hdo.ln hdo.wh seen (by have := hdo.few; omega) (e0 := e) (show fL T b1 j1 d1 ∈ _ from memA) (show fN N b2 j2 d2 ∈ _ from memA) (show fEn lev f3 j3 d3 ∈ _ from memA) (show fWh ws f4 j4 d4 ∈ _ from memA) (show fI seen f5 j5 d5 ∈ _ from memA) memA (fun T2 lev2 ws2 seen2 g1 l1 m1 gn ln mn g3 l3 m3 g4 l4 m4 g5 l5 m5 e2 hd2 hn2 => ?_)))
    refine qs 9 ?_
    refine Gi (n + 1, e2, (T2, lev2, ws2, seen2), ((g1, l1, m1), (gn, ln, mn), (g3, l3, m3), (g4, l4, m4), (g5, l5, m5))) ⟨by simp only; omega, ?_⟩ (by simp only; omega) srA (Gj (mem2 memA memA (mem2 memA memA (fun x hx => by repeat (first | exact hx | refine List.mem_cons_of_mem _ ?_)))))
    simp only
    rcases hd2 with ⟨h1, h2⟩ | ⟨h1, h2⟩
    · exact .inl ⟨h1, by omega, by rw [hfn, hnx, h2, show 7 - (n + 1) = 6 - n by omega]⟩
    exact .inr ⟨h1, by rw [hfn, hnx, h2, show 7 - (n + 1) = 6 - n by omega], fun _ => ⟨docNext_is hdo h2, by obtain ⟨e1, e2, e3⟩ := hn2 h1; subst e1 e2 e3; rfl⟩⟩
   refine qs 11 ?_
   have hle : lev ≠ [] := fun e => by subst e; exact c42 rfl
   have hnx := docF_next (N := N) (s := s) (n := 6 - n) (T := T) (ws := ws) (seen := seen) (by omega : (foundN T lev ws s lev.length).length = 0) hle
   obtain rfl : n = 6 := by omega
   exact Gi (7, e, (T, lev, ws, seen), ((b1, j1, d1), (b2, j2, d2), (f3, j3, d3), (f4, j4, d4), (f5, j5, d5))) ⟨by simp only; omega, .inr ⟨c19, by simp only; rw [hfn, hnx]; rfl, fun h => absurd h (by simp only; omega)⟩⟩ (by simp only; omega) srA (Gj (mem2 memA memA (mem2 memA memA (fun x hx => by repeat (first | exact hx | refine List.mem_cons_of_mem _ ?_)))))
  refine qs 15 ?_
  obtain rfl : n = 7 := by omega
  exact Gx (rs := [.cell 6 _]) (L' := L) (F' := F) Tryz.results25 (.agg (j := 1) rfl rfl rfl .nil) subA (hE 8 (by decide) (by rcases hrel with ⟨_, h, _⟩ | ⟨_, h, _⟩; exact absurd h HY; rw [h]; rfl))
end
end Go.Sy
