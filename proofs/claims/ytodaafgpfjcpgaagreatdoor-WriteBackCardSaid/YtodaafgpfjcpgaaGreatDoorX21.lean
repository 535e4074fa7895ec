/- Joined of my own texts: PaG, ScD, FwAE, PaH, PaI, FwAF, PaJ, PaK, FwAG, WrA, WrB, WrC, WrD, WrE, Bld, WrF. -/
import Derived.Test.YtodaafgpfjcpgaaGreatDoorX20
import Derived.WideLaws
namespace Go.Sy
open Go Go.Proofs Go.RowKit
section
variable {K : List Tk} {s : PS}
theorem phas_f0 (h : isB (s.tok K) [[91]] = false) : phas K s = false := by simp [phas, h]
theorem phas_f1 (h1 : (tkAt K (min (s.i + 1) (K.length - 1))).1 ≠ 1) : phas K s = false := by simp [phas, h1]
theorem phas_t0 (h : isB (s.tok K) [[91]] = true) (h1 : (tkAt K (min (s.i + 1) (K.length - 1))).1 = 1) (h2 : (tkAt K (min (s.i + 2) (K.length - 1))).1 = 1) : phas K s = true := by simp [phas, h, h1, h2]
theorem phas_t1 (h : isB (s.tok K) [[91]] = true) (h1 : (tkAt K (min (s.i + 1) (K.length - 1))).1 = 1) (h3 : isB (tkAt K (min (s.i + 2) (K.length - 1))) [[126], [105, 110, 116, 101, 114, 102, 97, 99, 101]] = true) : phas K s = true := by simp [phas, h, h1, h3]
theorem phas_f2 (h2 : (tkAt K (min (s.i + 2) (K.length - 1))).1 ≠ 1) (h3 : isB (tkAt K (min (s.i + 2) (K.length - 1))) [[126], [105, 110, 116, 101, 114, 102, 97, 99, 101]] = false) : phas K s = false := by simp [phas, h2, h3]
end
attribute [local irreducible] AC AT AO AK AH ACalls ACallsX Sub Res.cells Res.obj Res.nix Res.own Res.map Exit.then Exit.inBlock bodyPost Code.wp Code.wpIn WL Next Post PostX Kont
attribute [local irreducible] pnamed psignature pfield pelem pliteral pbare punion pexpr poperand pprimary punary ptypes punless pbody pfunction pdecl pfile plist plines pnode pof pmust psemi pnone pnested pwhen pif PM.bind PM.ret
section
variable {W0 : World} {L : List Res} {F : List Fact} {R : Value → List Res → List Fact → Prop} {X : List PanicEntry → List Res → List Fact → Prop}
set_option maxRecDepth 100000
set_option maxHeartbeats 4000000
variable {T : List Tok} {b : Nat} {tv : Value} {d : Nat} {s : PS} {a : Option Addr} {k c : Nat} {r : Rec}
theorem pisV_c {t : Tk} {p : Nat} {l : List Bs} {u : Value} (m : Fact.slc u 1 (l.map eStr) ∈ F) (hl : l.length ≤ 1000) (h : R (.bool (isB t l)) L F) : ACalls Tryz.prog W0 27 #[vTok t p, u] L F R := pis_c m hl (fun e => by rw [e] at h; exact h) (fun e => by rw [e] at h; exact h)
theorem ptypes1_g (w : Wf (T.map Tok.tk)) (hr : RecG (T.map Tok.tk) d r) {s : PS} (v : Inv (T.map Tok.tk) d s) : G (T.map Tok.tk) d s 1 [] ((fun s1 => ((pof (T.map Tok.tk) 1).bind fun nm => r.union.bind fun u => pnode 27 nm s1.i [u]) s1 : PM Int) s) (fun v => [v]) := by
  refine (G.bind (k2 := 0) (pof_g w v (by decide)) (fun nm s4 _ h4 l4 => ?_)).le HS
  refine (G.bind (k2 := 0) (hr.union _ h4) (fun t s5 _ h5 l5 => ?_)).le HS
  exact pnode_g h5 (by decide) rfl
theorem ptypes1_c (w : Wf (T.map Tok.tk)) (rc : RecC W0 T b tv d r) (hr : RecG (T.map Tok.tk) d r) (v : Inv (T.map Tok.tk) d s) {bp i : Nat} (hb : L[i]? = some (Res.cells bp [pt b].toArray 33)) :
    PC W0 T b tv L 102 #[pt bp] s (fun s1 => ((pof (T.map Tok.tk) 1).bind fun nm => r.union.bind fun u => pnode 27 nm s1.i [u]) s1) vInt := by
  intro F R X a k c mT mN h
  replace h := Kon.bind h
  refine ACallsX.body Tryz.func102 HQ Tryz.ntmps102 HQ ?_
  refine qs 7 ?_
  refine Gb (GL HQ HQ ?_ (hi := by repeat (first | assumption | exact has0 | apply hasS)))
  refine Gb (Gi HQ HQ (GZ memA v ?_))
  refine Gb (Ha HQ HQ HQ ?_)
  refine qs 5 ?_
  refine Gb (GL HQ HQ ?_ (hi := by repeat (first | assumption | exact has0 | apply hasS)))
  refine Gl (Gk HQ HQ (pof_c w (by decide) v memA memA (h.go (pof_g w v (by decide)).go (fun x8 s11 v11 l11 e11 h a11 k11 c11 => ?_) (fun i e hx => Gm (Gh (Gj (by repeat (first | exact Ga _ _ | exact Gc (fun x hx => by repeat (first | exact hx | refine List.mem_cons_of_mem _ ?_)) | refine Ge Gf ?_)) (hx)))))))
  repeat (first | replace h := Kon.bind h | replace h := Kon.retE h | replace h := Kon.okE h)
  refine qs 4 ?_
  refine GO (fun _ => false) [(bp, _, _)] bxA HQ (fun hx hX => ?_)
  refine qt [0, 1, 2, 3] ?_
  refine GD (i := 4) HR HQ HQ (fun _ => ?_)
  refine (Gk HQ HQ (rc.union v11 memA memA (h.go (hr.union _ v11).go (fun x13 s12 v12 l12 e12 h a12 k12 c12 => ?_) (fun i e hx => HB (Hc (Hv (by repeat (first | exact Ga _ _ | exact Gc (fun x hx => by repeat (first | exact hx | refine List.mem_cons_of_mem _ ?_)) | refine Ge Gf ?_)) (hx)))))))
  repeat (first | replace h := Kon.bind h | replace h := Kon.retE h | replace h := Kon.okE h)
  refine Gy bxA memB ?_
  refine GD (i := 5) HR HQ HQ (fun _ => ?_)
  refine Gz HQ HQ HQ HQ HQ HQ (fun b14 => ?_)
  refine Gy bxA memB ?_
  refine GD (i := 6) HR HQ HQ (fun _ => ?_)
  refine (Gk HQ HQ (GG w v12 memA memA memA (h.go (GC v12) (fun x15 s13 v13 l13 e13 h a13 k13 c13 => ?_) (fun i e hx => HB (Hc (Hv (by repeat (first | exact Ga _ _ | exact Gc (fun x hx => by repeat (first | exact hx | refine List.mem_cons_of_mem _ ?_)) | refine Ge Gf ?_)) (hx)))))))
  repeat (first | replace h := Kon.bind h | replace h := Kon.retE h | replace h := Kon.okE h)
  refine Gy bxA memB ?_
  refine qt [7] ?_
  refine GF HR ?_
  refine qs 2 ?_
  exact Gw (Gg (L' := PL T b tv s13 a13 k13 c13 L) (F' := F) Tryz.results102 rfl (by repeat (first | exact Ga _ _ | exact Gc (fun x hx => by repeat (first | exact hx | refine List.mem_cons_of_mem _ ?_)) | refine Ge Gs ?_)) (h _ _ _))
theorem ptypes_c (w : Wf (T.map Tok.tk)) (rc : RecC W0 T b tv d r) (hr : RecG (T.map Tok.tk) d r) (has : Bool) (v : Inv (T.map Tok.tk) d s) : PC W0 T b tv L 73 #[pt b, .bool has] s (ptypes (T.map Tok.tk) r has) vInt := by
  intro F R X a k c mT mN h
  unfold ptypes at h
  cases has
  · replace h := Kon.iteF (by decide) h
    refine ACallsX.body Tryz.func73 HQ Tryz.ntmps73 HQ ?_
    refine qs 2 ?_
    refine Gb (GH HQ HQ (fun b2 => GT Hi ?_))
    refine qs 6 ?_
    refine Gb (Gi HQ HQ (GZ memA v ?_))
    refine Gb (Ha HQ HQ HQ ?_)
    refine qs 7 ?_
    refine Gb (AO.not HQ HQ ?_)
    refine qs 7 ?_
    refine Gl (Gk HQ HQ (GG w v memA memA memA (h.go (GC v) (fun x14 s11 v11 l11 e11 h a11 k11 c11 => ?_) (fun i e hx => Gm (Gh (Gh (Gj (by repeat (first | exact Ga _ _ | exact Gc (fun x hx => by repeat (first | exact hx | refine List.mem_cons_of_mem _ ?_)) | refine Ge Gf ?_)) (hx))))))))
    repeat (first | replace h := Kon.bind h | replace h := Kon.retE h | replace h := Kon.okE h)
    refine qs 5 ?_
    exact Gw (Gg (L' := PL T b tv s11 a11 k11 c11 L) (F' := F) Tryz.results73 rfl (by repeat (first | exact Ga _ _ | exact Gc (fun x hx => by repeat (first | exact hx | refine List.mem_cons_of_mem _ ?_)) | refine Ge Gs ?_)) (h _ _ _))
  replace h := Kon.bind (Kon.iteT rfl h)
  refine ACallsX.body Tryz.func73 HQ Tryz.ntmps73 HQ ?_
  refine qs 2 ?_
  refine Gb (GH HQ HQ (fun b2 => GT Hi ?_))
  refine qs 6 ?_
  refine Gb (Gi HQ HQ (GZ memA v ?_))
  refine Gb (Ha HQ HQ HQ ?_)
  refine qs 7 ?_
  refine Gb (AO.not HQ HQ ?_)
  refine qs 8 ?_
  refine Gl (Gk HQ HQ (HE w v memA memA (h.go (HA w v).go (fun x16 s11 v11 l11 e11 h a11 k11 c11 => ?_) (fun i e hx => Gm (Gh (Gj (by repeat (first | exact Ga _ _ | exact Gc (fun x hx => by repeat (first | exact hx | refine List.mem_cons_of_mem _ ?_)) | refine Ge Gf ?_)) (hx)))))))
  repeat (first | replace h := Kon.bind h | replace h := Kon.retE h | replace h := Kon.okE h)
  refine qs 5 ?_
  refine Gb (Hz HQ HQ ?_)
  refine Gl (Gk HQ HQ (plist_c w v11 (fi := []) (fun _ _ v => ptypes1_c w rc hr v (i := 1) HQ) (fun _ v => (ptypes1_g w hr v).go) memA memA (h.go (plist_g w (fun _ v => ptypes1_g w hr v) v11).go (fun x19 s12 v12 l12 e12 h a12 k12 c12 p19 q19 r19 => ?_) (fun i e hx => Gm (Gh (Gj (by repeat (first | exact Ga _ _ | exact Gc (fun x hx => by repeat (first | exact hx | refine List.mem_cons_of_mem _ ?_)) | refine Ge Gf ?_)) (hx)))))))
  repeat (first | replace h := Kon.bind h | replace h := Kon.retE h | replace h := Kon.okE h)
  have ln19 := (plist_g w (fun _ v => ptypes1_g w hr v) v11).len e12
  refine GT ((He (i := 2) HQ).trans Gs) ?_
  refine qs 8 ?_
  refine Gl (Gk HQ HQ (GG w v12 memA memA memA (h.go (GC v12) (fun x23 s13 v13 l13 e13 h a13 k13 c13 => ?_) (fun i e hx => Gm (Gh (Gj (by repeat (first | exact Ga _ _ | exact Gc (fun x hx => by repeat (first | exact hx | refine List.mem_cons_of_mem _ ?_)) | refine Ge Gf ?_)) (hx)))))))
  repeat (first | replace h := Kon.bind h | replace h := Kon.retE h | replace h := Kon.okE h)
  refine qs 4 ?_
  exact Gw (Gg (L' := PL T b tv s13 a13 k13 c13 L) (F' := F) Tryz.results73 rfl (by repeat (first | exact Ga _ _ | exact Gc (fun x hx => by repeat (first | exact hx | refine List.mem_cons_of_mem _ ?_)) | refine Ge Gs ?_)) (h _ _ _))
theorem punless_c (_ : Wf (T.map Tok.tk)) (rc : RecC W0 T b tv d r) (hr : RecG (T.map Tok.tk) d r) {x : Bs} (v : Inv (T.map Tok.tk) d s) : PC W0 T b tv L 70 #[pt b, S x] s (punless (T.map Tok.tk) r x) vInt := by
  intro F R X a k c mT mN h
  have w : Wf (T.map Tok.tk) := ‹_›
  unfold punless at h
  refine ACallsX.body Tryz.func70 HQ Tryz.ntmps70 HQ ?_
  refine qs 9 ?_
  refine Gb (Gi HQ HQ (GZ memA v ?_))
  refine qs 1 ?_
  refine Gb (Gz HQ HQ HQ HQ HQ HQ (fun b8 => ?_))
  refine Gb (Gi HQ HQ (pis_c (l := [x]) memA (by simp) (fun c9 => ?_) (fun c9 => ?_)))
  ·first | replace h := Kon.pifT c9 h | replace h := Kon.iteT c9 h | replace h := Kon.whenT c9 h | skip
   repeat (first | replace h := Kon.bind h | replace h := Kon.retE h | replace h := Kon.okE h)
   refine qs 6 ?_
   refine Gl (Gk HQ HQ (pnone_c w v memA memA (h.go (pnone_g v).go (fun x11 s11 v11 l11 e11 h a11 k11 c11 => ?_) (fun i e hx => Gm (Gh (Gh (Gj (by repeat (first | exact Ga _ _ | exact Gc (fun x hx => by repeat (first | exact hx | refine List.mem_cons_of_mem _ ?_)) | refine Ge Gf ?_)) (hx))))))))
   repeat (first | replace h := Kon.bind h | replace h := Kon.retE h | replace h := Kon.okE h)
   refine qs 5 ?_
   exact Gw (Gg (L' := PL T b tv s11 a11 k11 c11 L) (F' := F) Tryz.results70 rfl (by repeat (first | exact Ga _ _ | exact Gc (fun x hx => by repeat (first | exact hx | refine List.mem_cons_of_mem _ ?_)) | refine Ge Gs ?_)) (h _ _ _))
  first | replace h := Kon.pifF c9 h | replace h := Kon.iteF (nott c9) h | replace h := Kon.whenF c9 h | skip
  repeat (first | replace h := Kon.bind h | replace h := Kon.retE h | replace h := Kon.okE h)
  refine qs 8 ?_
  refine Gl (Gk HQ HQ (rc.typ v memA memA (h.go (hr.typ _ v).go (fun x13 s12 v12 l12 e12 h a12 k12 c12 => ?_) (fun i e hx => Gm (Gh (Gj (by repeat (first | exact Ga _ _ | exact Gc (fun x hx => by repeat (first | exact hx | refine List.mem_cons_of_mem _ ?_)) | refine Ge Gf ?_)) (hx)))))))
  repeat (first | replace h := Kon.bind h | replace h := Kon.retE h | replace h := Kon.okE h)
  refine qs 4 ?_
  exact Gw (Gg (L' := PL T b tv s12 a12 k12 c12 L) (F' := F) Tryz.results70 rfl (by repeat (first | exact Ga _ _ | exact Gc (fun x hx => by repeat (first | exact hx | refine List.mem_cons_of_mem _ ?_)) | refine Ge Gs ?_)) (h _ _ _))
theorem pbody_c (w : Wf (T.map Tok.tk)) (rc : RecC W0 T b tv d r) (hr : RecG (T.map Tok.tk) d r) (v : Inv (T.map Tok.tk) d s) : PC W0 T b tv L 106 #[pt b] s (pbody (T.map Tok.tk) r) vInt := by
  intro F R X a k c mT mN h
  have hw := w.len
  rw [List.length_map] at hw
  unfold pbody at h
  replace h := Kon.bind h
  refine ACallsX.body Tryz.func106 HQ Tryz.ntmps106 HQ ?_
  refine qs 8 ?_
  refine Gb (Gi HQ HQ (GZ memA v ?_))
  refine Gb (Ha HQ HQ HQ ?_)
  refine qs 6 ?_
  refine Gl (Gk HQ HQ (HE w v memA memA (h.go (HA w v).go (fun x10 s11 v11 l11 e11 h a11 k11 c11 => ?_) (fun i e hx => Gm (Gh (Gj (by repeat (first | exact Ga _ _ | exact Gc (fun x hx => by repeat (first | exact hx | refine List.mem_cons_of_mem _ ?_)) | refine Ge Gf ?_)) (hx)))))))
  repeat (first | replace h := Kon.bind h | replace h := Kon.retE h | replace h := Kon.okE h)
  refine qs 6 ?_
  refine Gb (Gi HQ HQ (Hp w memA v11 (fun c12 => ?_) (fun c12 => ?_)))
  ·replace h := Kon.whenT c12 h
   repeat (first | replace h := Kon.bind h | replace h := Kon.retE h | replace h := Kon.okE h)
   have v12 := Inv.next v11 w (GS c12)
   refine qs 12 ?_
   refine Gb (Gi HQ HQ (GZ memA v12 ?_))
   refine Gb (Gi HQ HQ (psemiB_c (fun c15 => ?_) (fun c15 => ?_)))
   ·first | replace h := Kon.iteT c15 h | skip
    repeat (first | replace h := Kon.bind h | replace h := Kon.retE h | replace h := Kon.okE h)
    refine qs 9 ?_
    replace h := Kon.iteT (Or.inl c15) h
    refine qs 2 ?_
    refine Gl (Gk HQ HQ (pnone_c w v12 memA memA (h.go (pnone_g v12).go (fun x23 s13 v13 l13 e13 h a13 k13 c13 => ?_) (fun i e hx => Gm (Gh (Gh (Gj (by repeat (first | exact Ga _ _ | exact Gc (fun x hx => by repeat (first | exact hx | refine List.mem_cons_of_mem _ ?_)) | refine Ge Gf ?_)) (hx))))))))
    repeat (first | replace h := Kon.bind h | replace h := Kon.retE h | replace h := Kon.okE h)
    refine qs 7 ?_
    refine Gb (Gi HQ HQ (GZ memA v13 ?_))
    refine Gb (Gi HQ HQ (psemiB_c (fun c28 => ?_) (fun c28 => ?_)))
    ·first | replace h := Kon.iteT c28 h | skip
     repeat (first | replace h := Kon.bind h | replace h := Kon.retE h | replace h := Kon.okE h)
     refine qs 3 ?_
     have hlt := (v13).lt
     refine qs 2 ?_
     refine Gb (Gu HQ HQ ?_)
     refine qs 3 ?_
     refine Gb (Gu HQ HQ ?_)
     refine qs 5 ?_
     have v14 := Inv.next v13 w (GS c28)
     refine qs 2 ?_
     refine Gl (Gk HQ HQ (HE w v14 memA memA (h.go (HA w v14).go (fun x37 s15 v15 l15 e15 h a15 k15 c15 => ?_) (fun i e hx => Gm (Gh (Gh (Gj (by repeat (first | exact Ga _ _ | exact Gc (fun x hx => by repeat (first | exact hx | refine List.mem_cons_of_mem _ ?_)) | refine Ge Gf ?_)) (hx))))))))
     repeat (first | replace h := Kon.bind h | replace h := Kon.retE h | replace h := Kon.okE h)
     refine qs 7 ?_
     refine Gb (Gz HQ HQ HQ HQ HQ HQ (fun b41 => ?_))
     refine Gl (Gk HQ HQ (GG w v15 memA memA memA (h.go (GC v15) (fun x42 s16 v16 l16 e16 h a16 k16 c16 => ?_) (fun i e hx => Gm (Gh (Gh (Gj (by repeat (first | exact Ga _ _ | exact Gc (fun x hx => by repeat (first | exact hx | refine List.mem_cons_of_mem _ ?_)) | refine Ge Gf ?_)) (hx))))))))
     repeat (first | replace h := Kon.bind h | replace h := Kon.retE h | replace h := Kon.okE h)
     refine qs 5 ?_
     exact Gw (Gg (L' := PL T b tv s16 a16 k16 c16 L) (F' := F) Tryz.results106 rfl (by repeat (first | exact Ga _ _ | exact Gc (fun x hx => by repeat (first | exact hx | refine List.mem_cons_of_mem _ ?_)) | refine Ge Gs ?_)) (h _ _ _))
    first | replace h := Kon.iteF (nott c28) h | skip
    repeat (first | replace h := Kon.bind h | replace h := Kon.retE h | replace h := Kon.okE h)
    refine qs 8 ?_
    refine Gl (Gk HQ HQ (HE w v13 memA memA (h.go (HA w v13).go (fun x37 s17 v17 l17 e17 h a17 k17 c17 => ?_) (fun i e hx => Gm (Gh (Gh (Gj (by repeat (first | exact Ga _ _ | exact Gc (fun x hx => by repeat (first | exact hx | refine List.mem_cons_of_mem _ ?_)) | refine Ge Gf ?_)) (hx))))))))
    repeat (first | replace h := Kon.bind h | replace h := Kon.retE h | replace h := Kon.okE h)
    refine qs 7 ?_
    refine Gb (Gz HQ HQ HQ HQ HQ HQ (fun b41 => ?_))
    refine Gl (Gk HQ HQ (GG w v17 memA memA memA (h.go (GC v17) (fun x42 s18 v18 l18 e18 h a18 k18 c18 => ?_) (fun i e hx => Gm (Gh (Gh (Gj (by repeat (first | exact Ga _ _ | exact Gc (fun x hx => by repeat (first | exact hx | refine List.mem_cons_of_mem _ ?_)) | refine Ge Gf ?_)) (hx))))))))
    repeat (first | replace h := Kon.bind h | replace h := Kon.retE h | replace h := Kon.okE h)
    refine qs 5 ?_
    exact Gw (Gg (L' := PL T b tv s18 a18 k18 c18 L) (F' := F) Tryz.results106 rfl (by repeat (first | exact Ga _ _ | exact Gc (fun x hx => by repeat (first | exact hx | refine List.mem_cons_of_mem _ ?_)) | refine Ge Gs ?_)) (h _ _ _))
   first | replace h := Kon.iteF (nott c15) h | skip
   repeat (first | replace h := Kon.bind h | replace h := Kon.retE h | replace h := Kon.okE h)
   refine qs 2 ?_
   refine Gr HQ HQ (Gi HQ HQ (GZ memA v12 ?_))
   refine Gr HQ HQ (Gz HQ HQ HQ HQ HQ HQ (fun b19 => ?_))
   refine Gr HQ HQ (Gi HQ HQ (pis_c (l := [[125]]) memA (by simp) (fun c20 => ?_) (fun c20 => ?_)))
   ·first | replace h := Kon.pifT c20 h | replace h := Kon.iteT c20 h | replace h := Kon.whenT c20 h | skip
    repeat (first | replace h := Kon.bind h | replace h := Kon.retE h | replace h := Kon.okE h)
    refine qs 4 ?_
    replace h := Kon.iteT (Or.inr c20) h
    refine qs 2 ?_
    refine Gl (Gk HQ HQ (pnone_c w v12 memA memA (h.go (pnone_g v12).go (fun x23 s19 v19 l19 e19 h a19 k19 c19 => ?_) (fun i e hx => Gm (Gh (Gh (Gj (by repeat (first | exact Ga _ _ | exact Gc (fun x hx => by repeat (first | exact hx | refine List.mem_cons_of_mem _ ?_)) | refine Ge Gf ?_)) (hx))))))))
    repeat (first | replace h := Kon.bind h | replace h := Kon.retE h | replace h := Kon.okE h)
    refine qs 7 ?_
    refine Gb (Gi HQ HQ (GZ memA v19 ?_))
    refine Gb (Gi HQ HQ (psemiB_c (fun c28 => ?_) (fun c28 => ?_)))
    ·first | replace h := Kon.iteT c28 h | skip
     repeat (first | replace h := Kon.bind h | replace h := Kon.retE h | replace h := Kon.okE h)
     refine qs 3 ?_
     have hlt := (v19).lt
     refine qs 2 ?_
     refine Gb (Gu HQ HQ ?_)
     refine qs 3 ?_
     refine Gb (Gu HQ HQ ?_)
     refine qs 5 ?_
     have v20 := Inv.next v19 w (GS c28)
     refine qs 2 ?_
     refine Gl (Gk HQ HQ (HE w v20 memA memA (h.go (HA w v20).go (fun x37 s21 v21 l21 e21 h a21 k21 c21 => ?_) (fun i e hx => Gm (Gh (Gh (Gj (by repeat (first | exact Ga _ _ | exact Gc (fun x hx => by repeat (first | exact hx | refine List.mem_cons_of_mem _ ?_)) | refine Ge Gf ?_)) (hx))))))))
     repeat (first | replace h := Kon.bind h | replace h := Kon.retE h | replace h := Kon.okE h)
     refine qs 7 ?_
     refine Gb (Gz HQ HQ HQ HQ HQ HQ (fun b41 => ?_))
     refine Gl (Gk HQ HQ (GG w v21 memA memA memA (h.go (GC v21) (fun x42 s22 v22 l22 e22 h a22 k22 c22 => ?_) (fun i e hx => Gm (Gh (Gh (Gj (by repeat (first | exact Ga _ _ | exact Gc (fun x hx => by repeat (first | exact hx | refine List.mem_cons_of_mem _ ?_)) | refine Ge Gf ?_)) (hx))))))))
     repeat (first | replace h := Kon.bind h | replace h := Kon.retE h | replace h := Kon.okE h)
     refine qs 5 ?_
     exact Gw (Gg (L' := PL T b tv s22 a22 k22 c22 L) (F' := F) Tryz.results106 rfl (by repeat (first | exact Ga _ _ | exact Gc (fun x hx => by repeat (first | exact hx | refine List.mem_cons_of_mem _ ?_)) | refine Ge Gs ?_)) (h _ _ _))
    first | replace h := Kon.iteF (nott c28) h | skip
    repeat (first | replace h := Kon.bind h | replace h := Kon.retE h | replace h := Kon.okE h)
    refine qs 8 ?_
    refine Gl (Gk HQ HQ (HE w v19 memA memA (h.go (HA w v19).go (fun x37 s23 v23 l23 e23 h a23 k23 c23 => ?_) (fun i e hx => Gm (Gh (Gh (Gj (by repeat (first | exact Ga _ _ | exact Gc (fun x hx => by repeat (first | exact hx | refine List.mem_cons_of_mem _ ?_)) | refine Ge Gf ?_)) (hx))))))))
    repeat (first | replace h := Kon.bind h | replace h := Kon.retE h | replace h := Kon.okE h)
    refine qs 7 ?_
    refine Gb (Gz HQ HQ HQ HQ HQ HQ (fun b41 => ?_))
    refine Gl (Gk HQ HQ (GG w v23 memA memA memA (h.go (GC v23) (fun x42 s24 v24 l24 e24 h a24 k24 c24 => ?_) (fun i e hx => Gm (Gh (Gh (Gj (by repeat (first | exact Ga _ _ | exact Gc (fun x hx => by repeat (first | exact hx | refine List.mem_cons_of_mem _ ?_)) | refine Ge Gf ?_)) (hx))))))))
    repeat (first | replace h := Kon.bind h | replace h := Kon.retE h | replace h := Kon.okE h)
    refine qs 5 ?_
    exact Gw (Gg (L' := PL T b tv s24 a24 k24 c24 L) (F' := F) Tryz.results106 rfl (by repeat (first | exact Ga _ _ | exact Gc (fun x hx => by repeat (first | exact hx | refine List.mem_cons_of_mem _ ?_)) | refine Ge Gs ?_)) (h _ _ _))
   first | replace h := Kon.pifF c20 h | replace h := Kon.iteF (nott c20) h | replace h := Kon.whenF c20 h | skip
   repeat (first | replace h := Kon.bind h | replace h := Kon.retE h | replace h := Kon.okE h)
   refine qs 4 ?_
   replace h := Kon.iteF (no2 (nott c15) c20) h
   refine qs 2 ?_
   refine Gl (Gk HQ HQ (rc.expr 1 (by decide) v12 memA memA (h.go (hr.expr _ _ v12).go (fun x25 s25 v25 l25 e25 h a25 k25 c25 => ?_) (fun i e hx => Gm (Gh (Gh (Gj (by repeat (first | exact Ga _ _ | exact Gc (fun x hx => by repeat (first | exact hx | refine List.mem_cons_of_mem _ ?_)) | refine Ge Gf ?_)) (hx))))))))
   repeat (first | replace h := Kon.bind h | replace h := Kon.retE h | replace h := Kon.okE h)
   refine qs 7 ?_
   refine Gb (Gi HQ HQ (GZ memA v25 ?_))
   refine Gb (Gi HQ HQ (psemiB_c (fun c28 => ?_) (fun c28 => ?_)))
   ·first | replace h := Kon.iteT c28 h | skip
    repeat (first | replace h := Kon.bind h | replace h := Kon.retE h | replace h := Kon.okE h)
    refine qs 3 ?_
    have hlt := (v25).lt
    refine qs 2 ?_
    refine Gb (Gu HQ HQ ?_)
    refine qs 3 ?_
    refine Gb (Gu HQ HQ ?_)
    refine qs 5 ?_
    have v26 := Inv.next v25 w (GS c28)
    refine qs 2 ?_
    refine Gl (Gk HQ HQ (HE w v26 memA memA (h.go (HA w v26).go (fun x37 s27 v27 l27 e27 h a27 k27 c27 => ?_) (fun i e hx => Gm (Gh (Gh (Gj (by repeat (first | exact Ga _ _ | exact Gc (fun x hx => by repeat (first | exact hx | refine List.mem_cons_of_mem _ ?_)) | refine Ge Gf ?_)) (hx))))))))
    repeat (first | replace h := Kon.bind h | replace h := Kon.retE h | replace h := Kon.okE h)
    refine qs 7 ?_
    refine Gb (Gz HQ HQ HQ HQ HQ HQ (fun b41 => ?_))
    refine Gl (Gk HQ HQ (GG w v27 memA memA memA (h.go (GC v27) (fun x42 s28 v28 l28 e28 h a28 k28 c28 => ?_) (fun i e hx => Gm (Gh (Gh (Gj (by repeat (first | exact Ga _ _ | exact Gc (fun x hx => by repeat (first | exact hx | refine List.mem_cons_of_mem _ ?_)) | refine Ge Gf ?_)) (hx))))))))
    repeat (first | replace h := Kon.bind h | replace h := Kon.retE h | replace h := Kon.okE h)
    refine qs 5 ?_
    exact Gw (Gg (L' := PL T b tv s28 a28 k28 c28 L) (F' := F) Tryz.results106 rfl (by repeat (first | exact Ga _ _ | exact Gc (fun x hx => by repeat (first | exact hx | refine List.mem_cons_of_mem _ ?_)) | refine Ge Gs ?_)) (h _ _ _))
   first | replace h := Kon.iteF (nott c28) h | skip
   repeat (first | replace h := Kon.bind h | replace h := Kon.retE h | replace h := Kon.okE h)
   refine qs 8 ?_
   refine Gl (Gk HQ HQ (HE w v25 memA memA (h.go (HA w v25).go (fun x37 s29 v29 l29 e29 h a29 k29 c29 => ?_) (fun i e hx => Gm (Gh (Gh (Gj (by repeat (first | exact Ga _ _ | exact Gc (fun x hx => by repeat (first | exact hx | refine List.mem_cons_of_mem _ ?_)) | refine Ge Gf ?_)) (hx))))))))
   repeat (first | replace h := Kon.bind h | replace h := Kon.retE h | replace h := Kon.okE h)
   refine qs 7 ?_
   refine Gb (Gz HQ HQ HQ HQ HQ HQ (fun b41 => ?_))
   refine Gl (Gk HQ HQ (GG w v29 memA memA memA (h.go (GC v29) (fun x42 s30 v30 l30 e30 h a30 k30 c30 => ?_) (fun i e hx => Gm (Gh (Gh (Gj (by repeat (first | exact Ga _ _ | exact Gc (fun x hx => by repeat (first | exact hx | refine List.mem_cons_of_mem _ ?_)) | refine Ge Gf ?_)) (hx))))))))
   repeat (first | replace h := Kon.bind h | replace h := Kon.retE h | replace h := Kon.okE h)
   refine qs 5 ?_
   exact Gw (Gg (L' := PL T b tv s30 a30 k30 c30 L) (F' := F) Tryz.results106 rfl (by repeat (first | exact Ga _ _ | exact Gc (fun x hx => by repeat (first | exact hx | refine List.mem_cons_of_mem _ ?_)) | refine Ge Gs ?_)) (h _ _ _))
  replace h := Kon.whenF c12 h
  repeat (first | replace h := Kon.bind h | replace h := Kon.retE h | replace h := Kon.okE h)
  refine qs 8 ?_
  refine Gl (Gk HQ HQ (pnone_c w v11 memA memA (h.go (pnone_g v11).go (fun x44 s31 v31 l31 e31 h a31 k31 c31 => ?_) (fun i e hx => Gm (Gh (Gj (by repeat (first | exact Ga _ _ | exact Gc (fun x hx => by repeat (first | exact hx | refine List.mem_cons_of_mem _ ?_)) | refine Ge Gf ?_)) (hx)))))))
  repeat (first | replace h := Kon.bind h | replace h := Kon.retE h | replace h := Kon.okE h)
  refine qs 6 ?_
  refine Gl (Gk HQ HQ (HE w v31 memA memA (h.go (HA w v31).go (fun x46 s32 v32 l32 e32 h a32 k32 c32 => ?_) (fun i e hx => Gm (Gh (Gj (by repeat (first | exact Ga _ _ | exact Gc (fun x hx => by repeat (first | exact hx | refine List.mem_cons_of_mem _ ?_)) | refine Ge Gf ?_)) (hx)))))))
  repeat (first | replace h := Kon.bind h | replace h := Kon.retE h | replace h := Kon.okE h)
  refine qs 7 ?_
  refine Gb (Gz HQ HQ HQ HQ HQ HQ (fun b50 => ?_))
  refine Gl (Gk HQ HQ (GG w v32 memA memA memA (h.go (GC v32) (fun x51 s33 v33 l33 e33 h a33 k33 c33 => ?_) (fun i e hx => Gm (Gh (Gj (by repeat (first | exact Ga _ _ | exact Gc (fun x hx => by repeat (first | exact hx | refine List.mem_cons_of_mem _ ?_)) | refine Ge Gf ?_)) (hx)))))))
  repeat (first | replace h := Kon.bind h | replace h := Kon.retE h | replace h := Kon.okE h)
  refine qs 4 ?_
  exact Gw (Gg (L' := PL T b tv s33 a33 k33 c33 L) (F' := F) Tryz.results106 rfl (by repeat (first | exact Ga _ _ | exact Gc (fun x hx => by repeat (first | exact hx | refine List.mem_cons_of_mem _ ?_)) | refine Ge Gs ?_)) (h _ _ _))
theorem pfunction_c (w : Wf (T.map Tok.tk)) (rc : RecC W0 T b tv d r) (hr : RecG (T.map Tok.tk) d r) (q : Nat) (v : Inv (T.map Tok.tk) d s) : PC W0 T b tv L 75 #[pt b, .int .i64 (posOf T q : Int)] s (pfunction (T.map Tok.tk) r q) vInt := by
  intro F R X a k c mT mN h
  unfold pfunction at h
  replace h := Kon.bind h
  refine ACallsX.body Tryz.func75 HQ Tryz.ntmps75 HQ ?_
  refine qs 14 ?_
  refine Gb (Gi HQ HQ (GZ memA v ?_))
  refine Gb (Ha HQ HQ HQ ?_)
  refine qs 6 ?_
  refine Gb (Gi HQ HQ (Hp w memA v (fun c16 => ?_) (fun c16 => ?_)))
  ·replace h := Kon.whenT c16 h
   repeat (first | replace h := Kon.bind h | replace h := Kon.retE h | replace h := Kon.okE h)
   have v11 := Inv.next v w (GS c16)
   refine qs 6 ?_
   refine Gl (Gk HQ HQ (pof_c w (by decide) v11 memA memA (h.go (pof_g w v11 (by decide)).go (fun x18 s12 v12 l12 e12 h a12 k12 c12 => ?_) (fun i e hx => Gm (Gh (Gh (Gj (by repeat (first | exact Ga _ _ | exact Gc (fun x hx => by repeat (first | exact hx | refine List.mem_cons_of_mem _ ?_)) | refine Ge Gf ?_)) (hx))))))))
   repeat (first | replace h := Kon.bind h | replace h := Kon.retE h | replace h := Kon.okE h)
   refine qs 6 ?_
   refine Gl (Gk HQ HQ (rc.typ v12 memA memA (h.go (hr.typ _ v12).go (fun x20 s13 v13 l13 e13 h a13 k13 c13 => ?_) (fun i e hx => Gm (Gh (Gh (Gj (by repeat (first | exact Ga _ _ | exact Gc (fun x hx => by repeat (first | exact hx | refine List.mem_cons_of_mem _ ?_)) | refine Ge Gf ?_)) (hx))))))))
   repeat (first | replace h := Kon.bind h | replace h := Kon.retE h | replace h := Kon.okE h)
   refine qs 6 ?_
   refine Gl (Gk HQ HQ (HE w v13 memA memA (h.go (HA w v13).go (fun x22 s14 v14 l14 e14 h a14 k14 c14 => ?_) (fun i e hx => Gm (Gh (Gh (Gj (by repeat (first | exact Ga _ _ | exact Gc (fun x hx => by repeat (first | exact hx | refine List.mem_cons_of_mem _ ?_)) | refine Ge Gf ?_)) (hx))))))))
   repeat (first | replace h := Kon.bind h | replace h := Kon.retE h | replace h := Kon.okE h)
   refine qs 7 ?_
   refine Gb (Gz HQ HQ HQ HQ HQ HQ (fun b27 => ?_))
   refine Gl (Gk HQ HQ (GG w v14 memA memA memA (h.go (GC v14) (fun x28 s15 v15 l15 e15 h a15 k15 c15 => ?_) (fun i e hx => Gm (Gh (Gj (by repeat (first | exact Ga _ _ | exact Gc (fun x hx => by repeat (first | exact hx | refine List.mem_cons_of_mem _ ?_)) | refine Ge Gf ?_)) (hx)))))))
   repeat (first | replace h := Kon.bind h | replace h := Kon.retE h | replace h := Kon.okE h)
   refine qs 6 ?_
   refine Gl (Gk HQ HQ (pof_c w (by decide) v15 memA memA (h.go (pof_g w v15 (by decide)).go (fun x32 s16 v16 l16 e16 h a16 k16 c16 => ?_) (fun i e hx => Gm (Gh (Gj (by repeat (first | exact Ga _ _ | exact Gc (fun x hx => by repeat (first | exact hx | refine List.mem_cons_of_mem _ ?_)) | refine Ge Gf ?_)) (hx)))))))
   repeat (first | replace h := Kon.bind h | replace h := Kon.retE h | replace h := Kon.okE h)
   refine qs 7 ?_
   refine Gb (Gi HQ HQ (GZ memA v16 ?_))
   refine Gb (Gz HQ HQ HQ HQ HQ HQ (fun b36 => ?_))
   refine Gb (Gi HQ HQ (pisV_c (l := [[91]]) memA (by simp) ?_))
   refine Gl (Gk HQ HQ (ptypes_c w rc hr _ v16 memA memA (h.go (ptypes_g w hr v16 _).go (fun x38 s17 v17 l17 e17 h a17 k17 c17 => ?_) (fun i e hx => Gm (Gh (Gj (by repeat (first | exact Ga _ _ | exact Gc (fun x hx => by repeat (first | exact hx | refine List.mem_cons_of_mem _ ?_)) | refine Ge Gf ?_)) (hx)))))))
   repeat (first | replace h := Kon.bind h | replace h := Kon.retE h | replace h := Kon.okE h)
   refine qs 7 ?_
   refine Gb (Gi HQ HQ (GZ memA v17 ?_))
   refine Gb (Ha HQ HQ HQ ?_)
   refine Gl (Gk HQ HQ (psignature_c w rc hr _ v17 memA memA (h.go (psignature_g w hr v17 _).go (fun x43 s18 v18 l18 e18 h a18 k18 c18 => ?_) (fun i e hx => Gm (Gh (Gj (by repeat (first | exact Ga _ _ | exact Gc (fun x hx => by repeat (first | exact hx | refine List.mem_cons_of_mem _ ?_)) | refine Ge Gf ?_)) (hx)))))))
   repeat (first | replace h := Kon.bind h | replace h := Kon.retE h | replace h := Kon.okE h)
   refine qs 12 ?_
   refine Gl (Gk HQ HQ (pbody_c w rc hr v18 memA memA (h.go (pbody_g w hr v18).go (fun x51 s19 v19 l19 e19 h a19 k19 c19 => ?_) (fun i e hx => Gm (Gh (Gj (by repeat (first | exact Ga _ _ | exact Gc (fun x hx => by repeat (first | exact hx | refine List.mem_cons_of_mem _ ?_)) | refine Ge Gf ?_)) (hx)))))))
   repeat (first | replace h := Kon.bind h | replace h := Kon.retE h | replace h := Kon.okE h)
   refine Gb (Gz HQ HQ HQ HQ HQ HQ (fun b52 => ?_))
   refine Gl (Gk HQ HQ (GG w v19 memA memA memA (h.go (GC v19) (fun x53 s20 v20 l20 e20 h a20 k20 c20 => ?_) (fun i e hx => Gm (Gh (Gj (by repeat (first | exact Ga _ _ | exact Gc (fun x hx => by repeat (first | exact hx | refine List.mem_cons_of_mem _ ?_)) | refine Ge Gf ?_)) (hx)))))))
   repeat (first | replace h := Kon.bind h | replace h := Kon.retE h | replace h := Kon.okE h)
   refine qs 4 ?_
   exact Gw (Gg (L' := PL T b tv s20 a20 k20 c20 L) (F' := F) Tryz.results75 rfl (by repeat (first | exact Ga _ _ | exact Gc (fun x hx => by repeat (first | exact hx | refine List.mem_cons_of_mem _ ?_)) | refine Ge Gs ?_)) (h _ _ _))
  replace h := Kon.whenF c16 h
  repeat (first | replace h := Kon.bind h | replace h := Kon.retE h | replace h := Kon.okE h)
  refine qs 5 ?_
  refine Gl (Gk HQ HQ (pnone_c w v memA memA (h.go (pnone_g v).go (fun x30 s21 v21 l21 e21 h a21 k21 c21 => ?_) (fun i e hx => Gm (Gh (Gj (by repeat (first | exact Ga _ _ | exact Gc (fun x hx => by repeat (first | exact hx | refine List.mem_cons_of_mem _ ?_)) | refine Ge Gf ?_)) (hx)))))))
  repeat (first | replace h := Kon.bind h | replace h := Kon.retE h | replace h := Kon.okE h)
  refine qs 6 ?_
  refine Gl (Gk HQ HQ (pof_c w (by decide) v21 memA memA (h.go (pof_g w v21 (by decide)).go (fun x32 s22 v22 l22 e22 h a22 k22 c22 => ?_) (fun i e hx => Gm (Gh (Gj (by repeat (first | exact Ga _ _ | exact Gc (fun x hx => by repeat (first | exact hx | refine List.mem_cons_of_mem _ ?_)) | refine Ge Gf ?_)) (hx)))))))
  repeat (first | replace h := Kon.bind h | replace h := Kon.retE h | replace h := Kon.okE h)
  refine qs 7 ?_
  refine Gb (Gi HQ HQ (GZ memA v22 ?_))
  refine Gb (Gz HQ HQ HQ HQ HQ HQ (fun b36 => ?_))
  refine Gb (Gi HQ HQ (pisV_c (l := [[91]]) memA (by simp) ?_))
  refine Gl (Gk HQ HQ (ptypes_c w rc hr _ v22 memA memA (h.go (ptypes_g w hr v22 _).go (fun x38 s23 v23 l23 e23 h a23 k23 c23 => ?_) (fun i e hx => Gm (Gh (Gj (by repeat (first | exact Ga _ _ | exact Gc (fun x hx => by repeat (first | exact hx | refine List.mem_cons_of_mem _ ?_)) | refine Ge Gf ?_)) (hx)))))))
  repeat (first | replace h := Kon.bind h | replace h := Kon.retE h | replace h := Kon.okE h)
  refine qs 7 ?_
  refine Gb (Gi HQ HQ (GZ memA v23 ?_))
  refine Gb (Ha HQ HQ HQ ?_)
  refine Gl (Gk HQ HQ (psignature_c w rc hr _ v23 memA memA (h.go (psignature_g w hr v23 _).go (fun x43 s24 v24 l24 e24 h a24 k24 c24 => ?_) (fun i e hx => Gm (Gh (Gj (by repeat (first | exact Ga _ _ | exact Gc (fun x hx => by repeat (first | exact hx | refine List.mem_cons_of_mem _ ?_)) | refine Ge Gf ?_)) (hx)))))))
  repeat (first | replace h := Kon.bind h | replace h := Kon.retE h | replace h := Kon.okE h)
  refine qs 12 ?_
  refine Gl (Gk HQ HQ (pbody_c w rc hr v24 memA memA (h.go (pbody_g w hr v24).go (fun x51 s25 v25 l25 e25 h a25 k25 c25 => ?_) (fun i e hx => Gm (Gh (Gj (by repeat (first | exact Ga _ _ | exact Gc (fun x hx => by repeat (first | exact hx | refine List.mem_cons_of_mem _ ?_)) | refine Ge Gf ?_)) (hx)))))))
  repeat (first | replace h := Kon.bind h | replace h := Kon.retE h | replace h := Kon.okE h)
  refine Gb (Gz HQ HQ HQ HQ HQ HQ (fun b52 => ?_))
  refine Gl (Gk HQ HQ (GG w v25 memA memA memA (h.go (GC v25) (fun x53 s26 v26 l26 e26 h a26 k26 c26 => ?_) (fun i e hx => Gm (Gh (Gj (by repeat (first | exact Ga _ _ | exact Gc (fun x hx => by repeat (first | exact hx | refine List.mem_cons_of_mem _ ?_)) | refine Ge Gf ?_)) (hx)))))))
  repeat (first | replace h := Kon.bind h | replace h := Kon.retE h | replace h := Kon.okE h)
  refine qs 4 ?_
  exact Gw (Gg (L' := PL T b tv s26 a26 k26 c26 L) (F' := F) Tryz.results75 rfl (by repeat (first | exact Ga _ _ | exact Gc (fun x hx => by repeat (first | exact hx | refine List.mem_cons_of_mem _ ?_)) | refine Ge Gs ?_)) (h _ _ _))
theorem pdecl_c (w : Wf (T.map Tok.tk)) (rc : RecC W0 T b tv d r) (hr : RecG (T.map Tok.tk) d r) (v : Inv (T.map Tok.tk) d s) : PC W0 T b tv L 29 #[pt b] s (pdecl (T.map Tok.tk) r) vInt := by
  intro F R X a k c mT mN h
  have hw := w.len
  rw [List.length_map] at hw
  unfold pdecl at h
  refine ACallsX.body Tryz.func29 HQ Tryz.ntmps29 HQ ?_
  refine qs 8 ?_
  refine Gb (Gi HQ HQ (GZ memA v ?_))
  refine Gb (Ha HQ HQ HQ ?_)
  refine qs 8 ?_
  refine Gb (Gi HQ HQ (Hp w memA v (fun c17 => ?_) (fun c17 => ?_)))
  ·replace h := Kon.whenT c17 h
   repeat (first | replace h := Kon.bind h | replace h := Kon.retE h | replace h := Kon.okE h)
   have v11 := Inv.next v w (GS c17)
   refine qs 7 ?_
   refine Gl (Gk HQ HQ (pof_c w (by decide) v11 memA memA (h.go (pof_g w v11 (by decide)).go (fun x19 s12 v12 l12 e12 h a12 k12 c12 => ?_) (fun i e hx => Gm (Gh (Gx (Gh (Gj (by repeat (first | exact Ga _ _ | exact Gc (fun x hx => by repeat (first | exact hx | refine List.mem_cons_of_mem _ ?_)) | refine Ge Gf ?_)) (hx)))))))))
   repeat (first | replace h := Kon.bind h | replace h := Kon.retE h | replace h := Kon.okE h)
   refine qs 6 ?_
   refine Gl (Gk HQ HQ (punless_c w rc hr v12 memA memA (h.go (punless_g hr v12 _).go (fun x21 s13 v13 l13 e13 h a13 k13 c13 => ?_) (fun i e hx => Gm (Gh (Gx (Gh (Gj (by repeat (first | exact Ga _ _ | exact Gc (fun x hx => by repeat (first | exact hx | refine List.mem_cons_of_mem _ ?_)) | refine Ge Gf ?_)) (hx)))))))))
   repeat (first | replace h := Kon.bind h | replace h := Kon.retE h | replace h := Kon.okE h)
   refine qs 6 ?_
   refine Gl (Gk HQ HQ (HE w v13 memA memA (h.go (HA w v13).go (fun x23 s14 v14 l14 e14 h a14 k14 c14 => ?_) (fun i e hx => Gm (Gh (Gx (Gh (Gj (by repeat (first | exact Ga _ _ | exact Gc (fun x hx => by repeat (first | exact hx | refine List.mem_cons_of_mem _ ?_)) | refine Ge Gf ?_)) (hx)))))))))
   repeat (first | replace h := Kon.bind h | replace h := Kon.retE h | replace h := Kon.okE h)
   refine qs 9 ?_
   refine Gl (Gk HQ HQ (rc.expr 1 (by decide) v14 memA memA (h.go (hr.expr _ _ v14).go (fun x29 s15 v15 l15 e15 h a15 k15 c15 => ?_) (fun i e hx => Gm (Gh (Gx (Gh (Gj (by repeat (first | exact Ga _ _ | exact Gc (fun x hx => by repeat (first | exact hx | refine List.mem_cons_of_mem _ ?_)) | refine Ge Gf ?_)) (hx)))))))))
   repeat (first | replace h := Kon.bind h | replace h := Kon.retE h | replace h := Kon.okE h)
   refine Gb (Gz HQ HQ HQ HQ HQ HQ (fun b30 => ?_))
   refine Gl (Gk HQ HQ (GG w v15 memA memA memA (h.go (GC v15) (fun x31 s16 v16 l16 e16 h a16 k16 c16 => ?_) (fun i e hx => Gm (Gh (Gx (Gh (Gj (by repeat (first | exact Ga _ _ | exact Gc (fun x hx => by repeat (first | exact hx | refine List.mem_cons_of_mem _ ?_)) | refine Ge Gf ?_)) (hx)))))))))
   repeat (first | replace h := Kon.bind h | replace h := Kon.retE h | replace h := Kon.okE h)
   refine qs 6 ?_
   exact Gw (Gg (L' := PL T b tv s16 a16 k16 c16 L) (F' := F) Tryz.results29 rfl (by repeat (first | exact Ga _ _ | exact Gc (fun x hx => by repeat (first | exact hx | refine List.mem_cons_of_mem _ ?_)) | refine Ge Gs ?_)) (h _ _ _))
  replace h := Kon.whenF c17 h
  repeat (first | replace h := Kon.bind h | replace h := Kon.retE h | replace h := Kon.okE h)
  refine qs 7 ?_
  refine Gb (Gi HQ HQ (Hp w memA v (fun c34 => ?_) (fun c34 => ?_)))
  ·replace h := Kon.whenT c34 h
   repeat (first | replace h := Kon.bind h | replace h := Kon.retE h | replace h := Kon.okE h)
   have v17 := Inv.next v w (GS c34)
   refine qs 7 ?_
   refine Gl (Gk HQ HQ (pof_c w (by decide) v17 memA memA (h.go (pof_g w v17 (by decide)).go (fun x36 s18 v18 l18 e18 h a18 k18 c18 => ?_) (fun i e hx => Gm (Gh (Gx (Gh (Gj (by repeat (first | exact Ga _ _ | exact Gc (fun x hx => by repeat (first | exact hx | refine List.mem_cons_of_mem _ ?_)) | refine Ge Gf ?_)) (hx)))))))))
   repeat (first | replace h := Kon.bind h | replace h := Kon.retE h | replace h := Kon.okE h)
   refine qs 6 ?_
   refine Gl (Gk HQ HQ (punless_c w rc hr v18 memA memA (h.go (punless_g hr v18 _).go (fun x38 s19 v19 l19 e19 h a19 k19 c19 => ?_) (fun i e hx => Gm (Gh (Gx (Gh (Gj (by repeat (first | exact Ga _ _ | exact Gc (fun x hx => by repeat (first | exact hx | refine List.mem_cons_of_mem _ ?_)) | refine Ge Gf ?_)) (hx)))))))))
   repeat (first | replace h := Kon.bind h | replace h := Kon.retE h | replace h := Kon.okE h)
   refine qs 7 ?_
   refine Gb (Gi HQ HQ (GZ memA v19 ?_))
   refine Gb (Gz HQ HQ HQ HQ HQ HQ (fun b41 => ?_))
   refine Gb (Gi HQ HQ (pis_c (l := [[61]]) memA (by simp) (fun c42 => ?_) (fun c42 => ?_)))
   ·first | replace h := Kon.pifT c42 h | replace h := Kon.iteT c42 h | replace h := Kon.whenT c42 h | skip
    repeat (first | replace h := Kon.bind h | replace h := Kon.retE h | replace h := Kon.okE h)
    refine qs 4 ?_
    have hlt := (v19).lt
    refine qs 2 ?_
    refine Gb (Gu HQ HQ ?_)
    refine qs 3 ?_
    refine Gb (Gu HQ HQ ?_)
    refine qs 5 ?_
    have v20 := Inv.next v19 w (GS c42)
    refine qs 6 ?_
    refine Gl (Gk HQ HQ (rc.expr 1 (by decide) v20 memA memA (h.go (hr.expr _ _ v20).go (fun x55 s21 v21 l21 e21 h a21 k21 c21 => ?_) (fun i e hx => Gm (Gh (Gh (Gx (Gh (Gj (by repeat (first | exact Ga _ _ | exact Gc (fun x hx => by repeat (first | exact hx | refine List.mem_cons_of_mem _ ?_)) | refine Ge Gf ?_)) (hx))))))))))
    repeat (first | replace h := Kon.bind h | replace h := Kon.retE h | replace h := Kon.okE h)
    refine Gb (Gz HQ HQ HQ HQ HQ HQ (fun b56 => ?_))
    refine Gl (Gk HQ HQ (GG w v21 memA memA memA (h.go (GC v21) (fun x57 s22 v22 l22 e22 h a22 k22 c22 => ?_) (fun i e hx => Gm (Gh (Gh (Gx (Gh (Gj (by repeat (first | exact Ga _ _ | exact Gc (fun x hx => by repeat (first | exact hx | refine List.mem_cons_of_mem _ ?_)) | refine Ge Gf ?_)) (hx))))))))))
    repeat (first | replace h := Kon.bind h | replace h := Kon.retE h | replace h := Kon.okE h)
    refine qs 7 ?_
    exact Gw (Gg (L' := PL T b tv s22 a22 k22 c22 L) (F' := F) Tryz.results29 rfl (by repeat (first | exact Ga _ _ | exact Gc (fun x hx => by repeat (first | exact hx | refine List.mem_cons_of_mem _ ?_)) | refine Ge Gs ?_)) (h _ _ _))
   first | replace h := Kon.pifF c42 h | replace h := Kon.iteF (nott c42) h | replace h := Kon.whenF c42 h | skip
   repeat (first | replace h := Kon.bind h | replace h := Kon.retE h | replace h := Kon.okE h)
   refine qs 12 ?_
   refine Gl (Gk HQ HQ (pnone_c w v19 memA memA (h.go (pnone_g v19).go (fun x63 s23 v23 l23 e23 h a23 k23 c23 => ?_) (fun i e hx => Gm (Gh (Gx (Gh (Gj (by repeat (first | exact Ga _ _ | exact Gc (fun x hx => by repeat (first | exact hx | refine List.mem_cons_of_mem _ ?_)) | refine Ge Gf ?_)) (hx)))))))))
   repeat (first | replace h := Kon.bind h | replace h := Kon.retE h | replace h := Kon.okE h)
   refine Gb (Gz HQ HQ HQ HQ HQ HQ (fun b64 => ?_))
   refine Gl (Gk HQ HQ (GG w v23 memA memA memA (h.go (GC v23) (fun x65 s24 v24 l24 e24 h a24 k24 c24 => ?_) (fun i e hx => Gm (Gh (Gx (Gh (Gj (by repeat (first | exact Ga _ _ | exact Gc (fun x hx => by repeat (first | exact hx | refine List.mem_cons_of_mem _ ?_)) | refine Ge Gf ?_)) (hx)))))))))
   repeat (first | replace h := Kon.bind h | replace h := Kon.retE h | replace h := Kon.okE h)
   refine qs 6 ?_
   exact Gw (Gg (L' := PL T b tv s24 a24 k24 c24 L) (F' := F) Tryz.results29 rfl (by repeat (first | exact Ga _ _ | exact Gc (fun x hx => by repeat (first | exact hx | refine List.mem_cons_of_mem _ ?_)) | refine Ge Gs ?_)) (h _ _ _))
  replace h := Kon.whenF c34 h
  repeat (first | replace h := Kon.bind h | replace h := Kon.retE h | replace h := Kon.okE h)
  refine qs 7 ?_
  refine Gb (Gi HQ HQ (Hp w memA v (fun c68 => ?_) (fun c68 => ?_)))
  ·replace h := Kon.whenT c68 h
   repeat (first | replace h := Kon.bind h | replace h := Kon.retE h | replace h := Kon.okE h)
   have v25 := Inv.next v w (GS c68)
   refine qs 7 ?_
   refine Gl (Gk HQ HQ (pof_c w (by decide) v25 memA memA (h.go (pof_g w v25 (by decide)).go (fun x70 s26 v26 l26 e26 h a26 k26 c26 => ?_) (fun i e hx => Gm (Gh (Gx (Gh (Gj (by repeat (first | exact Ga _ _ | exact Gc (fun x hx => by repeat (first | exact hx | refine List.mem_cons_of_mem _ ?_)) | refine Ge Gf ?_)) (hx)))))))))
   repeat (first | replace h := Kon.bind h | replace h := Kon.retE h | replace h := Kon.okE h)
   refine qs 6 ?_
   refine Gb (Gi HQ HQ (pbehind_c w memA v26 2 (by decide) ?_))
   refine Gb (Hh HQ (fun b9 => GT Hi ?_))
   refine qs 6 ?_
   refine Gb (Gi HQ HQ (GZ memA v26 ?_))
   refine Gb (Gz HQ HQ HQ HQ HQ HQ (fun b75 => ?_))
   refine Gb (Gi HQ HQ (pis_c (l := [[91]]) memA (by simp) (fun c76 => ?_) (fun c76 => ?_)))
   ·first | replace h := Kon.pifT c76 h | replace h := Kon.iteT c76 h | replace h := Kon.whenT c76 h | skip
    repeat (first | replace h := Kon.bind h | replace h := Kon.retE h | replace h := Kon.okE h)
    refine qs 2 ?_
    refine Gr HQ HQ (Gi HQ HQ (pbehind_c w memA v26 1 (by decide) ?_))
    refine Gr HQ HQ (Ha HQ HQ HQ (Gr HQ HQ (GA HQ HQ HQ (fun c81 => ?_) (fun c81 => ?_))))
    ·first | replace h := Kon.iteT c81 h | replace h := Kon.iteF c81 h | skip
     repeat (first | replace h := Kon.bind h | replace h := Kon.retE h | replace h := Kon.okE h)
     refine qs 4 ?_
     refine Gr HQ HQ (GA HQ HQ HQ (fun c86 => ?_) (fun c86 => ?_))
     ·first | replace h := Kon.iteT c86 h | replace h := Kon.iteF c86 h | skip
      repeat (first | replace h := Kon.bind h | replace h := Kon.retE h | replace h := Kon.okE h)
      refine qs 10 ?_
      rw [phas_t0 c76 c81 c86] at h
      refine qs 3 ?_
      refine Gl (Gk HQ HQ (ptypes_c w rc hr _ v26 memA memA (h.go (ptypes_g w hr v26 _).go (fun x95 s27 v27 l27 e27 h a27 k27 c27 => ?_) (fun i e hx => Gm (Gh (Gx (Gh (Gj (by repeat (first | exact Ga _ _ | exact Gc (fun x hx => by repeat (first | exact hx | refine List.mem_cons_of_mem _ ?_)) | refine Ge Gf ?_)) (hx)))))))))
      repeat (first | replace h := Kon.bind h | replace h := Kon.retE h | replace h := Kon.okE h)
      refine qs 10 ?_
      refine Gl (Gk HQ HQ (rc.typ v27 memA memA (h.go (hr.typ _ v27).go (fun x101 s28 v28 l28 e28 h a28 k28 c28 => ?_) (fun i e hx => Gm (Gh (Gx (Gh (Gj (by repeat (first | exact Ga _ _ | exact Gc (fun x hx => by repeat (first | exact hx | refine List.mem_cons_of_mem _ ?_)) | refine Ge Gf ?_)) (hx)))))))))
      repeat (first | replace h := Kon.bind h | replace h := Kon.retE h | replace h := Kon.okE h)
      refine Gb (Gz HQ HQ HQ HQ HQ HQ (fun b102 => ?_))
      refine Gl (Gk HQ HQ (GG w v28 memA memA memA (h.go (GC v28) (fun x103 s29 v29 l29 e29 h a29 k29 c29 => ?_) (fun i e hx => Gm (Gh (Gx (Gh (Gj (by repeat (first | exact Ga _ _ | exact Gc (fun x hx => by repeat (first | exact hx | refine List.mem_cons_of_mem _ ?_)) | refine Ge Gf ?_)) (hx)))))))))
      repeat (first | replace h := Kon.bind h | replace h := Kon.retE h | replace h := Kon.okE h)
      refine qs 6 ?_
      exact Gw (Gg (L' := PL T b tv s29 a29 k29 c29 L) (F' := F) Tryz.results29 rfl (by repeat (first | exact Ga _ _ | exact Gc (fun x hx => by repeat (first | exact hx | refine List.mem_cons_of_mem _ ?_)) | refine Ge Gs ?_)) (h _ _ _))
     first | replace h := Kon.iteT c86 h | replace h := Kon.iteF c86 h | skip
     repeat (first | replace h := Kon.bind h | replace h := Kon.retE h | replace h := Kon.okE h)
     refine qs 2 ?_
     refine Gr HQ HQ (Gz HQ HQ HQ HQ HQ HQ (fun b89 => ?_))
     refine Gr HQ HQ (Gi HQ HQ (pis_c (l := [[126], [105, 110, 116, 101, 114, 102, 97, 99, 101]]) memA (by simp) (fun c90 => ?_) (fun c90 => ?_)))
     ·first | replace h := Kon.pifT c90 h | replace h := Kon.iteT c90 h | replace h := Kon.whenT c90 h | skip
      repeat (first | replace h := Kon.bind h | replace h := Kon.retE h | replace h := Kon.okE h)
      refine qs 6 ?_
      rw [phas_t1 c76 c81 c90] at h
      refine qs 3 ?_
      refine Gl (Gk HQ HQ (ptypes_c w rc hr _ v26 memA memA (h.go (ptypes_g w hr v26 _).go (fun x95 s30 v30 l30 e30 h a30 k30 c30 => ?_) (fun i e hx => Gm (Gh (Gx (Gh (Gj (by repeat (first | exact Ga _ _ | exact Gc (fun x hx => by repeat (first | exact hx | refine List.mem_cons_of_mem _ ?_)) | refine Ge Gf ?_)) (hx)))))))))
      repeat (first | replace h := Kon.bind h | replace h := Kon.retE h | replace h := Kon.okE h)
      refine qs 10 ?_
      refine Gl (Gk HQ HQ (rc.typ v30 memA memA (h.go (hr.typ _ v30).go (fun x101 s31 v31 l31 e31 h a31 k31 c31 => ?_) (fun i e hx => Gm (Gh (Gx (Gh (Gj (by repeat (first | exact Ga _ _ | exact Gc (fun x hx => by repeat (first | exact hx | refine List.mem_cons_of_mem _ ?_)) | refine Ge Gf ?_)) (hx)))))))))
      repeat (first | replace h := Kon.bind h | replace h := Kon.retE h | replace h := Kon.okE h)
      refine Gb (Gz HQ HQ HQ HQ HQ HQ (fun b102 => ?_))
      refine Gl (Gk HQ HQ (GG w v31 memA memA memA (h.go (GC v31) (fun x103 s32 v32 l32 e32 h a32 k32 c32 => ?_) (fun i e hx => Gm (Gh (Gx (Gh (Gj (by repeat (first | exact Ga _ _ | exact Gc (fun x hx => by repeat (first | exact hx | refine List.mem_cons_of_mem _ ?_)) | refine Ge Gf ?_)) (hx)))))))))
      repeat (first | replace h := Kon.bind h | replace h := Kon.retE h | replace h := Kon.okE h)
      refine qs 6 ?_
      exact Gw (Gg (L' := PL T b tv s32 a32 k32 c32 L) (F' := F) Tryz.results29 rfl (by repeat (first | exact Ga _ _ | exact Gc (fun x hx => by repeat (first | exact hx | refine List.mem_cons_of_mem _ ?_)) | refine Ge Gs ?_)) (h _ _ _))
     first | replace h := Kon.pifF c90 h | replace h := Kon.iteF (nott c90) h | replace h := Kon.whenF c90 h | skip
     repeat (first | replace h := Kon.bind h | replace h := Kon.retE h | replace h := Kon.okE h)
     refine qs 6 ?_
     rw [phas_f2 c86 c90] at h
     refine qs 3 ?_
     refine Gl (Gk HQ HQ (ptypes_c w rc hr _ v26 memA memA (h.go (ptypes_g w hr v26 _).go (fun x95 s33 v33 l33 e33 h a33 k33 c33 => ?_) (fun i e hx => Gm (Gh (Gx (Gh (Gj (by repeat (first | exact Ga _ _ | exact Gc (fun x hx => by repeat (first | exact hx | refine List.mem_cons_of_mem _ ?_)) | refine Ge Gf ?_)) (hx)))))))))
     repeat (first | replace h := Kon.bind h | replace h := Kon.retE h | replace h := Kon.okE h)
     refine qs 10 ?_
     refine Gl (Gk HQ HQ (rc.typ v33 memA memA (h.go (hr.typ _ v33).go (fun x101 s34 v34 l34 e34 h a34 k34 c34 => ?_) (fun i e hx => Gm (Gh (Gx (Gh (Gj (by repeat (first | exact Ga _ _ | exact Gc (fun x hx => by repeat (first | exact hx | refine List.mem_cons_of_mem _ ?_)) | refine Ge Gf ?_)) (hx)))))))))
     repeat (first | replace h := Kon.bind h | replace h := Kon.retE h | replace h := Kon.okE h)
     refine Gb (Gz HQ HQ HQ HQ HQ HQ (fun b102 => ?_))
     refine Gl (Gk HQ HQ (GG w v34 memA memA memA (h.go (GC v34) (fun x103 s35 v35 l35 e35 h a35 k35 c35 => ?_) (fun i e hx => Gm (Gh (Gx (Gh (Gj (by repeat (first | exact Ga _ _ | exact Gc (fun x hx => by repeat (first | exact hx | refine List.mem_cons_of_mem _ ?_)) | refine Ge Gf ?_)) (hx)))))))))
     repeat (first | replace h := Kon.bind h | replace h := Kon.retE h | replace h := Kon.okE h)
     refine qs 6 ?_
     exact Gw (Gg (L' := PL T b tv s35 a35 k35 c35 L) (F' := F) Tryz.results29 rfl (by repeat (first | exact Ga _ _ | exact Gc (fun x hx => by repeat (first | exact hx | refine List.mem_cons_of_mem _ ?_)) | refine Ge Gs ?_)) (h _ _ _))
    first | replace h := Kon.iteT c81 h | replace h := Kon.iteF c81 h | skip
    repeat (first | replace h := Kon.bind h | replace h := Kon.retE h | replace h := Kon.okE h)
    refine qs 15 ?_
    rw [phas_f1 c81] at h
    refine qs 3 ?_
    refine Gl (Gk HQ HQ (ptypes_c w rc hr _ v26 memA memA (h.go (ptypes_g w hr v26 _).go (fun x95 s36 v36 l36 e36 h a36 k36 c36 => ?_) (fun i e hx => Gm (Gh (Gx (Gh (Gj (by repeat (first | exact Ga _ _ | exact Gc (fun x hx => by repeat (first | exact hx | refine List.mem_cons_of_mem _ ?_)) | refine Ge Gf ?_)) (hx)))))))))
    repeat (first | replace h := Kon.bind h | replace h := Kon.retE h | replace h := Kon.okE h)
    refine qs 10 ?_
    refine Gl (Gk HQ HQ (rc.typ v36 memA memA (h.go (hr.typ _ v36).go (fun x101 s37 v37 l37 e37 h a37 k37 c37 => ?_) (fun i e hx => Gm (Gh (Gx (Gh (Gj (by repeat (first | exact Ga _ _ | exact Gc (fun x hx => by repeat (first | exact hx | refine List.mem_cons_of_mem _ ?_)) | refine Ge Gf ?_)) (hx)))))))))
    repeat (first | replace h := Kon.bind h | replace h := Kon.retE h | replace h := Kon.okE h)
    refine Gb (Gz HQ HQ HQ HQ HQ HQ (fun b102 => ?_))
    refine Gl (Gk HQ HQ (GG w v37 memA memA memA (h.go (GC v37) (fun x103 s38 v38 l38 e38 h a38 k38 c38 => ?_) (fun i e hx => Gm (Gh (Gx (Gh (Gj (by repeat (first | exact Ga _ _ | exact Gc (fun x hx => by repeat (first | exact hx | refine List.mem_cons_of_mem _ ?_)) | refine Ge Gf ?_)) (hx)))))))))
    repeat (first | replace h := Kon.bind h | replace h := Kon.retE h | replace h := Kon.okE h)
    refine qs 6 ?_
    exact Gw (Gg (L' := PL T b tv s38 a38 k38 c38 L) (F' := F) Tryz.results29 rfl (by repeat (first | exact Ga _ _ | exact Gc (fun x hx => by repeat (first | exact hx | refine List.mem_cons_of_mem _ ?_)) | refine Ge Gs ?_)) (h _ _ _))
   first | replace h := Kon.pifF c76 h | replace h := Kon.iteF (nott c76) h | replace h := Kon.whenF c76 h | skip
   repeat (first | replace h := Kon.bind h | replace h := Kon.retE h | replace h := Kon.okE h)
   refine qs 20 ?_
   rw [phas_f0 c76] at h
   refine qs 3 ?_
   refine Gl (Gk HQ HQ (ptypes_c w rc hr _ v26 memA memA (h.go (ptypes_g w hr v26 _).go (fun x95 s39 v39 l39 e39 h a39 k39 c39 => ?_) (fun i e hx => Gm (Gh (Gx (Gh (Gj (by repeat (first | exact Ga _ _ | exact Gc (fun x hx => by repeat (first | exact hx | refine List.mem_cons_of_mem _ ?_)) | refine Ge Gf ?_)) (hx)))))))))
   repeat (first | replace h := Kon.bind h | replace h := Kon.retE h | replace h := Kon.okE h)
   refine qs 10 ?_
   refine Gl (Gk HQ HQ (rc.typ v39 memA memA (h.go (hr.typ _ v39).go (fun x101 s40 v40 l40 e40 h a40 k40 c40 => ?_) (fun i e hx => Gm (Gh (Gx (Gh (Gj (by repeat (first | exact Ga _ _ | exact Gc (fun x hx => by repeat (first | exact hx | refine List.mem_cons_of_mem _ ?_)) | refine Ge Gf ?_)) (hx)))))))))
   repeat (first | replace h := Kon.bind h | replace h := Kon.retE h | replace h := Kon.okE h)
   refine Gb (Gz HQ HQ HQ HQ HQ HQ (fun b102 => ?_))
   refine Gl (Gk HQ HQ (GG w v40 memA memA memA (h.go (GC v40) (fun x103 s41 v41 l41 e41 h a41 k41 c41 => ?_) (fun i e hx => Gm (Gh (Gx (Gh (Gj (by repeat (first | exact Ga _ _ | exact Gc (fun x hx => by repeat (first | exact hx | refine List.mem_cons_of_mem _ ?_)) | refine Ge Gf ?_)) (hx)))))))))
   repeat (first | replace h := Kon.bind h | replace h := Kon.retE h | replace h := Kon.okE h)
   refine qs 6 ?_
   exact Gw (Gg (L' := PL T b tv s41 a41 k41 c41 L) (F' := F) Tryz.results29 rfl (by repeat (first | exact Ga _ _ | exact Gc (fun x hx => by repeat (first | exact hx | refine List.mem_cons_of_mem _ ?_)) | refine Ge Gs ?_)) (h _ _ _))
  replace h := Kon.whenF c68 h
  repeat (first | replace h := Kon.bind h | replace h := Kon.retE h | replace h := Kon.okE h)
  refine qs 7 ?_
  refine Gb (Gi HQ HQ (Hp w memA v (fun c106 => ?_) (fun c106 => ?_)))
  ·replace h := Kon.whenT c106 h
   repeat (first | replace h := Kon.bind h | replace h := Kon.retE h | replace h := Kon.okE h)
   have v42 := Inv.next v w (GS c106)
   refine qs 8 ?_
   refine Gl (Gk HQ HQ (pfunction_c w rc hr _ v42 memA memA (h.go (pfunction_g w hr v42 _).go (fun x109 s43 v43 l43 e43 h a43 k43 c43 => ?_) (fun i e hx => Gm (Gh (Gx (Gh (Gj (by repeat (first | exact Ga _ _ | exact Gc (fun x hx => by repeat (first | exact hx | refine List.mem_cons_of_mem _ ?_)) | refine Ge Gf ?_)) (hx)))))))))
   repeat (first | replace h := Kon.bind h | replace h := Kon.retE h | replace h := Kon.okE h)
   refine qs 6 ?_
   exact Gw (Gg (L' := PL T b tv s43 a43 k43 c43 L) (F' := F) Tryz.results29 rfl (by repeat (first | exact Ga _ _ | exact Gc (fun x hx => by repeat (first | exact hx | refine List.mem_cons_of_mem _ ?_)) | refine Ge Gs ?_)) (h _ _ _))
  replace h := Kon.whenF c106 h
  repeat (first | replace h := Kon.bind h | replace h := Kon.retE h | replace h := Kon.okE h)
  refine qs 10 ?_
  refine Gl (Gk HQ HQ (pfail_c memA v 5 (Gm (Gh (Gj (by repeat (first | exact Ga _ _ | exact Gc (fun x hx => by repeat (first | exact hx | refine List.mem_cons_of_mem _ ?_)) | refine Ge Gf ?_)) (h))))))
theorem pfile_c (w : Wf (T.map Tok.tk)) (rc : RecC W0 T b tv d r) (hr : RecG (T.map Tok.tk) d r) (v : Inv (T.map Tok.tk) d s) : PC W0 T b tv L 13 #[pt b] s (pfile (T.map Tok.tk) r) vInt := by
  intro F R X a k c mT mN h
  have hw := w.len
  have hw2 : T.length ≤ 1500 := by simpa using hw
  unfold pfile at h
  replace h := Kon.bind h
  refine ACallsX.body Tryz.func13 HQ Tryz.ntmps13 HQ ?_
  refine qs 8 ?_
  refine Gb (Gi HQ HQ (GZ memA v ?_))
  refine Gb (Ha HQ HQ HQ ?_)
  refine qs 6 ?_
  refine Gl (Gk HQ HQ (HE w v memA memA (h.go (HA w v).go (fun x11 s11 v11 l11 e11 h a11 k11 c11 => ?_) (fun i e hx => Gm (Gh (Gj (by repeat (first | exact Ga _ _ | exact Gc (fun x hx => by repeat (first | exact hx | refine List.mem_cons_of_mem _ ?_)) | refine Ge Gf ?_)) (hx)))))))
  repeat (first | replace h := Kon.bind h | replace h := Kon.retE h | replace h := Kon.okE h)
  refine qs 5 ?_
  refine Gl (Gk HQ HQ (pof_c w (by decide) v11 memA memA (h.go (pof_g w v11 (by decide)).go (fun x13 s12 v12 l12 e12 h a12 k12 c12 => ?_) (fun i e hx => Gm (Gh (Gj (by repeat (first | exact Ga _ _ | exact Gc (fun x hx => by repeat (first | exact hx | refine List.mem_cons_of_mem _ ?_)) | refine Ge Gf ?_)) (hx)))))))
  repeat (first | replace h := Kon.bind h | replace h := Kon.retE h | replace h := Kon.okE h)
  refine qs 6 ?_
  refine Gl (Gk HQ HQ (psemi_c w v12 memA memA (h.go (psemi_g w v12).go (fun x15 s13 v13 l13 e13 h a13 k13 c13 => ?_) (fun i e hx => Gm (Gh (Gj (by repeat (first | exact Ga _ _ | exact Gc (fun x hx => by repeat (first | exact hx | refine List.mem_cons_of_mem _ ?_)) | refine Ge Gf ?_)) (hx)))))))
  repeat (first | replace h := Kon.bind h | replace h := Kon.retE h | replace h := Kon.okE h)
  refine qs 9 ?_
  refine Hj (fun (q : (PS × List Int) × (Option Addr × Nat × Nat) × (Option Addr × Nat × Nat) × Nat) => Inv (T.map Tok.tk) d q.1.1 ∧ (T.map Tok.tk).length ≤ q.2.2.2 + q.1.1.i ∧ q.1.2.length ≤ q.1.1.i ∧ Kon (pimportsF (T.map Tok.tk) q.2.2.2 q.1.2 q.1.1) (fun l s' => Kon ((pdeclsF (T.map Tok.tk) r (T.map Tok.tk).length l).bind (fun l => pnode 32 x13 s.i l) s') (fun x s' => ∀ a k c, R (vInt x) (PL T b tv s' a k c L) F) (fun i e => X (wrong T i e) L F)) (fun i e => X (wrong T i e) L F))
   (fun q => [(0, pt b), (3, .int .i64 (posOf T s.i : Int)), (4, S x13), (5, .slice q.2.2.1.1 q.2.2.1.2.1 q.2.2.1.2.2)]) (fun q => PL T b tv q.1.1 q.2.1.1 q.2.1.2.1 q.2.1.2.2 (Res.own (.slice q.2.2.1.1 q.2.2.1.2.1 q.2.2.1.2.2) 3 1 (q.1.2.map eInt) :: L)) (fun _ => F) (fun q => q.2.2.2)
   ((s13, []), (a13, k13, c13), (none, 0, 0), (T.map Tok.tk).length) ⟨v13, Nat.le_add_right _ _, Nat.zero_le _, h⟩ srA (Sub.ownNil.trans Hi) ?_
  clear h
  rintro ⟨⟨s1, out⟩, ⟨a1, k1, c1⟩, ⟨aA, kA, cA⟩, f1⟩ ⟨v1, hf1, ho1, h⟩
  simp only at v1 hf1 ho1 h ⊢
  have hi1 := v1.i
  rcases f1 with _ | f1
  · exfalso; omega
  unfold pimportsF at h
  refine qs 4 ?_
  refine Gb (Gi HQ HQ (GZ memA v1 ?_))
  refine Gb (Gz HQ HQ HQ HQ HQ HQ (fun b18 => ?_))
  refine Gb (Gi HQ HQ (pis_c (l := [[105, 109, 112, 111, 114, 116]]) memA (by simp) (fun c19 => ?_) (fun c19 => ?_)))
  ·first | replace h := Kon.pifT c19 h | replace h := Kon.iteT c19 h | replace h := Kon.whenT c19 h | skip
   repeat (first | replace h := Kon.bind h | replace h := Kon.retE h | replace h := Kon.okE h)
   refine qs 9 ?_
   refine Gb (Gi HQ HQ (GZ memA v1 ?_))
   refine Gb (Ha HQ HQ HQ ?_)
   refine qs 4 ?_
   have hlt := (v1).lt
   refine qs 2 ?_
   refine Gb (Gu HQ HQ ?_)
   refine qs 3 ?_
   refine Gb (Gu HQ HQ ?_)
   refine qs 5 ?_
   have v14 := Inv.next v1 w (GS c19)
   have hn1 : s1.next.i = s1.i + 1 := rfl
   refine qs 4 ?_
   refine Gl (Gk HQ HQ (pof_c w (by decide) v14 memA memA (h.go (pof_g w v14 (by decide)).go (fun x33 s15 v15 l15 e15 h a15 k15 c15 => ?_) (fun i e hx => Gm (Gh (Gx (Gh (Gx (Gh (Gj (by repeat (first | exact Ga _ _ | exact Gc (fun x hx => by repeat (first | exact hx | refine List.mem_cons_of_mem _ ?_)) | refine Ge Gf ?_)) (hx)))))))))))
   repeat (first | replace h := Kon.bind h | replace h := Kon.retE h | replace h := Kon.okE h)
   refine qs 1 ?_
   refine Gl (Gk HQ HQ (GG w v15 memA memA memA (h.go (GC v15) (fun x35 s16 v16 l16 e16 h a16 k16 c16 => ?_) (fun i e hx => Gm (Gh (Gx (Gh (Gx (Gh (Gj (by repeat (first | exact Ga _ _ | exact Gc (fun x hx => by repeat (first | exact hx | refine List.mem_cons_of_mem _ ?_)) | refine Ge Gf ?_)) (hx)))))))))))
   repeat (first | replace h := Kon.bind h | replace h := Kon.retE h | replace h := Kon.okE h)
   refine Gb (GN HQ HQ HQ HQ HQ (fun b36 => ?_))
   refine Gb (Ho (enc := eInt) (lst := out) [x35] HQ HQ HQ (by repeat (first | exact has0 | apply hasS)) (.val .nil) HQ HQ (fun _ => rfl) (by unfold maxLen; first | omega | (simp <;> omega)) (by first | omega | (simp <;> omega)) (fun a37 k37 c37 => ?_))
   refine qs 5 ?_
   refine Gl (Gk HQ HQ (psemi_c w v16 memA memA (h.go (psemi_g w v16).go (fun x39 s17 v17 l17 e17 h a17 k17 c17 => ?_) (fun i e hx => Gm (Gx (Gh (Gx (Gh (Gj (by repeat (first | exact Ga _ _ | exact Gc (fun x hx => by repeat (first | exact hx | refine List.mem_cons_of_mem _ ?_)) | refine Ge Gf ?_)) (hx))))))))))
   repeat (first | replace h := Kon.bind h | replace h := Kon.retE h | replace h := Kon.okE h)
   refine qs 2 ?_
   refine GX ((s17, out ++ [x35]), (a17, k17, c17), (a37, k37, c37), f1) ⟨v17, (by simp only; omega), (by simp only [List.length_append, List.length_cons, List.length_nil]; omega), h⟩ (by simp only; omega) srA (by simp only [List.map_append]; exact subF)
  first | replace h := Kon.pifF c19 h | replace h := Kon.iteF (nott c19) h | replace h := Kon.whenF c19 h | skip
  repeat (first | replace h := Kon.bind h | replace h := Kon.retE h | replace h := Kon.okE h)
  refine qs 10 ?_
  refine Hj (fun (q : (PS × List Int) × (Option Addr × Nat × Nat) × (Option Addr × Nat × Nat) × Nat) => Inv (T.map Tok.tk) d q.1.1 ∧ (T.map Tok.tk).length ≤ q.2.2.2 + q.1.1.i ∧ q.1.2.length ≤ q.1.1.i ∧ Kon (pdeclsF (T.map Tok.tk) r q.2.2.2 q.1.2 q.1.1) (fun l s' => Kon (pnode 32 x13 s.i l s') (fun x s' => ∀ a k c, R (vInt x) (PL T b tv s' a k c L) F) (fun i e => X (wrong T i e) L F)) (fun i e => X (wrong T i e) L F))
   (fun q => [(0, pt b), (3, .int .i64 (posOf T s.i : Int)), (4, S x13), (5, .slice q.2.2.1.1 q.2.2.1.2.1 q.2.2.1.2.2)]) (fun q => PL T b tv q.1.1 q.2.1.1 q.2.1.2.1 q.2.1.2.2 (Res.own (.slice q.2.2.1.1 q.2.2.1.2.1 q.2.2.1.2.2) 3 1 (q.1.2.map eInt) :: L)) (fun _ => F) (fun q => q.2.2.2)
   ((s1, out), (a1, k1, c1), (aA, kA, cA), (T.map Tok.tk).length) ⟨v1, Nat.le_add_right _ _, ho1, h⟩ srA (by simp only; exact subF) ?_
  clear h
  rintro ⟨⟨s2, out⟩, ⟨a2, k2, c2⟩, ⟨aA, kA, cA⟩, f1⟩ ⟨v2, hf1, ho1, h⟩
  simp only at v2 hf1 ho1 h ⊢
  have hi1 := v2.i
  rcases f1 with _ | f1
  · exfalso; omega
  unfold pdeclsF at h
  refine qs 4 ?_
  refine Gb (Gi HQ HQ (GZ memA v2 ?_))
  refine Gb (Ha HQ HQ HQ (Gb (Hw HQ HQ HQ (fun c43 => ?_) (fun c43 => ?_))))
  ·first | replace h := Kon.iteT c43 h | replace h := Kon.iteF c43 h | skip
   repeat (first | replace h := Kon.bind h | replace h := Kon.retE h | replace h := Kon.okE h)
   refine qs 10 ?_
   refine Gl (Gk HQ HQ (pdecl_c w rc hr v2 memA memA (h.go (pdecl_g w hr v2).go (fun x46 s18 v18 l18 e18 h a18 k18 c18 => ?_) (fun i e hx => Gm (Gh (Gx (Gh (Gx (Gh (Gj (by repeat (first | exact Ga _ _ | exact Gc (fun x hx => by repeat (first | exact hx | refine List.mem_cons_of_mem _ ?_)) | refine Ge Gf ?_)) (hx)))))))))))
   repeat (first | replace h := Kon.bind h | replace h := Kon.retE h | replace h := Kon.okE h)
   refine Gb (GN HQ HQ HQ HQ HQ (fun b47 => ?_))
   refine Gb (Ho (enc := eInt) (lst := out) [x46] HQ HQ HQ (by repeat (first | exact has0 | apply hasS)) (.val .nil) HQ HQ (fun _ => rfl) (by unfold maxLen; first | omega | (simp <;> omega)) (by first | omega | (simp <;> omega)) (fun a48 k48 c48 => ?_))
   refine qs 5 ?_
   refine Gl (Gk HQ HQ (psemi_c w v18 memA memA (h.go (psemi_g w v18).go (fun x50 s19 v19 l19 e19 h a19 k19 c19 => ?_) (fun i e hx => Gm (Gx (Gh (Gx (Gh (Gj (by repeat (first | exact Ga _ _ | exact Gc (fun x hx => by repeat (first | exact hx | refine List.mem_cons_of_mem _ ?_)) | refine Ge Gf ?_)) (hx))))))))))
   repeat (first | replace h := Kon.bind h | replace h := Kon.retE h | replace h := Kon.okE h)
   refine qs 2 ?_
   refine GX ((s19, out ++ [x46]), (a19, k19, c19), (a48, k48, c48), f1) ⟨v19, (by simp only; omega), (by simp only [List.length_append, List.length_cons, List.length_nil]; omega), h⟩ (by simp only; omega) srA (by simp only [List.map_append]; exact subF)
  first | replace h := Kon.iteT c43 h | replace h := Kon.iteF c43 h | skip
  repeat (first | replace h := Kon.bind h | replace h := Kon.retE h | replace h := Kon.okE h)
  refine qs 10 ?_
  refine GT (He (i := 2) HQ) ?_
  refine Gb (AO.move HQ HQ ?_)
  refine qs 3 ?_
  refine Gl (Gk HQ HQ (GG w v2 memA memA memA (h.go (GC v2) (fun x55 s20 v20 l20 e20 h a20 k20 c20 => ?_) (fun i e hx => Gm (Gh (Gj (by repeat (first | exact Ga _ _ | exact Gc (fun x hx => by repeat (first | exact hx | refine List.mem_cons_of_mem _ ?_)) | refine Ge Gf ?_)) (hx)))))))
  repeat (first | replace h := Kon.bind h | replace h := Kon.retE h | replace h := Kon.okE h)
  refine qs 4 ?_
  exact Gw (Gg (L' := PL T b tv s20 a20 k20 c20 L) (F' := F) Tryz.results13 rfl (by repeat (first | exact Ga _ _ | exact Gc (fun x hx => by repeat (first | exact hx | refine List.mem_cons_of_mem _ ?_)) | refine Ge Gs ?_)) (h _ _ _))
end
end Go.Sy
namespace Go.Sy
open Go Go.Proofs Go.RowKit
theorem dec_at (s : Bs) (p : Nat) : Utf8.decode ⟨s.toArray⟩ p = decS (s.drop p) := by
  have hg : ∀ j, (⟨s.toArray⟩ : ByteArray).get! (p + j) = (s.drop p).getD j 0 := fun j => by
    rw [List.getD_eq_getElem?_getD, List.getElem?_drop]
    show (s.toArray)[p + j]! = _
    simp only [List.getElem!_toArray, List.getElem!_eq_getElem?_getD]
    rfl
  have h0 : (⟨s.toArray⟩ : ByteArray).get! p = (s.drop p).getD 0 0 := hg 0
  rw [Lib.decode_at, hg 1, hg 2, hg 3, h0, S_size]
  unfold decS
  rw [List.length_drop]
section
variable {s : Bs} {f pos : Nat} {out : List Tok}
theorem scanF_end (hs : s = []) : scanF (f + 1) s pos out = (if 1500 < (closeB out pos).length then .error (0, 7) else .ok (closeB out pos)) := by rw [scanF, if_pos hs]
theorem scanF_err1 (hs : s ≠ []) (h : skippedB s = none) : scanF (f + 1) s pos out = .error (pos, 5) := by rw [scanF, if_neg hs, h]
theorem scanF_skip (hs : s ≠ []) {n : Nat} {nl : Bool} (h : skippedB s = some (n, nl)) (hn : 0 < n) : scanF (f + 1) s pos out = scanF f (s.drop n) (pos + n) (if nl && endsB out then out ++ [⟨6, [10], pos⟩] else out) := by rw [scanF, if_neg hs, h]; simp only [if_pos hn]
theorem scanF_err2 (hs : s ≠ []) {n : Nat} {nl : Bool} (h : skippedB s = some (n, nl)) (hn : ¬ 0 < n) {e : Int} (ht : tokenB s = .error e) : scanF (f + 1) s pos out = .error (pos, e) := by rw [scanF, if_neg hs, h]; simp only [if_neg hn, ht]
theorem scanF_tok (hs : s ≠ []) {n m : Nat} {nl : Bool} {k : Int} (h : skippedB s = some (n, nl)) (hn : ¬ 0 < n) (ht : tokenB s = .ok (k, m)) : scanF (f + 1) s pos out = scanF f (s.drop m) (pos + m) (out ++ [⟨k, s.take m, pos⟩]) := by rw [scanF, if_neg hs, h]; simp only [if_neg hn, ht]
end
theorem endsB_some {l : List Tok} {t : Tok} (h : l[l.length - 1]? = some t) : endsB l = endsT t.kind t.text := by
  unfold endsB
  rw [List.getLast?_eq_getElem?, h]
attribute [local irreducible] AC AT AO AK AH ACalls ACallsX Sub Res.cells Res.obj Res.nix Res.own Res.map Exit.then Exit.inBlock Exit.noGoto bodyPost Code.wp Code.wpIn WL Next Post PostX Kont
section
variable {W0 : World} {L : List Res} {F : List Fact} {R : Value → List Res → List Fact → Prop}
set_option maxRecDepth 100000
set_option maxHeartbeats 4000000
theorem ends_c (l : List Tok) (hl : l.length ≤ 100000) {a : Option Addr} {k c : Nat} (hT : endsB l = true → R (.bool true) (Res.own (.slice a k c) 39 3 (l.map eTok) :: L) F) (hF : endsB l = false → R (.bool false) (Res.own (.slice a k c) 39 3 (l.map eTok) :: L) F) :
    ACalls Tryz.prog W0 66 #[.slice a k c] (Res.own (.slice a k c) 39 3 (l.map eTok) :: L) F R := by
  have hln : (l.map eTok).length = l.length := List.length_map ..
  refine Gn Tryz.func66 HQ Tryz.ntmps66 HQ ?_
  refine qs 9 ?_
  refine Gb (AO.lenO HQ HQ (i := 0) HQ (fun hk => ?_))
  refine Gb (GA HQ HQ HQ (fun c6 => ?_) (fun c6 => ?_))
  ·refine qs 10 ?_
   exact Gg Tryz.results66 rfl (Ga _ _) (hF (by have : l = [] := List.length_eq_zero_iff.1 HS; subst this; rfl))
  refine qs 9 ?_
  refine Gb (AO.lenO HQ HQ (i := 0) HQ (fun hk9 => ?_))
  refine qs 1 ?_
  have hq : l.length - 1 < l.length := by omega
  have he := endsB_some (List.getElem?_eq_getElem hq)
  refine Gb (AO.indexAddrO (q := l.length - 1) HQ HQ HQ HS (i := 0) HQ HS (fun bb hbb => ?_))
  subst hbb
  refine Gb (AO.loadORA (q := l.length - 1) (vs := [.int .i64 l[l.length - 1].kind, S l[l.length - 1].text, .int .i64 (l[l.length - 1].pos : Int)]) HQ HQ HQ (i := 0) HQ (by rw [List.getElem?_map, List.getElem?_eq_getElem hq]; rfl) HQ ?_)
  refine Gb (Hh HQ (fun b3 => ?_))
  refine qs 13 ?_
  refine Gb (GA HQ HQ HQ (fun c16 => ?_) (fun c16 => ?_))
  ·refine qs 8 ?_
   refine Gb (AO.eqlS HQ HQ HQ (fun c19 => ?_) (fun c19 => ?_))
   ·refine qs 16 ?_
    first | refine Gg (L' := Res.own (.slice _ k c) 39 3 (l.map eTok) :: L) (F' := F) Tryz.results66 HQ Gf (hT ?_) | refine Gg (L' := Res.own (.slice _ k c) 39 3 (l.map eTok) :: L) (F' := F) Tryz.results66 HQ Gf (hF ?_)
    rw [he]
    unfold endsT
    simp [*] <;> omega
   refine qs 3 ?_
   refine Gr HQ HQ (AO.eqlS HQ HQ HQ (fun c23 => ?_) (fun c23 => ?_))
   ·refine qs 12 ?_
    first | refine Gg (L' := Res.own (.slice _ k c) 39 3 (l.map eTok) :: L) (F' := F) Tryz.results66 HQ Gf (hT ?_) | refine Gg (L' := Res.own (.slice _ k c) 39 3 (l.map eTok) :: L) (F' := F) Tryz.results66 HQ Gf (hF ?_)
    rw [he]
    unfold endsT
    simp [*] <;> omega
   refine qs 4 ?_
   refine Gr HQ HQ (AO.eqlS HQ HQ HQ (fun c28 => ?_) (fun c28 => ?_))
   ·refine qs 7 ?_
    first | refine Gg (L' := Res.own (.slice _ k c) 39 3 (l.map eTok) :: L) (F' := F) Tryz.results66 HQ Gf (hT ?_) | refine Gg (L' := Res.own (.slice _ k c) 39 3 (l.map eTok) :: L) (F' := F) Tryz.results66 HQ Gf (hF ?_)
    rw [he]
    unfold endsT
    simp [*] <;> omega
   refine qs 7 ?_
   first | refine Gg (L' := Res.own (.slice _ k c) 39 3 (l.map eTok) :: L) (F' := F) Tryz.results66 HQ Gf (hT ?_) | refine Gg (L' := Res.own (.slice _ k c) 39 3 (l.map eTok) :: L) (F' := F) Tryz.results66 HQ Gf (hF ?_)
   rw [he]
   unfold endsT
   simp [*] <;> omega
  refine qs 6 ?_
  refine Gb (GA HQ HQ HQ (fun c31 => ?_) (fun c31 => ?_))
  ·refine qs 8 ?_
   refine Gb (AO.eqlS HQ HQ HQ (fun c34 => ?_) (fun c34 => ?_))
   ·refine qs 6 ?_
    first | refine Gg (L' := Res.own (.slice _ k c) 39 3 (l.map eTok) :: L) (F' := F) Tryz.results66 HQ Gf (hT ?_) | refine Gg (L' := Res.own (.slice _ k c) 39 3 (l.map eTok) :: L) (F' := F) Tryz.results66 HQ Gf (hF ?_)
    rw [he]
    unfold endsT
    simp [*] <;> omega
   refine qs 6 ?_
   first | refine Gg (L' := Res.own (.slice _ k c) 39 3 (l.map eTok) :: L) (F' := F) Tryz.results66 HQ Gf (hT ?_) | refine Gg (L' := Res.own (.slice _ k c) 39 3 (l.map eTok) :: L) (F' := F) Tryz.results66 HQ Gf (hF ?_)
   rw [he]
   unfold endsT
   simp [*] <;> omega
  refine qs 11 ?_
  refine Gb (AO.geq HQ HQ HQ (fun c37 => ?_) (fun c37 => ?_))
  ·refine qs 3 ?_
   refine Gr HQ HQ (AO.leq HQ HQ HQ (fun c41 => ?_) (fun c41 => ?_))
   ·refine qs 5 ?_
    first | refine Gg (L' := Res.own (.slice _ k c) 39 3 (l.map eTok) :: L) (F' := F) Tryz.results66 HQ Gf (hT ?_) | refine Gg (L' := Res.own (.slice _ k c) 39 3 (l.map eTok) :: L) (F' := F) Tryz.results66 HQ Gf (hF ?_)
    rw [he]
    unfold endsT
    simp [*] <;> omega
   refine qs 5 ?_
   first | refine Gg (L' := Res.own (.slice _ k c) 39 3 (l.map eTok) :: L) (F' := F) Tryz.results66 HQ Gf (hT ?_) | refine Gg (L' := Res.own (.slice _ k c) 39 3 (l.map eTok) :: L) (F' := F) Tryz.results66 HQ Gf (hF ?_)
   rw [he]
   unfold endsT
   simp [*] <;> omega
  refine qs 9 ?_
  first | refine Gg (L' := Res.own (.slice _ k c) 39 3 (l.map eTok) :: L) (F' := F) Tryz.results66 HQ Gf (hT ?_) | refine Gg (L' := Res.own (.slice _ k c) 39 3 (l.map eTok) :: L) (F' := F) Tryz.results66 HQ Gf (hF ?_)
  rw [he]
  unfold endsT
  simp [*] <;> omega
theorem check_c (s : Bs) (h : match checkB s with
    | .ok _ => R (.tuple #[.int .i64 0, .int .i64 0]) L F
    | .error (i, e) => R (.tuple #[.int .i64 (i : Int), .int .i64 e]) L F) : ACalls Tryz.prog W0 64 #[S s] L F R := by
  unfold checkB at h
  refine Gn Tryz.func64 HQ Tryz.ntmps64 HQ ?_
  refine qs 11 ?_
  refine Gb (AO.gtr HQ HQ HQ (fun c8 => ?_) (fun c8 => ?_))
  ·refine qs 4 ?_
   rw [if_pos HS] at h
   refine qs 7 ?_
   exact GW Tryz.results64 rfl rfl (Ga _ _) h
  refine qs 7 ?_
  rw [if_neg HS] at h
  refine qs 2 ?_
  refine Gb (AO.rangeS HQ HQ (fun b10 => ?_))
  refine qs 3 ?_
  refine Hj (fun (q : Nat × Nat) => s.length ≤ q.1 + q.2 ∧ checkF s.length s 0 = checkF q.2 (s.drop q.1) q.1) (fun _ => [(0, S s), (10, pt b10)]) (fun q => Res.obj b10 (iterO s q.1) :: L) (fun _ => F) (fun q => q.2) (0, s.length) ⟨by simp, rfl⟩ srA (Ga _ _) ?_
  rintro ⟨p, f⟩ ⟨hpf, he⟩
  simp only at hpf he ⊢
  refine qs 2 ?_
  refine Gb (AO.nextS (i := 0) HQ HQ HQ (fun hp => ?_) (fun hp => ?_))
  ·have hd := dec_at s p
   have hne : s.drop p ≠ [] := by rw [Ne, List.drop_eq_nil_iff]; omega
   obtain ⟨f, rfl⟩ : ∃ f', f = f' + 1 := ⟨f - 1, by omega⟩
   rw [checkF, if_neg hne] at he
   refine Gb (AO.extract HQ HQ HQ ?_)
   refine qs 19 ?_
   refine Gb (GA HQ HQ HQ (fun c16 => ?_) (fun c16 => ?_))
   ·refine qs 16 ?_
    rw [hd] at c16
    rw [if_pos HS] at he
    rw [he] at h
    exact GW (L' := L) (F' := F) Tryz.results64 rfl rfl (by repeat (first | exact Ga _ _ | exact Gc (fun x hx => by repeat (first | exact hx | refine List.mem_cons_of_mem _ ?_)) | refine Ge Gf ?_)) h
   refine qs 8 ?_
   refine Gb (GA HQ HQ HQ (fun c19 => ?_) (fun c19 => ?_))
   ·refine qs 3 ?_
    refine Gr HQ HQ (AO.sliceSL (i' := p) HQ HQ HQ HQ HS ?_)
    refine Gr HQ HQ (Gi HQ HQ (hasPre_c _ _ ?_))
    refine qs 4 ?_
    refine AC.cond HQ (fun c26 => ?_) (fun c26 => ?_)
    ·refine qs 12 ?_
     rw [hd] at c16 c19
     rw [if_neg HS, if_pos ⟨by omega, by simpa using c26⟩] at he
     rw [he] at h
     exact GW (L' := L) (F' := F) Tryz.results64 rfl rfl (by repeat (first | exact Ga _ _ | exact Gc (fun x hx => by repeat (first | exact hx | refine List.mem_cons_of_mem _ ?_)) | refine Ge Gf ?_)) h
    refine qs 2 ?_
    rw [hd] at c16 c19
    have hw := decS_pos (s.drop p)
    rw [if_neg HS, if_neg (by first | (intro q; omega) | (rintro ⟨_, q⟩; simp [q] at c26)), List.drop_drop] at he
    rw [hd]
    exact GX (p + (decS (s.drop p)).2, f) ⟨by simp only; omega, he⟩ (by simp only; omega) srA (Ga _ _)
   refine qs 12 ?_
   rw [hd] at c16 c19
   have hw := decS_pos (s.drop p)
   rw [if_neg HS, if_neg (by first | (intro q; omega) | (rintro ⟨_, q⟩; simp [q] at c26)), List.drop_drop] at he
   rw [hd]
   exact GX (p + (decS (s.drop p)).2, f) ⟨by simp only; omega, he⟩ (by simp only; omega) srA (Ga _ _)
  refine Gb (AO.extract HQ HQ HQ ?_)
  refine qs 16 ?_
  have he2 : checkF s.length s 0 = none := by rw [he, List.drop_of_length_le hp]; cases f <;> simp [checkF]
  rw [he2] at h
  exact GW (L' := L) (F' := F) Tryz.results64 rfl rfl (by repeat (first | exact Ga _ _ | exact Gc (fun x hx => by repeat (first | exact hx | refine List.mem_cons_of_mem _ ?_)) | refine Ge Gf ?_)) h
theorem check_ok {s : Bs} {u : Unit} (hc : checkB s = .ok u) (h : R (.tuple #[.int .i64 0, .int .i64 0]) L F) : ACalls Tryz.prog W0 64 #[S s] L F R := check_c s (by rw [hc]; exact h)
theorem check_err {s : Bs} {i : Nat} {e : Int} (hc : checkB s = .error (i, e)) (h : R (.tuple #[.int .i64 (i : Int), .int .i64 e]) L F) : ACalls Tryz.prog W0 64 #[S s] L F R := check_c s (by rw [hc]; exact h)
theorem skipped_cc (g : ScanG W0 F) (s : Bs) (h0 : s ≠ []) (hs : s.length ≤ 100000) (hN : skippedB s = none → R (.tuple #[.int .i64 (-1), .bool false]) L F) (hS : ∀ n b, skippedB s = some (n, b) → R (.tuple #[.int .i64 (n : Int), .bool b]) L F) : ACalls Tryz.prog W0 65 #[S s] L F R := by
  refine skipped_c g s h0 hs ?_
  cases h : skippedB s with
  | none => exact hN h
  | some p => obtain ⟨n, b⟩ := p; exact hS n b h
theorem token_cc (g : ScanG W0 F) (s : Bs) (h0 : s ≠ []) (hs : s.length ≤ 100000) (hO : ∀ k n, tokenB s = .ok (k, n) → R (.tuple #[.int .i64 k, .int .i64 (n : Int), .int .i64 0]) L F) (hE : ∀ e, tokenB s = .error e → R (.tuple #[.int .i64 0, .int .i64 0, .int .i64 e]) L F) : ACalls Tryz.prog W0 67 #[S s] L F R := by
  refine token_c g s h0 hs ?_
  cases h : tokenB s with
  | error e => exact hE e h
  | ok p => obtain ⟨k, n⟩ := p; exact hO k n h
theorem scan_c (g : ScanG W0 F) (s : Bs) (hs : s.length ≤ 100000) (h : match scanB s with
    | .ok T => ∀ a k c, R (.tuple #[.slice a k c, .int .i64 0, .int .i64 0]) L (.slc (.slice a k c) 3 (T.map eTok) :: F)
    | .error (i, e) => R (.tuple #[.slice none 0 0, .int .i64 (i : Int), .int .i64 e]) L F) : ACalls Tryz.prog W0 21 #[S s] L F R := by
  have hok := scanB_ok s
  unfold scanB at h hok
  cases hc : checkB s with
  | error p =>
    obtain ⟨i, e⟩ := p
    rw [hc] at h hok
    have he0 : e ≠ 0 := by have := hok.2; omega
    refine Gn Tryz.func21 HQ Tryz.ntmps21 HQ ?_
    refine qs 7 ?_
    refine AC.scope ?_
    refine qs 4 ?_
    refine Gb (Gi HQ HQ (check_err hc ?_))
    refine qs 10 ?_
    refine Gb (Hw HQ HQ HQ (fun _ => ?_) (fun c => absurd c he0))
    refine qs 14 ?_
    refine AK.scpR ?_
    exact GQ Tryz.results21 rfl rfl rfl (Ga _ _) h
  | ok u =>
    rw [hc] at h
    clear hok
    simp only at h
    refine Gn Tryz.func21 HQ Tryz.ntmps21 HQ ?_
    refine qs 7 ?_
    refine AC.scope ?_
    refine qs 4 ?_
    refine Gb (Gi HQ HQ (check_ok hc ?_))
    refine qs 10 ?_
    refine Gb (Hw HQ HQ HQ (fun c => absurd HQ c) (fun _ => ?_))
    refine qs 7 ?_
    refine GT (Sub.ownNil (e := 39) (sz := 3)) ?_
    refine Gb (AO.assign HQ HQ ?_)
    refine qs 8 ?_
    refine AC.label ?_
    refine qs 3 ?_
    refine Hj (fun (q : (List Tok × Nat × Nat) × (Option Addr × Nat × Nat)) => q.1.2.1 ≤ s.length ∧ s.length < q.1.2.2 + q.1.2.1 ∧ q.1.1.length ≤ q.1.2.1 ∧ scanF (s.length + 1) s 0 [] = scanF q.1.2.2 (s.drop q.1.2.1) q.1.2.1 q.1.1)
     (fun q => [(0, S s), (7, .slice q.2.1 q.2.2.1 q.2.2.2), (8, .int .i64 (q.1.2.1 : Int))]) (fun q => Res.own (.slice q.2.1 q.2.2.1 q.2.2.2) 39 3 (q.1.1.map eTok) :: L) (fun _ => F) (fun q => q.1.2.2)
     (([], 0, s.length + 1), (none, 0, 0)) ⟨Nat.zero_le _, by simp only; omega, Nat.le_refl _, rfl⟩ srA (Ga _ _) ?_
    rintro ⟨⟨out, p, f⟩, ⟨a1, k1, c1⟩⟩ ⟨hp, hf, ho, he⟩
    simp only at hp hf ho he ⊢
    obtain ⟨f, rfl⟩ : ∃ f', f = f' + 1 := ⟨f - 1, by omega⟩
    refine qs 6 ?_
    refine Gb (Hq HQ HQ HQ (fun c25 => ?_) (fun c25 => ?_))
    ·refine qs 10 ?_
     have hne : s.drop p ≠ [] := by rw [Ne, List.drop_eq_nil_iff]; omega
     have hdl : (s.drop p).length = s.length - p := List.length_drop ..
     refine Gb (AO.sliceSL (i' := p) HQ HQ HQ HQ HS ?_)
     refine Gb (Gi HQ HQ (skipped_cc g (s.drop p) hne HS (fun hsk => ?_) (fun n nl hsk => ?_)))
     ·refine qs 12 ?_
      refine Gb (Hq HQ HQ HQ (fun _ => ?_) (fun c => absurd c (by decide)))
      refine qs 19 ?_
      refine AK.scpR ?_
      rw [he, scanF_err1 hne hsk] at h
      exact GQ (L' := L) (F' := F) Tryz.results21 rfl rfl rfl (by repeat (first | exact Ga _ _ | exact Gc (fun x hx => by repeat (first | exact hx | refine List.mem_cons_of_mem _ ?_)) | refine Ge Gf ?_)) h
     refine qs 12 ?_
     have hnl := skippedB_le hne hsk
     refine Gb (Hq HQ HQ HQ (fun c => absurd c HS) (fun _ => ?_))
     refine qs 7 ?_
     refine Gb (AO.gtr HQ HQ HQ (fun c39 => ?_) (fun c39 => ?_))
     ·refine qs 8 ?_
      cases nl
      rotate_left
      all_goals refine Gb (AO.move rfl rfl ?_)
      ·refine qs 1 ?_
       refine Gr HQ HQ (Gi HQ HQ (ends_c out HS (fun c43 => ?_) (fun c43 => ?_)))
       ·refine qs 8 ?_
        refine Gb (GN HQ HQ HQ HQ HQ (fun b48 => ?_))
        refine Gb (Ho (enc := eTok) (lst := out) [⟨6, [10], p⟩] HQ HQ HQ (i := 0) HQ (.val (.val (.val .nil))) HQ HQ (fun _ => rfl) (by unfold maxLen; omega) HS (fun a2 k2 c2 => ?_))
        refine qs 15 ?_
        rw [scanF_skip hne hsk HS, c43, List.drop_drop] at he
        refine GX ((out ++ [⟨6, [10], p⟩], p + n, f), (a2, k2, c2)) ⟨by simp only; omega, by simp only; omega, by simp only [List.length_append, List.length_cons, List.length_nil]; omega, he⟩ (by simp only; omega) srA (by simp only [List.map_append]; exact subF)
       refine qs 18 ?_
       rw [scanF_skip hne hsk HS, c43, List.drop_drop] at he
       refine GX ((out, p + n, f), (a1, k1, c1)) ⟨by simp only; omega, by simp only; omega, by simp only; omega, he⟩ (by simp only; omega) srA subF
      refine qs 20 ?_
      rw [scanF_skip hne hsk HS, List.drop_drop] at he
      refine GX ((out, p + n, f), (a1, k1, c1)) ⟨by simp only; omega, by simp only; omega, by simp only; omega, he⟩ (by simp only; omega) srA subF
     refine qs 11 ?_
     refine Gb (AO.sliceSL (i' := p) HQ HQ HQ HQ HS ?_)
     refine Gb (Gi HQ HQ (token_cc g (s.drop p) hne HS (fun kd m ht => ?_) (fun e ht => ?_)))
     ·refine qs 13 ?_
      have hm := tokenB_le hne ht
      refine Gb (Hw HQ HQ HQ (fun c => absurd HQ c) (fun _ => ?_))
      refine qs 14 ?_
      refine Gb (AO.sliceSLH (i' := p) (j' := p + m) HQ HQ HQ HQ HQ HS HS HS ?_)
      rw [show p + m - p = m by omega]
      refine qs 2 ?_
      refine Gb (GN HQ HQ HQ HQ HQ (fun b75 => ?_))
      refine Gb (Ho (enc := eTok) (lst := out) [⟨kd, (s.drop p).take m, p⟩] HQ HQ HQ (i := 0) HQ (.val (.val (.val .nil))) HQ HQ (fun _ => rfl) (by unfold maxLen; omega) HS (fun a2 k2 c2 => ?_))
      refine qs 10 ?_
      rw [scanF_tok hne hsk HS ht, List.drop_drop] at he
      refine GX ((out ++ [⟨kd, (s.drop p).take m, p⟩], p + m, f), (a2, k2, c2)) ⟨by simp only; omega, by simp only; omega, by simp only [List.length_append, List.length_cons, List.length_nil]; omega, he⟩ (by simp only; omega) srA (by simp only [List.map_append]; exact subF)
     refine qs 13 ?_
     have hte := tokenB_err ht
     refine Gb (Hw HQ HQ HQ (fun _ => ?_) (fun c => absurd c HS))
     refine qs 18 ?_
     refine AK.scpR ?_
     rw [he, scanF_err2 hne hsk HS ht] at h
     exact GQ (L' := L) (F' := F) Tryz.results21 rfl rfl rfl (by repeat (first | exact Ga _ _ | exact Gc (fun x hx => by repeat (first | exact hx | refine List.mem_cons_of_mem _ ?_)) | refine Ge Gf ?_)) h
    refine qs 12 ?_
    rw [he, scanF_end (by rw [List.drop_eq_nil_iff]; omega)] at h
    refine Gb (Gi HQ HQ (ends_c out HS (fun c81 => ?_) (fun c81 => ?_)))
    ·refine qs 7 ?_
     refine Gb (GN HQ HQ HQ HQ HQ (fun b85 => ?_))
     refine Gb (Ho (enc := eTok) (lst := out) [⟨6, [10], p⟩] HQ HQ HQ (i := 0) HQ (.val (.val (.val .nil))) HQ HQ (fun _ => rfl) (by unfold maxLen; omega) HS (fun a3 k3 c3 => ?_))
     refine qs 8 ?_
     refine Gb (GN HQ HQ HQ HQ HQ (fun b90 => ?_))
     have hcl : closeB out p = (out ++ [⟨6, [10], p⟩]) ++ [⟨0, [], p⟩] := by unfold closeB; rw [if_pos c81]
     refine Gb (Ho (enc := eTok) (lst := out ++ [⟨6, [10], p⟩]) [⟨0, [], p⟩] HQ HQ HQ (i := 0) HQ (.val (.val (.val .nil))) HQ HQ (fun _ => rfl) (by simp only [maxLen, List.length_append, List.length_cons, List.length_nil]; omega) (by simp only [List.length_append, List.length_cons, List.length_nil]; omega) (fun a4 k4 c4 => ?_))
     rw [← hcl]
     refine qs 7 ?_
     refine Gb (AO.lenO HQ HQ (i := 0) HQ (fun hk93 => ?_))
     rw [List.length_map]
     refine Gb (AO.gtr HQ HQ HQ (fun c94 => ?_) (fun c94 => ?_))
     ·refine qs 12 ?_
      refine AK.scpR ?_
      rw [if_pos HS] at h
      exact GQ (L' := L) (F' := F) Tryz.results21 rfl rfl rfl (by repeat (first | exact Ga _ _ | exact Gc (fun x hx => by repeat (first | exact hx | refine List.mem_cons_of_mem _ ?_)) | refine Ge Gf ?_)) h
     refine qs 14 ?_
     refine AK.scpR ?_
     rw [if_neg HS] at h
     exact GQ (L' := L) (F' := .slc (.slice a4 k4 c4) 3 ((closeB out p).map eTok) :: F) Tryz.results21 rfl rfl rfl ((He (i := 0) rfl).trans (Sub.drop.trans (Sub.headF (fun x hx => by repeat (first | exact hx | refine List.mem_cons_of_mem _ ?_))))) (h a4 k4 c4)
    refine qs 10 ?_
    refine Gb (GN HQ HQ HQ HQ HQ (fun b90 => ?_))
    have hcl : closeB out p = out ++ [⟨0, [], p⟩] := by unfold closeB; rw [if_neg (by rw [c81]; decide)]
    refine Gb (Ho (enc := eTok) (lst := out) [⟨0, [], p⟩] HQ HQ HQ (i := 0) HQ (.val (.val (.val .nil))) HQ HQ (fun _ => rfl) (by unfold maxLen; omega) HS (fun a4 k4 c4 => ?_))
    rw [← hcl]
    refine qs 7 ?_
    refine Gb (AO.lenO HQ HQ (i := 0) HQ (fun hk93 => ?_))
    rw [List.length_map]
    refine Gb (AO.gtr HQ HQ HQ (fun c94 => ?_) (fun c94 => ?_))
    ·refine qs 12 ?_
     refine AK.scpR ?_
     rw [if_pos HS] at h
     exact GQ (L' := L) (F' := F) Tryz.results21 rfl rfl rfl (by repeat (first | exact Ga _ _ | exact Gc (fun x hx => by repeat (first | exact hx | refine List.mem_cons_of_mem _ ?_)) | refine Ge Gf ?_)) h
    refine qs 14 ?_
    refine AK.scpR ?_
    rw [if_neg HS] at h
    exact GQ (L' := L) (F' := .slc (.slice a4 k4 c4) 3 ((closeB out p).map eTok) :: F) Tryz.results21 rfl rfl rfl ((He (i := 0) rfl).trans (Sub.drop.trans (Sub.headF (fun x hx => by repeat (first | exact hx | refine List.mem_cons_of_mem _ ?_))))) (h a4 k4 c4)
end
end Go.Sy
namespace Go.Sy
open Go Go.RowKit
section
variable {P : Program} {W0 : World} {n : Nat} {Q Z : Po} {ρ : Rho} {L L' : List Res} {F F' : List Fact} {K : Act → World → Prop} {ro : Option Nat} {ds : List Deferred}
variable {d : Tmp} {ty : TypeId} {pos : String} {af : Array Edge} {g : Option (Nat × Bool)} {x : Operand}
theorem AO.eqlI {t u yt : TypeId} {ms : Array (String × TypeId)} {v : Value} (hu : P.underlying t = some (.interface ms)) (hx : ev ρ x = some (.iface u v)) (hd : Nat.blt d n = true) (h : AT W0 n K ((d, .bool false) :: ρ) L F) : AO P W0 n K ⟨some d, .binOp .eql t x (.const .nilIface) yt, ty, pos, af, g⟩ Q ρ L F :=
  HG hd (fun a w s => by
    have h1 : P.underlying t = some (.interface (P.methodsAt t)) := by simp [Program.methodsAt, hu]
    have hv := GK s.slots hx
    have hn : a.eval (.const .nilIface) = .nilIface := rfl
    have hg : (eqGuard .eql t x (.const .nilIface) (.iface u v) .nilIface).run P w = .ok () w := by simp [eqGuard]
    simp only [execOp, hv, hn, Sem.run_bind, hg, Result.andThen, run_eql_held_nil w t u v h1]
    simp) h
theorem AO.eqlIN {t yt : TypeId} {ms : Array (String × TypeId)} (hu : P.underlying t = some (.interface ms)) (hx : ev ρ x = some .nilIface) (hd : Nat.blt d n = true) (h : AT W0 n K ((d, .bool true) :: ρ) L F) : AO P W0 n K ⟨some d, .binOp .eql t x (.const .nilIface) yt, ty, pos, af, g⟩ Q ρ L F :=
  HG hd (fun a w s => by
    have h1 : P.underlying t = some (.interface (P.methodsAt t)) := by simp [Program.methodsAt, hu]
    have hv := GK s.slots hx
    have hn : a.eval (.const .nilIface) = .nilIface := rfl
    have hg : (eqGuard .eql t x (.const .nilIface) .nilIface .nilIface).run P w = .ok () w := by simp [eqGuard]
    simp only [execOp, hv, hn, Sem.run_bind, hg, Result.andThen, run_eql_nil_nil w t h1]
    simp) h
theorem AO.assertT {t xt : TypeId} {fs : Array Field} {v : Value} (hu : P.underlying t = some (.struct fs)) (hx : ev ρ x = some (.iface t v)) (hd : Nat.blt d n = true) (h : AT W0 n K ((d, .tuple #[v, .bool true]) :: ρ) L F) : AO P W0 n K ⟨some d, .typeAssert x xt t true, ty, pos, af, g⟩ Q ρ L F :=
  HG hd (fun a w s => by simp [execOp, GK s.slots hx, Instr.typeAssert, run_underlying hu]) h
end
end Go.Sy
namespace Go.Sy
open Go Go.Proofs Go.RowKit
abbrev nilS : Value := .slice none 0 0
def pwholeU (K : List Tk) (m : PM Unit) : Except (Nat × Int) (List Nd) := match m ⟨0, [], 0⟩ with
  | .ok (_, s) => if (s.tok K).1 = 0 then .ok s.nodes else .error (s.i, 5)
  | .error e => .error e
theorem whole_kon {K : List Tk} {m : PM Unit} {RO : List Nd → Prop} {RE : Nat → Int → Prop} (h : match pwholeU K m with | .ok l => RO l | .error (i, e) => RE i e) : Kon (m ⟨0, [], 0⟩) (fun _ s' => ((s'.tok K).1 = 0 → RO s'.nodes) ∧ ((s'.tok K).1 ≠ 0 → RE s'.i 5)) RE := by
  unfold pwholeU at h
  unfold Kon
  match m ⟨0, [], 0⟩, h with
  | .error (i, e), h => exact h
  | .ok (u, s), h =>
    simp only at h ⊢
    refine ⟨fun q => ?_, fun q => ?_⟩
    · rw [if_pos q] at h; exact h
    rw [if_neg q] at h; exact h
theorem tree_kon {rule : List Tk → PM Unit} {s : Bs} {T : List Tok} (hT : scanB s = .ok T) {RO : List Nod → Prop} {RE : Nat → Int → Prop} (h : match treeB (fun K => pwholeU K (rule K)) s with | .ok l => RO l | .error (i, e) => RE i e) :
    Kon (rule (T.map Tok.tk) ⟨0, [], 0⟩) (fun _ s' => ((s'.tok (T.map Tok.tk)).1 = 0 → RO (s'.nodes.map (toNod T))) ∧ ((s'.tok (T.map Tok.tk)).1 ≠ 0 → RE (posOf T s'.i) 5)) (fun i e => RE (posOf T i) e) := by
  refine whole_kon (RO := fun l => RO (l.map (toNod T))) (RE := fun i e => RE (posOf T i) e) ?_
  unfold treeB at h
  rw [hT] at h
  simp only at h
  cases hw : pwholeU (T.map Tok.tk) (rule (T.map Tok.tk)) with
  | ok l => rw [hw] at h; exact h
  | error p => obtain ⟨i, e⟩ := p; rw [hw] at h; exact h
attribute [local irreducible] AC AT AO AK AH ACalls ACallsX ACallsD Sub Res.cells Res.obj Res.nix Res.own Res.map Exit.then Exit.inBlock Exit.noGoto bodyPost bodyPostD Code.wp Code.wpIn WL Next Post PostX Kont
section
variable {W0 : World} {L : List Res} {F : List Fact} {R : Value → List Res → List Fact → Prop}
set_option maxRecDepth 100000
set_option maxHeartbeats 4000000
abbrev outs (bl ba be : Nat) (v : Value) (i e : Int) (L : List Res) : List Res := Res.cells be #[.int .i64 e] 23 :: Res.cells ba #[.int .i64 i] 3 :: Res.cells bl #[v] 22 :: L
theorem pdefer0_c {bl ba be : Nat} {S : List Res → List Fact → Prop} (h : S L F) : ACallsD Tryz.prog W0 22 #[pt bl, pt ba, pt be] .returning .returning L F S := by
  have key : ACallsD Tryz.prog W0 22 [pt bl, pt ba, pt be].toArray .returning (settle .returning) L F S := by
    refine ACallsD.recBody (rv := .nilIface) (um := .returning) HQ Tryz.func22 HQ Tryz.ntmps22 HQ HQ ?_
    refine qs 3 ?_
    refine Gb (AO.eqlIN Tryz.underlying20 HQ HQ ?_)
    refine qs 7 ?_
    exact AK.end0 Tryz.results22 (Ga _ _) h
  exact key
theorem pdefer_c {T : List Tok} {i : Nat} {e : Int} {bl ba be : Nat} {v : Value} {i0 e0 : Int} {S : List Res → List Fact → Prop} (h : S (outs bl ba be nilS (posOf T i : Int) e L) F) : ACallsD Tryz.prog W0 22 #[pt bl, pt ba, pt be] (.panicking (wrong T i e)) .returning (outs bl ba be v i0 e0 L) F S := by
  have key : ACallsD Tryz.prog W0 22 [pt bl, pt ba, pt be].toArray (.panicking (wrong T i e)) (settle (.panicking [{ v := .iface 54 (.agg #[.int .i64 (posOf T i : Int), .int .i64 e]), recovered := true }])) (outs bl ba be v i0 e0 L) F S := by
    refine ACallsD.recBody (rv := .iface 54 (.agg #[.int .i64 (posOf T i : Int), .int .i64 e])) (um := .panicking [{ v := .iface 54 (.agg #[.int .i64 (posOf T i : Int), .int .i64 e]), recovered := true }]) HQ Tryz.func22 HQ Tryz.ntmps22 HQ HQ ?_
    refine qs 3 ?_
    refine Gb (AO.eqlI Tryz.underlying20 HQ HQ ?_)
    refine qs 5 ?_
    refine Gb (AO.assertT Tryz.underlying54 HQ HQ ?_)
    refine Gb (AO.extract HQ HQ HQ ?_)
    refine qs 6 ?_
    refine Gb (Hh HQ (fun b4 => ?_))
    refine qs 3 ?_
    refine GO (fun _ => false) [(b4, _, _)] bxA HQ (fun hx hX => ?_)
    refine qt [0, 1, 2, 3] ?_
    refine GD (i := 4) HR HQ HQ (fun _ => ?_)
    refine HF HQ HQ HQ ?_
    refine Gy bxA memB ?_
    refine GD (i := 5) HR HQ HQ (fun _ => ?_)
    refine HF HQ HQ HQ ?_
    refine Gy bxA memB ?_
    refine GD (i := 6) HR HQ HQ (fun _ => ?_)
    refine HF HQ HQ HQ ?_
    refine Gy bxA memB ?_
    refine GF HR ?_
    refine qs 1 ?_
    exact AK.end0 (L' := outs bl ba be nilS (posOf T i : Int) e L) (F' := F) Tryz.results22 (by repeat (first | exact Ga _ _ | exact Gc (fun x hx => by repeat (first | exact hx | refine List.mem_cons_of_mem _ ?_)) | refine Ge Gf ?_)) h
  exact key
theorem scan_cc (g : ScanG W0 F) (s : Bs) (hs : s.length ≤ 100000) (hO : ∀ T, scanB s = .ok T → ∀ a k c, R (.tuple #[.slice a k c, .int .i64 0, .int .i64 0]) L (fTk T (.slice a k c) :: F)) (hE : ∀ i e, scanB s = .error (i, e) → e ≠ 0 → R (.tuple #[nilS, .int .i64 (i : Int), .int .i64 e]) L F) : ACalls Tryz.prog W0 21 #[S s] L F R := by
  refine scan_c g s hs ?_
  have hok := scanB_ok s
  cases h : scanB s with
  | ok T => exact hO T h
  | error p =>
    obtain ⟨i, e⟩ := p
    rw [h] at hok
    exact hE i e h (by have := hok.2; omega)
theorem parsed_c (g : ScanG W0 F) (mN : fNo ∈ F) {fr : FuncId} [FnT Tryz.prog fr] (rule : List Tk → PM Unit) (hG : ∀ K, Wf K → Ahead K 40 ⟨0, [], 0⟩ 0 (rule K ⟨0, [], 0⟩)) (hr : ∀ (T : List Tok) (b : Nat) (tv : Value) (L : List Res), Wf (T.map Tok.tk) → PC W0 T b tv L fr #[pt b] ⟨0, [], 0⟩ (rule (T.map Tok.tk)) vUnit)
    (s : Bs) (hs : s.length ≤ 100000) (h : match treeB (fun K => pwholeU K (rule K)) s with
    | .ok l => ∀ a k c, R (.tuple #[.slice a k c, .int .i64 0, .int .i64 0]) L (.slc (.slice a k c) 4 (l.map eNod) :: F)
    | .error (i, e) => R (.tuple #[nilS, .int .i64 (i : Int), .int .i64 e]) L F) : ACalls Tryz.prog W0 11 #[S s, .func (.func fr) #[] #[]] L F R := by
  have hok := scanB_ok s
  refine ACalls.bodyD Tryz.func11 HQ Tryz.ntmps11 HQ ?_
  refine qs 2 ?_
  refine Gb (Hh HQ (fun b4 => (Gb (Hh HQ (fun b5 => (Gb (Hh HQ (fun b6 => ?_))))))))
  refine qs 5 ?_
  refine Gb (Gi HQ HQ (scan_cc g s hs (fun T hT ta tk tc => ?_) (fun i e hT he0 => ?_)))
  ·refine qs 13 ?_
   refine Gb (Hw HQ HQ HQ (fun c => absurd HQ c) (fun _ => ?_))
   refine qs 7 ?_
   rw [hT] at hok
   have w := hok.wf
   replace h := tree_kon (RO := fun l => ∀ a k c, R (.tuple #[.slice a k c, .int .i64 0, .int .i64 0]) L (.slc (.slice a k c) 4 (l.map eNod) :: F)) (RE := fun i e => R (.tuple #[nilS, .int .i64 (i : Int), .int .i64 e]) L F) hT h
   refine Gb (Hz HQ HQ ?_)
   refine AL.deferC HQ ?_
   refine qs 6 ?_
   refine Gb (GH HQ HQ (fun b22 => ?_))
   refine GT ((Sub.ownNil (e := 50) (sz := 4)).trans Sub.swap2) ?_
   refine Gb (AO.assign HQ HQ ?_)
   refine qs 6 ?_
   refine Gl (AO.callCX (cs := []) HQ HQ HQ (hr T b22 _ _ w memA memA (h.go (hG _ w) (fun _ s1 v1 _ _ h a1 k1 c1 => ?_) (fun i e hx => ?_))))
   rotate_left
   · exact Gm (Gh (AK.panicD (pdefer_c (AK.retV (rs := [.cell 4 _, .cell 5 _, .cell 6 _]) (L' := L) (F' := F) Tryz.results11 (.cell (j := 2) rfl rfl rfl (.cell (j := 1) rfl rfl rfl (.cell (j := 0) rfl rfl rfl .nil))) (by repeat (first | exact Ga _ _ | exact Gc (fun x hx => by repeat (first | exact hx | refine List.mem_cons_of_mem _ ?_)) | refine Ge Gf ?_)) hx))))
   refine qs 6 ?_
   refine Gb (Gi HQ HQ (GZ memA v1 ?_))
   refine Gb (Ha HQ HQ HQ (Gb (Hw HQ HQ HQ (fun c29 => ?_) (fun c29 => ?_))))
   ·refine qs 5 ?_
    refine Gl (Gk HQ HQ (pfail_c memA v1 5 ?_))
    exact Gm (Gh (AK.panicD (pdefer_c (AK.retV (rs := [.cell 4 _, .cell 5 _, .cell 6 _]) (L' := L) (F' := F) Tryz.results11 (.cell (j := 2) rfl rfl rfl (.cell (j := 1) rfl rfl rfl (.cell (j := 0) rfl rfl rfl .nil))) (by repeat (first | exact Ga _ _ | exact Gc (fun x hx => by repeat (first | exact hx | refine List.mem_cons_of_mem _ ?_)) | refine Ge Gf ?_)) (h.2 c29)))))
   refine qs 7 ?_
   refine GT (He (i := 1) HQ) ?_
   refine Gb (AO.move HQ HQ ?_)
   refine Gb (Gu HQ HQ ?_)
   refine qs 8 ?_
   exact AK.retD (pdefer0_c (AK.retV (rs := [.cell 4 _, .cell 5 _, .cell 6 _]) (L' := L) (F' := .slc (.slice a1 k1 c1) 4 ((s1.nodes.map (toNod T)).map eNod) :: F) Tryz.results11 (.cell (j := 4) rfl rfl rfl (.cell (j := 3) rfl rfl rfl (.cell (j := 2) rfl rfl rfl .nil))) (by repeat (first | exact Sub.headF (fun x hx => by repeat (first | exact hx | refine List.mem_cons_of_mem _ ?_)) | refine Ge Gf ?_)) (h.1 c29 a1 k1 c1)))
  refine qs 13 ?_
  refine Gb (Hw HQ HQ HQ (fun _ => ?_) (fun c => absurd c he0))
  refine qs 4 ?_
  refine GO (fun _ => false) [(b5, _, _), (b6, _, _)] bxA HQ (fun hx hX => ?_)
  refine qt [0, 1] ?_
  refine GD (i := 2) HR HQ HQ (fun _ => ?_)
  refine HF HQ HQ HQ ?_
  refine Gy bxA memB ?_
  refine GD (i := 3) HR HQ HQ (fun _ => ?_)
  refine HF HQ HQ HQ ?_
  refine Gy bxA memB ?_
  refine GD (i := 4) HR HQ HQ (fun _ => ?_)
  refine HF HQ HQ HQ ?_
  refine Gy bxA memB ?_
  refine GF HR ?_
  refine qs 3 ?_
  unfold treeB at h
  rw [hT] at h
  exact AK.ret0D (AK.retV (rs := [.cell 4 _, .cell 5 _, .cell 6 _]) (L' := L) (F' := F) Tryz.results11 (.cell (j := 2) rfl rfl rfl (.cell (j := 1) rfl rfl rfl (.cell (j := 0) rfl rfl rfl .nil))) (by repeat (first | exact Ga _ _ | exact Gc (fun x hx => by repeat (first | exact hx | refine List.mem_cons_of_mem _ ?_)) | refine Ge Gf ?_)) h)
end
end Go.Sy
namespace Go.Sy
open Go Go.Proofs Go.RowKit
def exprRule (K : List Tk) : PM Unit := ((lev K 40).expr 1).bind fun _ s => if semiB (s.tok K) = true then .ok ((), s.next) else .ok ((), s)
def fileRule (K : List Tk) : PM Unit := (pfile K (lev K 40)).bind fun _ => PM.ret ()
theorem exprRule_eq (K : List Tk) : pwholeU K (exprRule K) = pexprAll K := by
  unfold pwholeU pexprAll pwhole exprRule PM.bind
  cases (lev K 40).expr 1 ⟨0, [], 0⟩ with
  | error e => rfl
  | ok p => obtain ⟨v, s⟩ := p; simp only; split <;> rename_i h <;> (split at h <;> simp_all)
theorem fileRule_eq (K : List Tk) : pwholeU K (fileRule K) = pfileAll K := by
  unfold pwholeU pfileAll pwhole fileRule PM.bind
  cases pfile K (lev K 40) ⟨0, [], 0⟩ with
  | error e => rfl
  | ok p => rfl
theorem exprRule_go (K : List Tk) (w : Wf K) : Ahead K 40 ⟨0, [], 0⟩ 0 (exprRule K ⟨0, [], 0⟩) := by
  intro a s' e
  obtain ⟨v, s1, h1, h2⟩ := Gt e
  have := (((lev_g w 40).expr 1 _ (inv0 w)).go _ _ h1).1
  split at h2
  · rename_i hc
    injection h2 with h2; injection h2 with _ h2; subst h2
    exact ⟨this.next w (GS hc), Nat.zero_le _⟩
  injection h2 with h2; injection h2 with _ h2; subst h2
  exact ⟨this, Nat.zero_le _⟩
theorem fileRule_go (K : List Tk) (w : Wf K) : Ahead K 40 ⟨0, [], 0⟩ 0 (fileRule K ⟨0, [], 0⟩) := by
  intro a s' e
  obtain ⟨v, s1, h1, h2⟩ := Gt e
  injection h2 with h2; injection h2 with _ h2; subst h2
  have := (pfile_g w (lev_g w 40) (inv0 w)).go _ _ h1
  exact ⟨this.1, by omega⟩
attribute [local irreducible] AC AT AO AK AH ACalls ACallsX ACallsD Sub Res.cells Res.obj Res.nix Res.own Res.map Exit.then Exit.inBlock Exit.noGoto bodyPost bodyPostD Code.wp Code.wpIn WL Next Post PostX Kont
attribute [local irreducible] pnamed psignature pfield pelem pliteral pbare punion pexpr poperand pprimary punary ptypes punless pbody pfunction pdecl pfile plist plines pnode pof pmust psemi pnone pnested pwhen pif PM.bind PM.ret lev
section
variable {W0 : World} {L : List Res} {F : List Fact} {R : Value → List Res → List Fact → Prop}
set_option maxRecDepth 100000
set_option maxHeartbeats 4000000
theorem exprR_c (T : List Tok) (b : Nat) (tv : Value) (L : List Res) (w : Wf (T.map Tok.tk)) : PC W0 T b tv L 14 #[pt b] ⟨0, [], 0⟩ (exprRule (T.map Tok.tk)) vUnit := by
  intro F R X a k c mT mN h
  have rc := lev_c (W0 := W0) (b := b) (tv := tv) w 40
  have hr := lev_g w 40
  have v := inv0 w
  have hw := w.len
  rw [List.length_map] at hw
  unfold exprRule at h
  replace h := Kon.bind h
  refine ACallsX.body Tryz.func14 HQ Tryz.ntmps14 HQ ?_
  refine qs 3 ?_
  refine Gl (Gk HQ HQ (rc.expr 1 (by decide) v memA memA (h.go (hr.expr _ _ v).go (fun x3 s11 v11 l11 e11 h a11 k11 c11 => ?_) (fun i e hx => Gm (Gh (Gj (by repeat (first | exact Ga _ _ | exact Gc (fun x hx => by repeat (first | exact hx | refine List.mem_cons_of_mem _ ?_)) | refine Ge Gf ?_)) (hx)))))))
  repeat (first | replace h := Kon.bind h | replace h := Kon.retE h | replace h := Kon.okE h)
  refine qs 5 ?_
  refine Gb (Gi HQ HQ (GZ memA v11 ?_))
  refine Gb (Gi HQ HQ (psemiB_c (fun c6 => ?_) (fun c6 => ?_)))
  ·first | replace h := Kon.iteT c6 h | skip
   repeat (first | replace h := Kon.bind h | replace h := Kon.retE h | replace h := Kon.okE h)
   refine qs 3 ?_
   have hlt := (v11).lt
   refine qs 2 ?_
   refine Gb (Gu HQ HQ ?_)
   refine qs 3 ?_
   refine Gb (Gu HQ HQ ?_)
   refine qs 3 ?_
   exact Gw (AK.end0 (L' := PL T b tv s11.next a11 k11 c11 L) (F' := F) Tryz.results14 (by repeat (first | exact Ga _ _ | exact Gc (fun x hx => by repeat (first | exact hx | refine List.mem_cons_of_mem _ ?_)) | refine Ge Gs ?_)) (h _ _ _))
  first | replace h := Kon.iteF (nott c6) h | skip
  repeat (first | replace h := Kon.bind h | replace h := Kon.retE h | replace h := Kon.okE h)
  refine qs 4 ?_
  exact Gw (AK.end0 (L' := PL T b tv s11 a11 k11 c11 L) (F' := F) Tryz.results14 (by repeat (first | exact Ga _ _ | exact Gc (fun x hx => by repeat (first | exact hx | refine List.mem_cons_of_mem _ ?_)) | refine Ge Gs ?_)) (h _ _ _))
theorem fileR_c (T : List Tok) (b : Nat) (tv : Value) (L : List Res) (w : Wf (T.map Tok.tk)) : PC W0 T b tv L 12 #[pt b] ⟨0, [], 0⟩ (fileRule (T.map Tok.tk)) vUnit := by
  intro F R X a k c mT mN h
  have rc := lev_c (W0 := W0) (b := b) (tv := tv) w 40
  have hr := lev_g w 40
  have v := inv0 w
  unfold fileRule at h
  replace h := Kon.bind h
  refine ACallsX.body Tryz.func12 HQ Tryz.ntmps12 HQ ?_
  refine qs 2 ?_
  refine Gl (Gk HQ HQ (pfile_c w rc hr v memA memA (h.go (pfile_g w hr v).go (fun x3 s11 v11 l11 e11 h a11 k11 c11 => ?_) (fun i e hx => Gm (Gj (by repeat (first | exact Ga _ _ | exact Gc (fun x hx => by repeat (first | exact hx | refine List.mem_cons_of_mem _ ?_)) | refine Ge Gf ?_)) (hx))))))
  repeat (first | replace h := Kon.bind h | replace h := Kon.retE h | replace h := Kon.okE h)
  refine qs 1 ?_
  exact Gw (AK.end0 (L' := PL T b tv s11 a11 k11 c11 L) (F' := F) Tryz.results12 (by repeat (first | exact Ga _ _ | exact Gc (fun x hx => by repeat (first | exact hx | refine List.mem_cons_of_mem _ ?_)) | refine Ge Gs ?_)) (h _ _ _))
abbrev fNod (l : List Nod) (a : Option Addr) (k c : Nat) : Fact := .slc (.slice a k c) 4 (l.map eNod)
theorem parsed_cc (g : ScanG W0 F) (mN : fNo ∈ F) {fr : FuncId} [FnT Tryz.prog fr] (rule : List Tk → PM Unit) (hG : ∀ K, Wf K → Ahead K 40 ⟨0, [], 0⟩ 0 (rule K ⟨0, [], 0⟩)) (hr : ∀ (T : List Tok) (b : Nat) (tv : Value) (L : List Res), Wf (T.map Tok.tk) → PC W0 T b tv L fr #[pt b] ⟨0, [], 0⟩ (rule (T.map Tok.tk)) vUnit)
    (s : Bs) (hs : s.length ≤ 100000) {res : Except (Nat × Int) (List Nod)} (hB : treeB (fun K => pwholeU K (rule K)) s = res) (hO : ∀ l, res = .ok l → ∀ a k c, R (.tuple #[.slice a k c, .int .i64 0, .int .i64 0]) L (fNod l a k c :: F)) (hE : ∀ i e, res = .error (i, e) → R (.tuple #[nilS, .int .i64 (i : Int), .int .i64 e]) L F) :
    ACalls Tryz.prog W0 11 #[S s, .func (.func fr) #[] #[]] L F R := by
  refine parsed_c g mN rule hG hr s hs ?_
  rw [hB]
  cases h : res with
  | ok l => exact hO l h
  | error p => obtain ⟨i, e⟩ := p; exact hE i e h
theorem expr_c (g : ScanG W0 F) (mN : fNo ∈ F) (s : Bs) (hs : s.length ≤ 100000) (hO : ∀ l, exprB s = .ok l → ∀ a k c, R (.tuple #[.slice a k c, .int .i64 0, .int .i64 0]) L (fNod l a k c :: F)) (hE : ∀ i e, exprB s = .error (i, e) → R (.tuple #[nilS, .int .i64 (i : Int), .int .i64 e]) L F) :
    ACalls Tryz.prog W0 6 #[S s] L F R := by
  have hB : treeB (fun K => pwholeU K (exprRule K)) s = exprB s := by
    have : (fun K => pwholeU K (exprRule K)) = pexprAll := funext exprRule_eq
    rw [this]; rfl
  refine Gn Tryz.func6 HQ Tryz.ntmps6 HQ ?_
  refine qs 10 ?_
  refine Gb (Gi HQ HQ (parsed_cc g mN exprRule exprRule_go exprR_c s hs hB (fun l hl a6 k6 c6 => ?_) (fun i e hl => ?_)))
  ·refine qs 9 ?_
   exact GQ Tryz.results6 rfl rfl rfl (Ga _ _) (hO l hl _ _ _)
  refine qs 9 ?_
  exact GQ Tryz.results6 rfl rfl rfl (Ga _ _) (hE i e hl)
theorem file_c (g : ScanG W0 F) (mN : fNo ∈ F) (s : Bs) (hs : s.length ≤ 100000) (hO : ∀ l, fileB s = .ok l → ∀ a k c, R (.tuple #[.slice a k c, .int .i64 0, .int .i64 0]) L (fNod l a k c :: F)) (hE : ∀ i e, fileB s = .error (i, e) → R (.tuple #[nilS, .int .i64 (i : Int), .int .i64 e]) L F) :
    ACalls Tryz.prog W0 5 #[S s] L F R := by
  have hB : treeB (fun K => pwholeU K (fileRule K)) s = fileB s := by
    have : (fun K => pwholeU K (fileRule K)) = pfileAll := funext fileRule_eq
    rw [this]; rfl
  refine Gn Tryz.func5 HQ Tryz.ntmps5 HQ ?_
  refine qs 10 ?_
  refine Gb (Gi HQ HQ (parsed_cc g mN fileRule fileRule_go fileR_c s hs hB (fun l hl a6 k6 c6 => ?_) (fun i e hl => ?_)))
  ·refine qs 9 ?_
   exact GQ Tryz.results5 rfl rfl rfl (Ga _ _) (hO l hl _ _ _)
  refine qs 9 ?_
  exact GQ Tryz.results5 rfl rfl rfl (Ga _ _) (hE i e hl)
end
end Go.Sy
namespace Go.Sy
open Go Go.RowKit
class ArS (P : Program) (t : TypeId) (m sz : outParam Nat) : Prop where
  und : ∃ e, P.underlying t = some (.array m e) ∧ ∀ w, (sizeOf e).run P w = .ok sz w
theorem ArS.of {P : Program} {t e : TypeId} {m sz : Nat} (h : P.underlying t = some (.array m e)) (hs : (P.info? e).map (·.size) = some sz) : ArS P t m sz :=
  ⟨e, h, fun w => by
    cases hi : P.info? e with
    | none => simp [hi] at hs
    | some i => simp [hi] at hs; simp [sizeOf, typeInfo, hi, hs]⟩
theorem AgT.ofA {P : Program} {t e : TypeId} {m k : Nat} (h : P.underlying t = some (.array m e)) (hs : (P.info? t).map (·.size) = some k) : AgT P t k :=
  ⟨fun w => by simp [isAgg, run_underlying h], fun w => by
    cases hi : P.info? t with
    | none => simp [hi] at hs
    | some i => simp [hi] at hs; simp [sizeOf, typeInfo, hi, hs]⟩
section
variable {P : Program} {W0 : World} {n : Nat} {Q : Po} {ρ : Rho} {L : List Res} {F : List Fact} {K : Act → World → Prop}
variable {d : Tmp} {t ty : TypeId} {pos : String} {af : Array Edge} {g : Option (Nat × Bool)} {x y : Operand}
theorem AO.indexP {m sz b o j : Nat} {i : Int} {k : IntKind} [ht : ArS P t m sz] (hx : ev ρ x = some (.pointer (some ⟨b, o, none⟩))) (hy : ev ρ y = some (.int k i)) (hd : Nat.blt d n = true) (hi : i = (j : Int)) (hj : j < m) (h : AT W0 n K ((d, .pointer (some ⟨b, o + j * sz, none⟩)) :: ρ) L F) :
    AO P W0 n K ⟨some d, .indexAddr t x y, ty, pos, af, g⟩ Q ρ L F :=
  HG hd (fun a w s => by
    subst hi
    obtain ⟨e, hu, hsz⟩ := ht.und
    have he : P.elem t = e := by simp [Program.elem, hu]
    have hl : P.arrayLen t = m := by simp [Program.arrayLen, hu]
    have hlt : (0 : Int) ≤ (j : Int) ∧ (j : Int) < (m : Int) := by omega
    have := run_indexAt_array (P := P) w t ⟨b, o, none⟩ k (j : Int) (by rw [he, hl]; exact hu)
    rw [he, hl, if_pos hlt, hsz] at this
    simp only [execOp, GK s.slots hx, GK s.slots hy, Sem.run_bind, this]
    simp [Result.andThen, Addr.add_lit]) h
end
end Go.Sy
namespace Go.Sy
open Go Go.Proofs Go.RowKit
instance : ArS Tryz.prog 63 33 2 := ArS.of Tryz.underlying63 HR
instance : AgT Tryz.prog 63 66 := AgT.ofA Tryz.underlying63 HR
instance : ZeT Tryz.prog 63 (.agg (List.replicate 66 (Value.int .i64 0)).toArray) := ZeT.of HR
abbrev vI (i : Int) : Value := .int .i64 i
def spanF (a b : Int) (ks : List Nat) (T : List Value) : List Value := ks.foldl (fun T k => putL T (0 + k * 2) [vI a, vI b]) T
theorem spanF_len {a b : Int} (ks : List Nat) : ∀ T : List Value, (spanF a b ks T).length = T.length := by
  induction ks with
  | nil => intro T; rfl
  | cons k ks ih => intro T; show (spanF a b ks _).length = _; rw [ih, putL_length]
theorem spanF_step {a b : Int} {ks : List Nat} {T : List Value} {q : Nat} (hq : q < ks.length) : putL (spanF a b (ks.take q) T) (0 + ks[q] * 2) [vI a, vI b] = spanF a b (ks.take (q + 1)) T := by
  rw [List.take_succ_eq_append_getElem hq]; simp only [spanF, List.foldl_append, List.foldl_cons, List.foldl_nil]
theorem spanF0 {a b : Int} {ks : List Nat} {T : List Value} : spanF a b (ks.take 0) T = T := rfl
def spanA : List Nat := [6, 9, 11, 12, 18, 19, 20, 22, 27, 29, 30]
def spanB : List Nat := [10, 13, 14, 23, 24, 25]
def spanC : List Nat := [7, 15, 21]
def spanD : List Nat := [16, 17, 26, 32]
abbrev span0 : List Value := List.replicate 66 (vI 0)
abbrev span1 : List Value := spanF 1 1 spanA span0
abbrev span2 : List Value := spanF 2 2 spanB span1
abbrev span3 : List Value := spanF 1 (-1) spanC span2
abbrev span4 : List Value := spanF 0 (-1) spanD span3
def spanT : List Value := putL (putL span4 (0 + 28 * 2) [vI 4, vI 4]) (0 + 8 * 2) [vI 2, vI (-1)]
theorem spanT_row {k : Nat} (h : k < 33) : (spanT.drop (0 + k * 2)).take 2 = [vI (leastK k), vI (mostK k)] := by
  match k, h with
  | 0, _ | 1, _ | 2, _ | 3, _ | 4, _ | 5, _ | 6, _ | 7, _ | 8, _ | 9, _ | 10, _ | 11, _ | 12, _ | 13, _ | 14, _ | 15, _ | 16, _ | 17, _ | 18, _ | 19, _ | 20, _ | 21, _ | 22, _ | 23, _ | 24, _ | 25, _ | 26, _ | 27, _ | 28, _ | 29, _ | 30, _ | 31, _ | 32, _ => rfl
  | k + 33, h => exact absurd h HS
theorem spanT_all : (spanT.drop 0).take 66 = spanT := rfl
theorem spanT_one : spanT.all oneC = true := rfl
theorem spanT_put : putL span0 0 spanT = spanT := rfl
theorem spanT_len : spanT.length = 66 := rfl
abbrev eNatI (k : Nat) : List D := [.val (.int .i64 (k : Int))]
theorem ks33A : ∀ k ∈ spanA, k < 33 := by decide
theorem ks33B : ∀ k ∈ spanB, k < 33 := by decide
theorem ks33C : ∀ k ∈ spanC, k < 33 := by decide
theorem ks33D : ∀ k ∈ spanD, k < 33 := by decide
attribute [local irreducible] AC AT AO AK AH ACalls ACallsX ACallsD Sub Res.cells Res.obj Res.nix Res.own Res.map Exit.then Exit.inBlock Exit.noGoto bodyPost bodyPostD Code.wp Code.wpIn WL Next Post PostX Kont
attribute [local irreducible] spanF spanT
section
variable {W0 : World} {L : List Res} {F : List Fact} {R : Value → List Res → List Fact → Prop}
set_option maxRecDepth 100000
set_option maxHeartbeats 4000000
theorem spans_c (h : R (.agg spanT.toArray) L F) : ACalls Tryz.prog W0 34 #[] L F R := by
  refine Gn Tryz.func34 HQ Tryz.ntmps34 HQ ?_
  refine qs 2 ?_
  refine Gb (Hh HQ (fun b0 => ?_))
  refine qs 4 ?_
  refine Gb (Hh HQ (fun b1 => ?_))
  refine qs 5 ?_
  refine Gb (Gz (cs := spanA.map fun k : Nat => vI k) HQ HQ HQ HQ HQ HQ (fun b10 => ?_))
  rw [show (spanA.map fun k : Nat => vI k).map eV = spanA.map eNatI from rfl]
  refine Gb (Hr HQ HQ (fun hl11 => ?_) (hm := by repeat (first | exact mem0 | assumption | refine memS ?_)))
  refine qs 4 ?_
  refine Hj (fun (q : Nat) => q ≤ 11) (fun q => [(0, .pointer (some ⟨b0, 0, none⟩)), (1, .pointer (some ⟨b1, 0, none⟩)), (10, .slice (some ⟨b10, 0, none⟩) 11 11), (11, .int .i64 11), (12, .int .i64 (q : Int))]) (fun q => Res.cells b1 (spanF 1 (1) (spanA.take q) span0).toArray 63 :: Res.cells b0 span0.toArray 63 :: L) (fun _ => _) (fun q => 11 - q) 0 (Nat.zero_le _) srA (HM (by simp only [spanF0]; rfl)) ?_
  rintro q hq
  refine qs 2 ?_
  refine Gb (Hq HQ HQ HQ (fun c13 => ?_) (fun c13 => ?_))
  ·refine qs 10 ?_
   have hql : q < spanA.length := (show q < 11 by omega)
   have h33 := ks33A _ (List.getElem_mem hql)
   refine Gb (Hg HQ HQ HQ HQ (enc := eNatI) (lst := spanA) memA hql (fun _ _ => ?_))
   refine Gb (HN HQ HQ ?_)
   intros
   refine qs 6 ?_
   refine Gb (AO.indexP (j := spanA[q]) HQ HQ HQ HQ h33 ?_)
   refine Gb (HD (vs := [vI 1, vI (1)]) HQ HQ HQ HQ ?_ (ho := by rw [Nat.ble_eq, spanF_len]; first | exact (show 0 + spanA[q] * 2 + 2 ≤ 66 by omega) | (simp only [spanF_len]; exact (show 0 + spanA[q] * 2 + 2 ≤ 66 by omega))))
   rw [spanF_step hql]
   refine qs 7 ?_
   refine GX (q + 1) HS HS srA subF
  refine qs 12 ?_
  have hq9 : q = 11 := by omega
  subst hq9
  refine Gb (Gz (cs := spanB.map fun k : Nat => vI k) HQ HQ HQ HQ HQ HQ (fun b20 => ?_))
  rw [show (spanB.map fun k : Nat => vI k).map eV = spanB.map eNatI from rfl]
  refine Gb (Hr HQ HQ (fun hl21 => ?_) (hm := by repeat (first | exact mem0 | assumption | refine memS ?_)))
  refine qs 4 ?_
  refine Hj (fun (q : Nat) => q ≤ 6) (fun q => [(0, .pointer (some ⟨b0, 0, none⟩)), (1, .pointer (some ⟨b1, 0, none⟩)), (20, .slice (some ⟨b20, 0, none⟩) 6 6), (21, .int .i64 6), (22, .int .i64 (q : Int))]) (fun q => Res.cells b1 (spanF 2 (2) (spanB.take q) span1).toArray 63 :: Res.cells b0 span0.toArray 63 :: L) (fun _ => _) (fun q => 6 - q) 0 (Nat.zero_le _) srA (HM (by simp only [spanF0]; rfl)) ?_
  rintro q hq
  refine qs 2 ?_
  refine Gb (Hq HQ HQ HQ (fun c23 => ?_) (fun c23 => ?_))
  ·refine qs 10 ?_
   have hql : q < spanB.length := (show q < 6 by omega)
   have h33 := ks33B _ (List.getElem_mem hql)
   refine Gb (Hg HQ HQ HQ HQ (enc := eNatI) (lst := spanB) memA hql (fun _ _ => ?_))
   refine Gb (HN HQ HQ ?_)
   intros
   refine qs 6 ?_
   refine Gb (AO.indexP (j := spanB[q]) HQ HQ HQ HQ h33 ?_)
   refine Gb (HD (vs := [vI 2, vI (2)]) HQ HQ HQ HQ ?_ (ho := by rw [Nat.ble_eq, spanF_len]; first | exact (show 0 + spanB[q] * 2 + 2 ≤ 66 by omega) | (simp only [spanF_len]; exact (show 0 + spanB[q] * 2 + 2 ≤ 66 by omega))))
   rw [spanF_step hql]
   refine qs 7 ?_
   refine GX (q + 1) HS HS srA subF
  refine qs 12 ?_
  have hq9 : q = 6 := by omega
  subst hq9
  refine Gb (Gz (cs := spanC.map fun k : Nat => vI k) HQ HQ HQ HQ HQ HQ (fun b30 => ?_))
  rw [show (spanC.map fun k : Nat => vI k).map eV = spanC.map eNatI from rfl]
  refine Gb (Hr HQ HQ (fun hl31 => ?_) (hm := by repeat (first | exact mem0 | assumption | refine memS ?_)))
  refine qs 4 ?_
  refine Hj (fun (q : Nat) => q ≤ 3) (fun q => [(0, .pointer (some ⟨b0, 0, none⟩)), (1, .pointer (some ⟨b1, 0, none⟩)), (30, .slice (some ⟨b30, 0, none⟩) 3 3), (31, .int .i64 3), (32, .int .i64 (q : Int))]) (fun q => Res.cells b1 (spanF 1 (-1) (spanC.take q) span2).toArray 63 :: Res.cells b0 span0.toArray 63 :: L) (fun _ => _) (fun q => 3 - q) 0 (Nat.zero_le _) srA (HM (by simp only [spanF0]; rfl)) ?_
  rintro q hq
  refine qs 2 ?_
  refine Gb (Hq HQ HQ HQ (fun c33 => ?_) (fun c33 => ?_))
  ·refine qs 10 ?_
   have hql : q < spanC.length := (show q < 3 by omega)
   have h33 := ks33C _ (List.getElem_mem hql)
   refine Gb (Hg HQ HQ HQ HQ (enc := eNatI) (lst := spanC) memA hql (fun _ _ => ?_))
   refine Gb (HN HQ HQ ?_)
   intros
   refine qs 6 ?_
   refine Gb (AO.indexP (j := spanC[q]) HQ HQ HQ HQ h33 ?_)
   refine Gb (HD (vs := [vI 1, vI (-1)]) HQ HQ HQ HQ ?_ (ho := by rw [Nat.ble_eq, spanF_len]; first | exact (show 0 + spanC[q] * 2 + 2 ≤ 66 by omega) | (simp only [spanF_len]; exact (show 0 + spanC[q] * 2 + 2 ≤ 66 by omega))))
   rw [spanF_step hql]
   refine qs 7 ?_
   refine GX (q + 1) HS HS srA subF
  refine qs 12 ?_
  have hq9 : q = 3 := by omega
  subst hq9
  refine Gb (Gz (cs := spanD.map fun k : Nat => vI k) HQ HQ HQ HQ HQ HQ (fun b40 => ?_))
  rw [show (spanD.map fun k : Nat => vI k).map eV = spanD.map eNatI from rfl]
  refine Gb (Hr HQ HQ (fun hl41 => ?_) (hm := by repeat (first | exact mem0 | assumption | refine memS ?_)))
  refine qs 4 ?_
  refine Hj (fun (q : Nat) => q ≤ 4) (fun q => [(0, .pointer (some ⟨b0, 0, none⟩)), (1, .pointer (some ⟨b1, 0, none⟩)), (40, .slice (some ⟨b40, 0, none⟩) 4 4), (41, .int .i64 4), (42, .int .i64 (q : Int))]) (fun q => Res.cells b1 (spanF 0 (-1) (spanD.take q) span3).toArray 63 :: Res.cells b0 span0.toArray 63 :: L) (fun _ => _) (fun q => 4 - q) 0 (Nat.zero_le _) srA (HM (by simp only [spanF0]; rfl)) ?_
  rintro q hq
  refine qs 2 ?_
  refine Gb (Hq HQ HQ HQ (fun c43 => ?_) (fun c43 => ?_))
  ·refine qs 10 ?_
   have hql : q < spanD.length := (show q < 4 by omega)
   have h33 := ks33D _ (List.getElem_mem hql)
   refine Gb (Hg HQ HQ HQ HQ (enc := eNatI) (lst := spanD) memA hql (fun _ _ => ?_))
   refine Gb (HN HQ HQ ?_)
   intros
   refine qs 6 ?_
   refine Gb (AO.indexP (j := spanD[q]) HQ HQ HQ HQ h33 ?_)
   refine Gb (HD (vs := [vI 0, vI (-1)]) HQ HQ HQ HQ ?_ (ho := by rw [Nat.ble_eq, spanF_len]; first | exact (show 0 + spanD[q] * 2 + 2 ≤ 66 by omega) | (simp only [spanF_len]; exact (show 0 + spanD[q] * 2 + 2 ≤ 66 by omega))))
   rw [spanF_step hql]
   refine qs 7 ?_
   refine GX (q + 1) HS HS srA subF
  refine qs 11 ?_
  have hq9 : q = 4 := by omega
  subst hq9
  refine Gb (AO.build HQ HQ HQ ?_)
  refine qs 1 ?_
  refine Gb (AO.indexP (j := 28) HQ HQ HQ HQ (show 28 < 33 by omega) ?_)
  refine Gb (HD (vs := [vI 4, vI 4]) HQ HQ HQ HQ ?_ (ho := by rw [Nat.ble_eq, spanF_len, spanF_len, spanF_len, spanF_len]; exact (show 0 + 28 * 2 + 2 ≤ 66 by omega)))
  refine Gb (AO.indexP (j := 8) HQ HQ HQ HQ (show 8 < 33 by omega) ?_)
  refine Gb (HD (vs := [vI 2, vI (-1)]) HQ HQ HQ HQ ?_ (ho := by rw [Nat.ble_eq, putL_length, spanF_len, spanF_len, spanF_len, spanF_len]; exact (show 0 + 8 * 2 + 2 ≤ 66 by omega)))
  refine qs 4 ?_
  refine GT (HM (L' := Res.cells b1 spanT.toArray 63 :: Res.cells b0 span0.toArray 63 :: L) (by unfold spanT; rfl)) ?_
  refine Gb (AO.loadBA HQ HQ ?_ (hk := by rw [spanT_len]; rfl))
  rw [show (spanT.drop 0).take 66 = spanT from spanT_all]
  refine Gb (HD (i := 1) (vs := spanT) HQ HQ spanT_one spanT_len ?_ (hi := HQ) (ho := by rw [spanT_len]; rfl))
  rw [show putL span0 0 spanT = spanT from spanT_put]
  refine qs 3 ?_
  exact AK.retV (rs := [.cell 0 _]) (L' := L) (F' := F) Tryz.results34 (.agg (j := 1) rfl rfl (by rw [spanT_len]; rfl) .nil) subA (by rw [show (spanT.drop 0).take 66 = spanT from spanT_all]; exact h)
end
end Go.Sy
namespace Go.Sy
open Go Go.Proofs Go.RowKit
abbrev eBl (b : Bool) : List D := [.val (.bool b)]
abbrev fB (l : List Bool) (a : Option Addr) (k c : Nat) : Fact := .slc (.slice a k c) 1 (l.map eBl)
abbrev fKs (x : Nod) (a : Option Addr) (k c : Nat) : Fact := .slc (.slice a k c) 1 (x.kids.map eInt)
theorem setMB {M : List Bool} {v : Bool} {q : Nat} : (M.map Value.bool).set (0 + q * 1) (.bool v) = (M.set q v).map Value.bool := by
  rw [Nat.zero_add, Nat.mul_one, ← List.map_set]
theorem getMB {M : List Bool} {q : Nat} (hq : q < M.length) : (M.map Value.bool)[0 + q * 1]? = some (.bool (M.getD q false)) := by
  rw [Nat.zero_add, Nat.mul_one, List.getElem?_map, List.getElem?_eq_getElem hq, List.getD_eq_getElem?_getD, List.getElem?_eq_getElem hq]; rfl
attribute [local irreducible] AC AT AO AK AH ACalls ACallsX ACallsD Sub Res.cells Res.obj Res.nix Res.own Res.map Exit.then Exit.inBlock Exit.noGoto bodyPost bodyPostD Code.wp Code.wpIn WL Next Post PostX Kont
attribute [local irreducible] spanF spanT
section
variable {W0 : World} {L : List Res} {F : List Fact} {R : Value → List Res → List Fact → Prop}
set_option maxRecDepth 100000
set_option maxHeartbeats 4000000
theorem indexF_c (l : List Bool) {a : Option Addr} {k c : Nat} (mB : fB l a k c ∈ F) (hY : ∀ i : Int, 0 ≤ i → (∃ b ∈ l, b = false) → R (.int .i64 i) L F) (hN : (∀ b ∈ l, b ≠ false) → R (.int .i64 (-1)) L F) : ACalls Tryz.prog W0 78 #[.slice a k c, .bool false] L F R := by
  refine Gn Tryz.func78 HQ Tryz.ntmps78 HQ ?_
  refine qs 9 ?_
  refine Gb (Hr HQ HQ (fun hl7 => ?_) (enc := eBl) (lst := l) (hm := memA))
  refine qs 4 ?_
  refine Hj (fun (q : Nat) => q ≤ l.length ∧ ∀ j (hj : j < l.length), j < q → l[j] ≠ false) (fun q => [(0, .slice a k c), (1, .bool false), (7, .int .i64 l.length), (8, .int .i64 (q : Int))]) (fun _ => L) (fun _ => F) (fun q => l.length - q) 0 ⟨Nat.zero_le _, fun _ _ h => absurd h (Nat.not_lt_zero _)⟩ srA (Ga _ _) ?_
  rintro q ⟨hq, hno⟩
  refine qs 2 ?_
  refine Gb (Hq HQ HQ HQ (fun c9 => ?_) (fun c9 => ?_))
  ·refine qs 19 ?_
   have hql : q < l.length := by omega
   refine Gb (Hg HQ HQ HQ HQ (enc := eBl) (lst := l) memA hql (fun _ _ => ?_))
   refine Gb (HN HQ HQ ?_)
   intros
   refine Gb (AO.eqlB HQ HQ HQ ?_)
   refine qs 2 ?_
   refine AC.cond HQ (fun c16 => ?_) (fun c16 => ?_)
   ·refine qs 12 ?_
    exact Gg Tryz.results78 rfl subF (hY _ HS ⟨_, List.getElem_mem hql, (by simpa using c16)⟩)
   refine qs 7 ?_
   refine GX (q + 1) ⟨by omega, fun j hj hjq => ?_⟩ HS srA subF
   rcases Nat.lt_succ_iff_lt_or_eq.1 hjq with h | rfl
   · exact hno j hj h
   simpa using c16
  refine qs 15 ?_
  exact Gg Tryz.results78 rfl (Ga _ _) (hN (fun b hb => by
  obtain ⟨j, hj, rfl⟩ := List.mem_iff_getElem.1 hb
  exact hno j hj HS))
theorem hasF_c (l : List Bool) {a : Option Addr} {k c : Nat} (mB : fB l a k c ∈ F) (hY : (∃ b ∈ l, b = false) → R (.bool true) L F) (hN : (∀ b ∈ l, b ≠ false) → R (.bool false) L F) : ACalls Tryz.prog W0 35 #[.slice a k c, .bool false] L F R := by
  refine Gn Tryz.func35 HQ Tryz.ntmps35 HQ ?_
  refine qs 9 ?_
  refine Gb (Gi HQ HQ (indexF_c l mB (fun i hi he => ?_) (fun he => ?_)))
  ·refine Gb (AO.geq HQ HQ HQ (fun c8 => ?_) (fun c8 => ?_))
   ·refine qs 4 ?_
    first | exact Gg Tryz.results35 rfl (Ga _ _) (hY he) | exact Gg Tryz.results35 rfl (Ga _ _) (hN he) | exact (show False by omega).elim
   refine qs 4 ?_
   first | exact Gg Tryz.results35 rfl (Ga _ _) (hY he) | exact Gg Tryz.results35 rfl (Ga _ _) (hN he) | exact (show False by omega).elim
  refine Gb (AO.geq HQ HQ HQ (fun c8 => ?_) (fun c8 => ?_))
  ·refine qs 4 ?_
   first | exact Gg Tryz.results35 rfl (Ga _ _) (hY he) | exact Gg Tryz.results35 rfl (Ga _ _) (hN he) | exact (show False by omega).elim
  refine qs 4 ?_
  first | exact Gg Tryz.results35 rfl (Ga _ _) (hY he) | exact Gg Tryz.results35 rfl (Ga _ _) (hN he) | exact (show False by omega).elim
theorem right_c (l : List Nod) {a : Option Addr} {k c : Nat} (mL : fNod l a k c ∈ F) (hT : RightN l → R (.bool true) L F) (hF : ¬RightN l → R (.bool false) L F) : ACalls Tryz.prog W0 18 #[.slice a k c] L F R := by
  refine Gn Tryz.func18 HQ Tryz.ntmps18 HQ ?_
  refine qs 9 ?_
  refine Gb (Hr HQ HQ (fun hl11 => ?_) (hm := by repeat (first | exact mem0 | assumption | refine memS ?_)))
  refine Gb (Hq HQ HQ HQ (fun c12 => ?_) (fun c12 => ?_))
  ·refine qs 15 ?_
   exact Gg Tryz.results18 rfl (Ga _ _) (hF (fun hr => by have := hr.one; omega))
  refine qs 2 ?_
  refine Gr HQ HQ (Hr HQ HQ (fun hl15 => ?_) (hm := by repeat (first | exact mem0 | assumption | refine memS ?_)))
  refine Gr HQ HQ (AO.gtr HQ HQ HQ (fun c16 => ?_) (fun c16 => ?_))
  ·refine qs 11 ?_
   exact Gg Tryz.results18 rfl (Ga _ _) (hF (fun hr => by have := hr.many; omega))
  refine qs 8 ?_
  refine Gb (Gi HQ HQ (spans_c ?_))
  refine Gb (Hh HQ (fun b3 => ?_))
  refine GT (HM (L' := Res.cells b3 span0.toArray 63 :: L) HQ) ?_
  refine Gb (HD (vs := spanT) HQ HQ spanT_one spanT_len ?_ (ho := by rw [spanT_len]; rfl))
  rw [show putL span0 0 spanT = spanT from spanT_put]
  refine qs 5 ?_
  refine Gb (Hr HQ HQ (fun hl20 => ?_) (hm := by repeat (first | exact mem0 | assumption | refine memS ?_)))
  refine Gb (AO.makeSlice1 (m := l.length) HQ HQ HQ HS HS HS HQ (fun b21 => ?_))
  refine GT (HM (L' := Res.cells b21 ((usedL l.length ((l.take 0).flatMap Nod.kids)).map Value.bool).toArray 4 :: Res.cells b3 spanT.toArray 63 :: L) (by simp [usedL_nil])) ?_
  refine qs 7 ?_
  refine Gb (Hr HQ HQ (fun hl23 => ?_) (hm := by repeat (first | exact mem0 | assumption | refine memS ?_)))
  refine qs 4 ?_
  refine Hj (fun (q : Nat) => q ≤ l.length ∧ PreR l q) (fun q => [(0, .slice a k c), (3, .pointer (some ⟨b3, 0, none⟩)), (4, .slice (some ⟨b21, 0, none⟩) l.length l.length), (22, .slice a k c), (23, .int .i64 l.length), (24, .int .i64 (q : Int))]) (fun q => Res.cells b21 ((usedL l.length ((l.take q).flatMap Nod.kids)).map Value.bool).toArray 4 :: Res.cells b3 spanT.toArray 63 :: L) (fun _ => F) (fun q => l.length - q) 0 ⟨Nat.zero_le _, pre0⟩ srA (Ga _ _) ?_
  rintro q ⟨hq, hpre⟩
  refine qs 2 ?_
  refine Gb (Hq HQ HQ HQ (fun c25 => ?_) (fun c25 => ?_))
  ·refine qs 11 ?_
   have hql : q < l.length := by omega
   refine Gb (Hg HQ HQ HQ HQ (enc := eNod) (lst := l) memA hql (fun _ _ => ?_))
   refine Gb (AO.loadFA HQ HQ ?_)
   intro a28 k28 c28
   refine Gb (Hh HQ (fun b6 => ?_))
   refine qs 9 ?_
   refine Gb (Hq HQ HQ HQ (fun c31 => ?_) (fun c31 => ?_))
   ·refine qs 30 ?_
    exact Gg (L' := L) (F' := F) Tryz.results18 rfl subA (hF (fun hr => by have hn := hr.node q l[q] (List.getElem?_eq_getElem hql); omega))
   refine qs 3 ?_
   refine Gr HQ HQ (AO.gtr HQ HQ HQ (fun c35 => ?_) (fun c35 => ?_))
   ·refine qs 26 ?_
    exact Gg (L' := L) (F' := F) Tryz.results18 rfl subA (hF (fun hr => by have hn := hr.node q l[q] (List.getElem?_eq_getElem hql); omega))
   refine qs 4 ?_
   refine Gr HQ HQ (Hq HQ HQ HQ (fun c40 => ?_) (fun c40 => ?_))
   ·refine qs 21 ?_
    exact Gg (L' := L) (F' := F) Tryz.results18 rfl subA (hF (fun hr => by have hn := hr.node q l[q] (List.getElem?_eq_getElem hql); omega))
   refine qs 4 ?_
   refine Gr HQ HQ (AO.gtr HQ HQ HQ (fun c45 => ?_) (fun c45 => ?_))
   ·refine qs 16 ?_
    exact Gg (L' := L) (F' := F) Tryz.results18 rfl subA (hF (fun hr => by have hn := hr.node q l[q] (List.getElem?_eq_getElem hql); omega))
   refine qs 10 ?_
   have hkn : l[q].kind = ((l[q].kind.toNat : Nat) : Int) := by omega
   have h33 : l[q].kind.toNat < 33 := by omega
   have hki := kidsOk_iff l[q].kind.toNat l[q].kids.length
   rw [← hkn] at hki
   refine Gb (AO.indexP (j := l[q].kind.toNat) HQ HQ HQ hkn h33 ?_)
   refine Gb (AO.loadBA HQ HQ ?_ (hk := by rw [spanT_len, Nat.ble_eq]; omega))
   rw [spanT_row h33]
   refine Gb (Hh HQ (fun b7 => ?_))
   refine qs 8 ?_
   refine Gb (Hr HQ HQ (fun hl53 => ?_) (enc := eInt) (lst := l[q].kids) (hm := memA))
   refine qs 2 ?_
   refine Gb (Hq HQ HQ HQ (fun c56 => ?_) (fun c56 => ?_))
   ·refine qs 28 ?_
    exact Gg (L' := L) (F' := F) Tryz.results18 rfl subA (hF (fun hr => by have hn := hr.node q l[q] (List.getElem?_eq_getElem hql); have := hki.1 hn.2.2.1; omega))
   refine qs 3 ?_
   refine Gr HQ HQ (AO.geq HQ HQ HQ (fun c60 => ?_) (fun c60 => ?_))
   ·refine qs 3 ?_
    refine Gr HQ HQ (Hr HQ HQ (fun hl64 => ?_) (enc := eInt) (lst := l[q].kids) (hm := memA))
    refine qs 2 ?_
    refine Gr HQ HQ (AO.gtr HQ HQ HQ (fun c67 => ?_) (fun c67 => ?_))
    ·refine qs 17 ?_
     exact Gg (L' := L) (F' := F) Tryz.results18 rfl subA (hF (fun hr => by have hn := hr.node q l[q] (List.getElem?_eq_getElem hql); have := hki.1 hn.2.2.1; omega))
    refine qs 11 ?_
    have hok := hki.2 ⟨by omega, by omega⟩
    refine Gb (Hr HQ HQ (fun hl72 => ?_) (enc := eInt) (lst := l[q].kids) (hm := memA))
    refine qs 4 ?_
    refine Hj (fun (v : Nat) => v ≤ l[q].kids.length ∧ PreK l q l[q] v) (fun v => [(0, .slice a k c), (3, .pointer (some ⟨b3, 0, none⟩)), (4, .slice (some ⟨b21, 0, none⟩) l.length l.length), (5, .int .i64 (q : Int)), (22, .slice a k c), (23, .int .i64 l.length), (24, .int .i64 (q : Int)), (71, .slice a28 k28 c28), (72, .int .i64 l[q].kids.length), (73, .int .i64 (v : Int))]) (fun v => Res.cells b21 ((usedL l.length ((l.take q).flatMap Nod.kids ++ l[q].kids.take v)).map Value.bool).toArray 4 :: Res.cells b3 spanT.toArray 63 :: L) (fun _ => _) (fun v => l[q].kids.length - v) 0 ⟨Nat.zero_le _, preK0 hpre⟩ srA (Sub.drop.trans (Sub.drop.trans (HM (by simp)))) ?_
    rintro v ⟨hv, hpk⟩
    refine qs 2 ?_
    refine Gb (Hq HQ HQ HQ (fun c74 => ?_) (fun c74 => ?_))
    ·refine qs 10 ?_
     have hvl : v < l[q].kids.length := by omega
     refine Gb (Hg HQ HQ HQ HQ (enc := eInt) (lst := l[q].kids) memA hvl (fun _ _ => ?_))
     refine Gb (HN HQ HQ ?_)
     intros
     refine qs 7 ?_
     refine Gb (Hq HQ HQ HQ (fun c78 => ?_) (fun c78 => ?_))
     ·refine qs 30 ?_
      exact Gg (L' := L) (F' := F) Tryz.results18 rfl subA (hF (fun hr => by have := hr.kid hql hvl; omega))
     refine qs 3 ?_
     refine Gr HQ HQ (AO.geq HQ HQ HQ (fun c82 => ?_) (fun c82 => ?_))
     ·refine qs 26 ?_
      exact Gg (L' := L) (F' := F) Tryz.results18 rfl subA (hF (fun hr => by have := hr.kid hql hvl; omega))
     refine qs 4 ?_
     have hul := usedL_len l.length ((l.take q).flatMap Nod.kids ++ l[q].kids.take v)
     have hkv : l[q].kids[v] = ((l[q].kids[v].toNat : Nat) : Int) := by omega
     refine Gr HQ HQ (AO.ofY (GE (k := l[q].kids[v].toNat) HQ HQ hkv HS) HQ ?_)
     refine Gr HQ HQ (GL (v := .bool ((usedL l.length ((l.take q).flatMap Nod.kids ++ l[q].kids.take v)).getD l[q].kids[v].toNat false)) HQ HQ ?_ (hv := getMB HS))
     rw [usedL_get _ (show l[q].kids[v].toNat < l.length by omega), ← hkv]
     refine qs 3 ?_
     refine AC.cond HQ (fun c89 => ?_) (fun c89 => ?_)
     ·refine qs 16 ?_
      exact Gg (L' := L) (F' := F) Tryz.results18 rfl subA (hF (fun hr => (hr.kid hql hvl).2 (by simpa using c89)))
     refine qs 5 ?_
     refine Gb (AO.ofY (GE (k := l[q].kids[v].toNat) HQ HQ hkv HS) HQ ?_)
     refine Gb (HF (v := .bool true) (cs := (usedL l.length ((l.take q).flatMap Nod.kids ++ l[q].kids.take v)).map Value.bool) HQ HQ HQ ?_ (ho := by show Nat.ble _ _ = true; rw [Nat.ble_eq, List.length_map, hul]; omega))
     rw [setMB, usedL_set, ← hkv, List.append_assoc, show l[q].kids.take v ++ [l[q].kids[v]] = l[q].kids.take (v + 1) from (List.take_succ_eq_append_getElem hvl).symm]
     refine qs 7 ?_
     refine GX (v + 1) ⟨by omega, hpk.step hvl ⟨by omega, by omega⟩ (by simpa using c89)⟩ HS srA subF
    refine qs 14 ?_
    refine GX (q + 1) ⟨by omega, hpre.step hql ⟨by omega, by omega⟩ ⟨by omega, by omega⟩ hok hpk HS⟩ HS srA ?_
    rw [take_kids hql, show l[q].kids.take v = l[q].kids from List.take_of_length_le HS]
    exact subF
   refine qs 18 ?_
   have hok := hki.2 ⟨by omega, by omega⟩
   refine Gb (Hr HQ HQ (fun hl72 => ?_) (enc := eInt) (lst := l[q].kids) (hm := memA))
   refine qs 4 ?_
   refine Hj (fun (v : Nat) => v ≤ l[q].kids.length ∧ PreK l q l[q] v) (fun v => [(0, .slice a k c), (3, .pointer (some ⟨b3, 0, none⟩)), (4, .slice (some ⟨b21, 0, none⟩) l.length l.length), (5, .int .i64 (q : Int)), (22, .slice a k c), (23, .int .i64 l.length), (24, .int .i64 (q : Int)), (71, .slice a28 k28 c28), (72, .int .i64 l[q].kids.length), (73, .int .i64 (v : Int))]) (fun v => Res.cells b21 ((usedL l.length ((l.take q).flatMap Nod.kids ++ l[q].kids.take v)).map Value.bool).toArray 4 :: Res.cells b3 spanT.toArray 63 :: L) (fun _ => _) (fun v => l[q].kids.length - v) 0 ⟨Nat.zero_le _, preK0 hpre⟩ srA (Sub.drop.trans (Sub.drop.trans (HM (by simp)))) ?_
   rintro v ⟨hv, hpk⟩
   refine qs 2 ?_
   refine Gb (Hq HQ HQ HQ (fun c74 => ?_) (fun c74 => ?_))
   ·refine qs 10 ?_
    have hvl : v < l[q].kids.length := by omega
    refine Gb (Hg HQ HQ HQ HQ (enc := eInt) (lst := l[q].kids) memA hvl (fun _ _ => ?_))
    refine Gb (HN HQ HQ ?_)
    intros
    refine qs 7 ?_
    refine Gb (Hq HQ HQ HQ (fun c78 => ?_) (fun c78 => ?_))
    ·refine qs 30 ?_
     exact Gg (L' := L) (F' := F) Tryz.results18 rfl subA (hF (fun hr => by have := hr.kid hql hvl; omega))
    refine qs 3 ?_
    refine Gr HQ HQ (AO.geq HQ HQ HQ (fun c82 => ?_) (fun c82 => ?_))
    ·refine qs 26 ?_
     exact Gg (L' := L) (F' := F) Tryz.results18 rfl subA (hF (fun hr => by have := hr.kid hql hvl; omega))
    refine qs 4 ?_
    have hul := usedL_len l.length ((l.take q).flatMap Nod.kids ++ l[q].kids.take v)
    have hkv : l[q].kids[v] = ((l[q].kids[v].toNat : Nat) : Int) := by omega
    refine Gr HQ HQ (AO.ofY (GE (k := l[q].kids[v].toNat) HQ HQ hkv HS) HQ ?_)
    refine Gr HQ HQ (GL (v := .bool ((usedL l.length ((l.take q).flatMap Nod.kids ++ l[q].kids.take v)).getD l[q].kids[v].toNat false)) HQ HQ ?_ (hv := getMB HS))
    rw [usedL_get _ (show l[q].kids[v].toNat < l.length by omega), ← hkv]
    refine qs 3 ?_
    refine AC.cond HQ (fun c89 => ?_) (fun c89 => ?_)
    ·refine qs 16 ?_
     exact Gg (L' := L) (F' := F) Tryz.results18 rfl subA (hF (fun hr => (hr.kid hql hvl).2 (by simpa using c89)))
    refine qs 5 ?_
    refine Gb (AO.ofY (GE (k := l[q].kids[v].toNat) HQ HQ hkv HS) HQ ?_)
    refine Gb (HF (v := .bool true) (cs := (usedL l.length ((l.take q).flatMap Nod.kids ++ l[q].kids.take v)).map Value.bool) HQ HQ HQ ?_ (ho := by show Nat.ble _ _ = true; rw [Nat.ble_eq, List.length_map, hul]; omega))
    rw [setMB, usedL_set, ← hkv, List.append_assoc, show l[q].kids.take v ++ [l[q].kids[v]] = l[q].kids.take (v + 1) from (List.take_succ_eq_append_getElem hvl).symm]
    refine qs 7 ?_
    refine GX (v + 1) ⟨by omega, hpk.step hvl ⟨by omega, by omega⟩ (by simpa using c89)⟩ HS srA subF
   refine qs 14 ?_
   refine GX (q + 1) ⟨by omega, hpre.step hql ⟨by omega, by omega⟩ ⟨by omega, by omega⟩ hok hpk HS⟩ HS srA ?_
   rw [take_kids hql, show l[q].kids.take v = l[q].kids from List.take_of_length_le HS]
   exact subF
  refine qs 11 ?_
  have hq9 : q = l.length := by omega
  subst hq9
  rw [show l.take l.length = l from List.take_of_length_le (Nat.le_refl _)]
  refine GT ((Sub.lit (i := 0) (enc := eBl) (sz := 1) (k := l.length) (usedL l.length (l.flatMap Nod.kids)) HQ (cells_B _) (fun _ => rfl) (usedL_len _ _) (by simp only [maxLen]; omega)).trans Gf) ?_
  refine Gb (AO.move HQ HQ ?_)
  refine qs 1 ?_
  refine Gb (Hr HQ HQ (fun hl97 => ?_) (hm := by repeat (first | exact mem0 | assumption | refine memS ?_)))
  refine qs 1 ?_
  refine Gb (AO.sliceH (j' := l.length - 1) HQ HQ HQ HS (enc := eBl) (lst := usedL l.length (l.flatMap Nod.kids)) memA (by rw [usedL_len]; omega) (fun a99 k99 c99 => ?_))
  refine Gb (Gi HQ HQ (hasF_c _ mem0 (fun he => ?_) (fun he => ?_)))
  ·refine qs 5 ?_
   first | exact Gg (L' := L) (F' := F) Tryz.results18 rfl subA (hT (hpre.right HS HS he)) | exact Gg (L' := L) (F' := F) Tryz.results18 rfl subA (hF (fun hr => by obtain ⟨b, hb, e⟩ := he; exact hr.allU b hb e))
  refine qs 5 ?_
  first | exact Gg (L' := L) (F' := F) Tryz.results18 rfl subA (hT (hpre.right HS HS he)) | exact Gg (L' := L) (F' := F) Tryz.results18 rfl subA (hF (fun hr => by obtain ⟨b, hb, e⟩ := he; exact hr.allU b hb e))
end
end Go.Sy
namespace Go.Sy
open Go Go.RowKit
section
variable {P : Program} {W0 : World} {n : Nat} {Q : Po} {ρ : Rho} {L : List Res} {F : List Fact} {K : Act → World → Prop}
variable {t ty : TypeId} {pos : String} {af : Array Edge} {g : Option (Nat × Bool)}
variable {κ β : Type} {kenc : κ → Value} {venc : β → Value} {m : κ → Option β}
theorem AO.insert {k e : TypeId} {x y z : Operand} {b i : Nat} (q : κ) (r : β) (hx : ev ρ x = some (.map (some b))) (hy : ev ρ y = some (kenc q)) (hz : ev ρ z = some (venc r)) [hk : KyT P k kenc] [ht : MpT P t k e] (hi : L[i]? = some (Res.map b kenc venc m))
    (h : AT W0 n K ρ (L.set i (Res.map b kenc venc (upd m q r))) F) : AO P W0 n K ⟨none, .insert t x y z, ty, pos, af, g⟩ Q ρ L F := by
  intro a w s
  have h1 := (AO.mapUpdate (P := P) (pos := pos) (ty := ty) (af := af) (g := g) (t := t) (Q := Q) q r hx hy hz hi h) a w s
  have e : execOp a.eval ⟨none, .insert t x y z, ty, pos, af, g⟩ = execOp a.eval ⟨none, .mapUpdate t x y z, ty, pos, af, g⟩ := by
    simp only [execOp]
  unfold ow at h1 ⊢
  rw [e]
  refine ⟨fun c hc => by (cases hc), ?_⟩
  have h2 := h1.2
  generalize (execOp a.eval ⟨none, .mapUpdate t x y z, ty, pos, af, g⟩).run P w = rr at h2 ⊢
  cases rr with
  | ok v w' => cases v <;> exact h2
  | _ => exact h2
end
section
variable {P : Program} {n : Nat} {ρ : Rho} {T : World → Prop} {d : Option Tmp} {ty t : TypeId} {pos : String} {af : Array Edge} {g : Option (Nat × Bool)} {x y : Operand}
theorem Y.sliceL {a : Option Addr} {len cap e sz bytes i' : Nat} {i : Int} {k' : IntKind} [ht : SlT P t e sz bytes] (hx : ev ρ x = some (.slice a len cap)) (hy : ev ρ y = some (.int k' i)) (hi : i = (i' : Int)) (h2 : i' ≤ len) : Yd P n ρ T ⟨d, .slice t x (some y) none none, ty, pos, af, g⟩ (sliced a i' len cap sz) := ⟨fun s w st _ => by
  subst hi
  simp only [execOp, GK st hx, Option.map_none, Option.map_some, GK st hy, Sem.run_bind, run_sliceAt_slice (P := P) w t _ _ _ _ (SlT.elem (t := t) (e := e) (bytes := bytes) (sz := sz)), run_slice_any (P := P) w t a _ cap (SlT.elem (t := t) (e := e) (bytes := bytes) (sz := sz)), SlT.size (t := t) (e := e) (bytes := bytes) (sz := sz)]
  simp [Instr.sliceBounds, Instr.sliceBound, asIntOf, Result.andThen, h2]⟩
end
theorem Sub.tail {L : List Res} {F : List Fact} {a : Option Addr} {k c sz : Nat} {α : Type} {enc : α → List D} {lst : List α} (i : Nat) (hm : Fact.slc (.slice a k c) sz (lst.map enc) ∈ F) (h1 : i ≤ lst.length) (hk : k = lst.length) (hc : k ≤ c) :
    Sub L F L (.slc (sliced a i k c sz) sz ((lst.drop i).map enc) :: F) := by
  have := Sub.part (L := L) i k c hm HS HS hc (Nat.le_refl _)
  rwa [List.take_of_length_le (by rw [List.length_drop]; omega)] at this
theorem Sub.init {L : List Res} {F : List Fact} {a : Option Addr} {k c sz : Nat} {α : Type} {enc : α → List D} {lst : List α} (j : Nat) (hm : Fact.slc (.slice a k c) sz (lst.map enc) ∈ F) (h1 : j ≤ lst.length) (hc : j ≤ c) :
    Sub L F L (.slc (sliced a 0 j c sz) sz ((lst.take j).map enc) :: F) := by
  have := Sub.part (L := L) 0 j c hm (Nat.zero_le _) h1 hc (Nat.le_refl _)
  simpa using this
section
variable {P : Program} {W0 : World} {n : Nat} {Q : Po} {ρ : Rho} {L : List Res} {F : List Fact} {K : Act → World → Prop}
variable {d : Tmp} {ty t : TypeId} {pos : String} {af : Array Edge} {g : Option (Nat × Bool)} {κ β : Type} {kenc : κ → Value} {venc : β → Value} {m : κ → Option β}
theorem AO.lookupS {k e : TypeId} {z : Value} {x y : Operand} {b i : Nat} (q : κ) {v : β} (hv : m q = some v) (hx : ev ρ x = some (.map (some b))) (hy : ev ρ y = some (kenc q)) (hd : Nat.blt d n = true) [hk : KyT P k kenc] [ht : MpT P t k e] [hz : ZeT P e z] (hi : L[i]? = some (Res.map b kenc venc m))
    (h : AT W0 n K ((d, venc v) :: ρ) L F) : AO P W0 n K ⟨some d, .lookup t x y false, ty, pos, af, g⟩ Q ρ L F :=
  AO.lookup (z := z) q hx hy hd hi (by rw [hv]; exact h)
end
section
variable {P : Program} {W0 : World} {n : Nat} {Q : Po} {ρ : Rho} {L : List Res} {F : List Fact} {K : Act → World → Prop}
variable {t ty : TypeId} {pos : String} {af : Array Edge} {g : Option (Nat × Bool)} {κ β : Type} {kenc : κ → Value} {venc : β → Value} {m : κ → Option β}
theorem AO.insert0 {k e : TypeId} {x y z : Operand} {b : Nat} (q : κ) (r : β) (hx : ev ρ x = some (.map (some b))) (hy : ev ρ y = some (kenc q)) (hz : ev ρ z = some (venc r)) [hk : KyT P k kenc] [ht : MpT P t k e]
    (h : AT W0 n K ρ (Res.map b kenc venc (upd m q r) :: L) F) : AO P W0 n K ⟨none, .insert t x y z, ty, pos, af, g⟩ Q ρ (Res.map b kenc venc m :: L) F :=
  AO.insert (i := 0) q r hx hy hz rfl h
end
end Go.Sy
namespace Go.Sy
abbrev GM := @AO.insert0
end Go.Sy
namespace Go.Sy
open Go Go.Proofs Go.RowKit
abbrev vW (a : Option Addr) (k c : Nat) : Value := .agg #[.slice a k c]
abbrev vNod (n : Nod) (a : Option Addr) (k c : Nat) : Value := .agg #[.int .i64 n.kind, S n.text, .slice a k c, .int .i64 n.pos]
def TxC (W0 : World) (l : List Nod) (T : Nat → Bs) (i : Nat) : Prop :=
  ∀ (j : Int), 0 ≤ j → j < (i : Int) → ∀ {L : List Res} {F : List Fact} {R : Value → List Res → List Fact → Prop} {a : Option Addr} {k c : Nat}, fNod l a k c ∈ F → R (S (tx T j)) L F → ACalls Tryz.prog W0 19 #[vW a k c, .int .i64 j] L F R
attribute [local irreducible] AC AT AO AK AH ACalls ACallsX ACallsD Sub Res.cells Res.obj Res.nix Res.own Res.map Exit.then Exit.inBlock Exit.noGoto bodyPost bodyPostD Code.wp Code.wpIn WL Next Post PostX Kont
section
variable {W0 : World} {L : List Res} {F : List Fact} {R : Value → List Res → List Fact → Prop}
set_option maxRecDepth 100000
set_option maxHeartbeats 4000000
theorem gjoin_c (l : List Bs) (sep : Bs) {a : Option Addr} {k c : Nat} (m1 : Fact.slc (.slice a k c) 1 (l.map eStr) ∈ F) (hl : l.length ≤ 100000) (hj : (Lib.join l sep).length ≤ 100000000) (h : R (S (Lib.join l sep)) L F) : ACalls Tryz.prog W0 109 #[.slice a k c, S sep] L F R := by
  refine ACalls.lib (fun w sat => ?_) h
  obtain ⟨a', c', e, hc, hne⟩ := sat.slcAt (en := S) m1
  injection e with e1 e2 e3
  subst e1 e2 e3
  cases l with
  | nil =>
    refine (Tryz.strings_Join_none a c ⟨sep.toArray⟩ w).mono fun e w' he => ⟨he.1, by rw [he.2]; exact Below.refl _ _⟩
  | cons x l =>
    obtain ⟨b, o, rfl, hb, hcell⟩ := hne (by simp)
    have := Tryz.strings_Join b o c ((x :: l).map fun s => ⟨s.toArray⟩) ⟨sep.toArray⟩ w (by
      intro j y hy
      rw [List.getElem?_map] at hy
      cases hx : (x :: l)[j]? with
      | none => rw [hx] at hy; simp at hy
      | some z => rw [hx] at hy; simp at hy; subst hy; exact hcell j z hx) hb (by simp at hl ⊢; omega) (by simpa using hc) (by
        have e : ((x :: l).map fun s => (⟨s.toArray⟩ : ByteArray)).map (·.data.toList) = x :: l := by rw [List.map_map]; simp [Function.comp_def]
        rw [e]; show (Lib.join (x :: l) sep).length ≤ _; omega)
    have e : ((x :: l).map fun s => (⟨s.toArray⟩ : ByteArray)).map (·.data.toList) = x :: l := by rw [List.map_map]; simp [Function.comp_def]
    rw [e, List.length_map] at this
    exact this
theorem wall_c (l : List Nod) (T : Nat → Bs) {i : Nat} (ih : TxC W0 l T i) (ks : List Int) (hks : ∀ x ∈ ks, 0 ≤ x ∧ x < (i : Int)) (hfew : ks.length ≤ 4000) (sep : Bs) (hlen : (allB T ks sep).length ≤ 100000000) {a a2 : Option Addr} {k c k2 c2 : Nat} (mL : fNod l a k c ∈ F) (m2 : Fact.slc (.slice a2 k2 c2) 1 (ks.map eInt) ∈ F)
    (h : R (S (allB T ks sep)) L F) : ACalls Tryz.prog W0 79 #[vW a k c, .slice a2 k2 c2, S sep] L F R := by
  have hml : 100000 ≤ maxLen := by decide
  refine Gn Tryz.func79 HQ Tryz.ntmps79 HQ ?_
  refine qs 2 ?_
  refine Gb (GH HQ HQ (fun b3 => ?_))
  refine qs 12 ?_
  refine Gb (Hr HQ HQ (fun hl11 => ?_) (enc := eInt) (lst := ks) (hm := memA))
  refine qs 4 ?_
  refine Hj (fun (x : Nat × (Option Addr × Nat × Nat)) => x.1 ≤ ks.length) (fun x => [(2, S sep), (3, .pointer (some ⟨b3, 0, none⟩)), (7, .slice x.2.1 x.2.2.1 x.2.2.2), (10, .slice a2 k2 c2), (11, .int .i64 ks.length), (12, .int .i64 (x.1 : Int))]) (fun x => Res.own (.slice x.2.1 x.2.2.1 x.2.2.2) 9 1 (((ks.take x.1).map (tx T)).map eStr) :: Res.cells b3 #[.slice a k c] 46 :: L) (fun _ => F) (fun x => ks.length - x.1) (0, (none, 0, 0)) (by simp) srA Sub.ownNil ?_
  rintro ⟨q, ⟨a3, k3, c3⟩⟩ hq
  simp only at hq ⊢
  refine qs 2 ?_
  refine Gb (Hq HQ HQ HQ (fun c13 => ?_) (fun c13 => ?_))
  ·refine qs 10 ?_
   have hql : q < ks.length := by omega
   have hb := hks _ (List.getElem_mem hql)
   refine Gb (Hg HQ HQ HQ HQ (enc := eInt) (lst := ks) memA hql (fun _ _ => ?_))
   refine Gb (HN HQ HQ ?_)
   intros
   refine qs 7 ?_
   refine Gb (Gi HQ HQ (ih ks[q] hb.1 hb.2 memA ?_))
   refine Gb (GN HQ HQ HQ HQ HQ (fun b20 => ?_))
   have htl : ((ks.take q).map (tx T)).length = q := by rw [List.length_map, List.length_take]; omega
   refine Gb (Ho (i := 0) (enc := eStr) (lst := (ks.take q).map (tx T)) [tx T ks[q]] HQ HQ HQ HQ (.val .nil) HQ HQ (fun _ => rfl) (by rw [htl]; simp only [maxLen]; omega) (by rw [htl]; omega) (fun a21 k21 c21 => ?_))
   refine qs 8 ?_
   refine GX (q + 1, (a21, k21, c21)) (by show q + 1 ≤ _; omega) (by show ks.length - (q + 1) < ks.length - q; omega) srA ?_
   simp only
   rw [show (ks.take (q + 1)).map (tx T) = (ks.take q).map (tx T) ++ [tx T ks[q]] by rw [List.take_succ_eq_append_getElem hql, List.map_append]; rfl]
   exact subF
  refine qs 13 ?_
  have hall : ks.take q = ks := List.take_of_length_le HS
  rw [hall]
  refine GT ((He (i := 0) HQ).trans Gf) ?_
  refine Gb (Gi HQ HQ (gjoin_c (ks.map (tx T)) sep memA (by rw [List.length_map]; omega) hlen ?_))
  refine qs 4 ?_
  exact Gg (L' := L) (F' := F) Tryz.results79 rfl subA h
end
end Go.Sy
namespace Go.Sy
open Go Go.Proofs Go.RowKit
attribute [local irreducible] AC AT AO AK AH ACalls ACallsX ACallsD Sub Res.cells Res.obj Res.nix Res.own Res.map Exit.then Exit.inBlock Exit.noGoto bodyPost bodyPostD Code.wp Code.wpIn WL Next Post PostX Kont
section
variable {W0 : World} {L : List Res} {F : List Fact} {R : Value → List Res → List Fact → Prop}
set_option maxRecDepth 100000
set_option maxHeartbeats 4000000
variable {a a1 : Option Addr} {k c k1 c1 : Nat}
theorem wnothing_c (n : Nod) (h : R (S []) L F) : ACalls Tryz.prog W0 36 #[vW a k c, vNod n a1 k1 c1] L F R := by
  refine Gn Tryz.func36 HQ Tryz.ntmps36 HQ ?_
  refine qs 2 ?_
  refine Gb (GH HQ HQ (fun b2 => (Gb (GH HQ HQ (fun b3 => ?_)))))
  refine qs 9 ?_
  exact Gg (L' := L) (F' := F) Tryz.results36 rfl (by repeat (first | exact Ga _ _ | refine Ge Gf ?_)) h
theorem wplain_c (n : Nod) (h : R (S n.text) L F) : ACalls Tryz.prog W0 37 #[vW a k c, vNod n a1 k1 c1] L F R := by
  refine Gn Tryz.func37 HQ Tryz.ntmps37 HQ ?_
  refine qs 2 ?_
  refine Gb (GH HQ HQ (fun b2 => (Gb (GH HQ HQ (fun b3 => ?_)))))
  refine qs 11 ?_
  exact Gg (L' := L) (F' := F) Tryz.results37 rfl (by repeat (first | exact Ga _ _ | refine Ge Gf ?_)) h
theorem kid0_row {n : Nod} {hx : H} (hm : (fKs n a1 k1 c1).holds hx) (h : 0 < n.kids.length) : ∃ p o, a1 = some ⟨p, o, none⟩ ∧ hx p (o + 0 * 1 + 0) = some (.int .i64 (kid n 0)) ∧ k1 = n.kids.length := by
  obtain ⟨p, o, e, at1⟩ := Hs hm h
  obtain ⟨v, hv, hc⟩ := at1 0 _ rfl
  cases hc
  refine ⟨p, o, e, ?_, (Hk hm).1⟩
  rw [hv]
  unfold kid
  rw [List.getD_eq_getElem?_getD, List.getElem?_eq_getElem h]; rfl
theorem wprefix_c (l : List Nod) (T : Nat → Bs) {i : Nat} (ih : TxC W0 l T i) (n : Nod) (hk : 0 < n.kids.length) (hb : 0 ≤ kid n 0 ∧ kid n 0 < (i : Int)) (hlen : n.text.length + (tx T (kid n 0)).length ≤ 100000000) (mL : fNod l a k c ∈ F) (mK : fKs n a1 k1 c1 ∈ F) (h : R (S (n.text ++ tx T (kid n 0))) L F) :
    ACalls Tryz.prog W0 41 #[vW a k c, vNod n a1 k1 c1] L F R := by
  have hml : 100000000 ≤ maxLen := by decide
  refine Gn Tryz.func41 HQ Tryz.ntmps41 HQ ?_
  refine qs 2 ?_
  refine Gb (GH HQ HQ (fun b2 => (Gb (GH HQ HQ (fun b3 => ?_)))))
  refine qs 4 ?_
  refine GO (fun _ => false) [(b2, _, _), (b3, _, _)] bxA HQ (fun hx hX => ?_)
  obtain ⟨p, o, rfl, d0, hk1⟩ := kid0_row (hX _ mK) hk
  refine qt [0, 1, 2, 3, 4] ?_
  refine Gq (i := 5) HQ (GE (k := 0) HQ HQ HQ HS) HR HQ HQ ?_
  refine GP (i := 6) HQ (Hf HQ d0) HR HR HQ HQ HQ ?_
  refine GD (i := 7) HR HQ HQ (fun _ => ?_)
  refine Gi HQ HQ (ih (kid n 0) hb.1 hb.2 memA ?_)
  refine Gy bxA memB ?_
  refine Gq (i := 8) HQ (Hb HQ HQ (by first | omega | (simp; omega))) HR HQ HQ ?_
  refine qt [9] ?_
  refine GF HR ?_
  refine qs 2 ?_
  exact Gg (L' := L) (F' := F) Tryz.results41 rfl subA h
theorem wparen_c (l : List Nod) (T : Nat → Bs) {i : Nat} (ih : TxC W0 l T i) (n : Nod) (hk : 0 < n.kids.length) (hb : 0 ≤ kid n 0 ∧ kid n 0 < (i : Int)) (hlen : (tx T (kid n 0)).length ≤ 100000000) (mL : fNod l a k c ∈ F) (mK : fKs n a1 k1 c1 ∈ F) (h : R (S ([40] ++ tx T (kid n 0) ++ [41])) L F) :
    ACalls Tryz.prog W0 43 #[vW a k c, vNod n a1 k1 c1] L F R := by
  have hml : 100000100 ≤ maxLen := by decide
  refine Gn Tryz.func43 HQ Tryz.ntmps43 HQ ?_
  refine qs 2 ?_
  refine Gb (GH HQ HQ (fun b2 => (Gb (GH HQ HQ (fun b3 => ?_)))))
  refine qs 4 ?_
  refine GO (fun _ => false) [(b2, _, _), (b3, _, _)] bxA HQ (fun hx hX => ?_)
  obtain ⟨p, o, rfl, d0, hk1⟩ := kid0_row (hX _ mK) hk
  refine qt [0, 1, 2] ?_
  refine Gq (i := 3) HQ (GE (k := 0) HQ HQ HQ HS) HR HQ HQ ?_
  refine GP (i := 4) HQ (Hf HQ d0) HR HR HQ HQ HQ ?_
  refine GD (i := 5) HR HQ HQ (fun _ => ?_)
  refine Gi HQ HQ (ih (kid n 0) hb.1 hb.2 memA ?_)
  refine Gy bxA memB ?_
  refine Gq (i := 6) HQ (Hb (a := [40]) HQ HQ (by simp only [List.length_cons, List.length_nil]; omega)) HR HQ HQ ?_
  refine Gq (i := 7) HQ (Hb (b := [41]) HQ HQ (by simp only [List.length_append, List.length_cons, List.length_nil]; omega)) HR HQ HQ ?_
  refine qt [8] ?_
  refine GF HR ?_
  refine qs 2 ?_
  exact Gg (L' := L) (F' := F) Tryz.results43 rfl subA h
theorem wslice_c (l : List Nod) (T : Nat → Bs) {i : Nat} (ih : TxC W0 l T i) (n : Nod) (hk : 0 < n.kids.length) (hb : 0 ≤ kid n 0 ∧ kid n 0 < (i : Int)) (hlen : (tx T (kid n 0)).length ≤ 100000000) (mL : fNod l a k c ∈ F) (mK : fKs n a1 k1 c1 ∈ F) (h : R (S ([91, 93] ++ tx T (kid n 0))) L F) :
    ACalls Tryz.prog W0 44 #[vW a k c, vNod n a1 k1 c1] L F R := by
  have hml : 100000100 ≤ maxLen := by decide
  refine Gn Tryz.func44 HQ Tryz.ntmps44 HQ ?_
  refine qs 2 ?_
  refine Gb (GH HQ HQ (fun b2 => (Gb (GH HQ HQ (fun b3 => ?_)))))
  refine qs 4 ?_
  refine GO (fun _ => false) [(b2, _, _), (b3, _, _)] bxA HQ (fun hx hX => ?_)
  obtain ⟨p, o, rfl, d0, hk1⟩ := kid0_row (hX _ mK) hk
  refine qt [0, 1, 2] ?_
  refine Gq (i := 3) HQ (GE (k := 0) HQ HQ HQ HS) HR HQ HQ ?_
  refine GP (i := 4) HQ (Hf HQ d0) HR HR HQ HQ HQ ?_
  refine GD (i := 5) HR HQ HQ (fun _ => ?_)
  refine Gi HQ HQ (ih (kid n 0) hb.1 hb.2 memA ?_)
  refine Gy bxA memB ?_
  refine Gq (i := 6) HQ (Hb (a := [91, 93]) HQ HQ (by simp only [List.length_cons, List.length_nil]; omega)) HR HQ HQ ?_
  refine qt [7] ?_
  refine GF HR ?_
  refine qs 2 ?_
  exact Gg (L' := L) (F' := F) Tryz.results44 rfl subA h
theorem wimports_c (n : Nod) (hlen : n.text.length ≤ 100000000) (h : R (S ([105, 109, 112, 111, 114, 116, 32] ++ n.text)) L F) : ACalls Tryz.prog W0 59 #[vW a k c, vNod n a1 k1 c1] L F R := by
  have hml : 100000100 ≤ maxLen := by decide
  refine Gn Tryz.func59 HQ Tryz.ntmps59 HQ ?_
  refine qs 2 ?_
  refine Gb (GH HQ HQ (fun b2 => (Gb (GH HQ HQ (fun b3 => ?_)))))
  refine qs 7 ?_
  refine Gb (Hy (a := [105, 109, 112, 111, 114, 116, 32]) HQ HQ HQ (by simp only [List.length_cons, List.length_nil]; omega) ?_)
  refine qs 4 ?_
  exact Gg (L' := L) (F' := F) Tryz.results59 rfl subA h
theorem kids_row {n : Nod} {hx : H} (hm : (fKs n a1 k1 c1).holds hx) (h : 0 < n.kids.length) : ∃ p o, a1 = some ⟨p, o, none⟩ ∧ (∀ j, j < n.kids.length → hx p (o + j * 1 + 0) = some (.int .i64 (kid n j))) ∧ k1 = n.kids.length := by
  obtain ⟨p, o, e, _⟩ := Hs hm h
  refine ⟨p, o, e, fun j hj => ?_, (Hk hm).1⟩
  obtain ⟨p2, o2, e2, at1⟩ := Hs hm hj
  rw [e] at e2
  injection e2 with e2; injection e2 with ea eb
  subst ea; subst eb
  obtain ⟨v, hv, hc⟩ := at1 0 _ rfl
  cases hc
  rw [hv]
  unfold kid
  rw [List.getD_eq_getElem?_getD, List.getElem?_eq_getElem hj]; rfl
theorem warray_c (l : List Nod) (T : Nat → Bs) {i : Nat} (ih : TxC W0 l T i) (n : Nod) (hk : n.kids.length = 2) (hb : ∀ j, j < 2 → 0 ≤ kid n j ∧ kid n j < (i : Int)) (hlen : (tx T (kid n 0)).length + (tx T (kid n 1)).length ≤ 100000000) (mL : fNod l a k c ∈ F) (mK : fKs n a1 k1 c1 ∈ F) (h : R (S ([91] ++ tx T (kid n 0) ++ [93] ++ tx T (kid n 1))) L F) :
    ACalls Tryz.prog W0 45 #[vW a k c, vNod n a1 k1 c1] L F R := by
  have hml : 100000100 ≤ maxLen := by decide
  have hb0 := hb 0 HS
  have hb1 := hb 1 HS
  refine Gn Tryz.func45 HQ Tryz.ntmps45 HQ ?_
  refine qs 2 ?_
  refine Gb (GH HQ HQ (fun b2 => (Gb (GH HQ HQ (fun b3 => ?_)))))
  refine qs 4 ?_
  refine GO (fun _ => false) [(b2, _, _), (b3, _, _)] bxA HQ (fun hx hX => ?_)
  obtain ⟨p, o, rfl, dd, hk1⟩ := kids_row (hX _ mK) HS
  have d0 := dd 0 HS
  have d1 := dd 1 HS
  refine qt [0, 1, 2] ?_
  refine Gq (i := 3) HQ (GE (k := 0) HQ HQ HQ HS) HR HQ HQ ?_
  refine GP (i := 4) HQ (Hf HQ d0) HR HR HQ HQ HQ ?_
  refine qt [8, 9, 10] ?_
  refine Gq (i := 11) HQ (GE (k := 1) HQ HQ HQ HS) HR HQ HQ ?_
  refine GP (i := 12) HQ (Hf HQ d1) HR HR HQ HQ HQ ?_
  refine GD (i := 5) HR HQ HQ (fun _ => ?_)
  refine Gi HQ HQ (ih (kid n 0) hb0.1 hb0.2 memA ?_)
  refine Gy bxA memB ?_
  refine Gq (i := 6) HQ (Hb (a := [91]) HQ HQ (by simp only [List.length_cons, List.length_nil]; omega)) HR HQ HQ ?_
  refine Gq (i := 7) HQ (Hb (b := [93]) HQ HQ (by simp only [List.length_append, List.length_cons, List.length_nil]; omega)) HR HQ HQ ?_
  refine GD (i := 13) HR HQ HQ (fun _ => ?_)
  refine Gi HQ HQ (ih (kid n 1) hb1.1 hb1.2 memA ?_)
  refine Gy bxA memB ?_
  refine Gq (i := 14) HQ (Hb HQ HQ (by simp only [List.length_append, List.length_cons, List.length_nil]; omega)) HR HQ HQ ?_
  refine qt [15] ?_
  refine GF HR ?_
  refine qs 2 ?_
  exact Gg (L' := L) (F' := F) Tryz.results45 rfl subA h
theorem wtable_c (l : List Nod) (T : Nat → Bs) {i : Nat} (ih : TxC W0 l T i) (n : Nod) (hk : n.kids.length = 2) (hb : ∀ j, j < 2 → 0 ≤ kid n j ∧ kid n j < (i : Int)) (hlen : (tx T (kid n 0)).length + (tx T (kid n 1)).length ≤ 100000000) (mL : fNod l a k c ∈ F) (mK : fKs n a1 k1 c1 ∈ F) (h : R (S ([109, 97, 112, 91] ++ tx T (kid n 0) ++ [93] ++ tx T (kid n 1))) L F) :
    ACalls Tryz.prog W0 46 #[vW a k c, vNod n a1 k1 c1] L F R := by
  have hml : 100000100 ≤ maxLen := by decide
  have hb0 := hb 0 HS
  have hb1 := hb 1 HS
  refine Gn Tryz.func46 HQ Tryz.ntmps46 HQ ?_
  refine qs 2 ?_
  refine Gb (GH HQ HQ (fun b2 => (Gb (GH HQ HQ (fun b3 => ?_)))))
  refine qs 4 ?_
  refine GO (fun _ => false) [(b2, _, _), (b3, _, _)] bxA HQ (fun hx hX => ?_)
  obtain ⟨p, o, rfl, dd, hk1⟩ := kids_row (hX _ mK) HS
  have d0 := dd 0 HS
  have d1 := dd 1 HS
  refine qt [0, 1, 2] ?_
  refine Gq (i := 3) HQ (GE (k := 0) HQ HQ HQ HS) HR HQ HQ ?_
  refine GP (i := 4) HQ (Hf HQ d0) HR HR HQ HQ HQ ?_
  refine qt [8, 9, 10] ?_
  refine Gq (i := 11) HQ (GE (k := 1) HQ HQ HQ HS) HR HQ HQ ?_
  refine GP (i := 12) HQ (Hf HQ d1) HR HR HQ HQ HQ ?_
  refine GD (i := 5) HR HQ HQ (fun _ => ?_)
  refine Gi HQ HQ (ih (kid n 0) hb0.1 hb0.2 memA ?_)
  refine Gy bxA memB ?_
  refine Gq (i := 6) HQ (Hb (a := [109, 97, 112, 91]) HQ HQ (by simp only [List.length_cons, List.length_nil]; omega)) HR HQ HQ ?_
  refine Gq (i := 7) HQ (Hb (b := [93]) HQ HQ (by simp only [List.length_append, List.length_cons, List.length_nil]; omega)) HR HQ HQ ?_
  refine GD (i := 13) HR HQ HQ (fun _ => ?_)
  refine Gi HQ HQ (ih (kid n 1) hb1.1 hb1.2 memA ?_)
  refine Gy bxA memB ?_
  refine Gq (i := 14) HQ (Hb HQ HQ (by simp only [List.length_append, List.length_cons, List.length_nil]; omega)) HR HQ HQ ?_
  refine qt [15] ?_
  refine GF HR ?_
  refine qs 2 ?_
  exact Gg (L' := L) (F' := F) Tryz.results46 rfl subA h
theorem wbinary_c (l : List Nod) (T : Nat → Bs) {i : Nat} (ih : TxC W0 l T i) (n : Nod) (hks : ∀ x ∈ n.kids, 0 ≤ x ∧ x < (i : Int)) (hfew : n.kids.length ≤ 4000) (ht : n.text.length ≤ 1000000) (hlen : (allB T n.kids ([32] ++ n.text ++ [32])).length ≤ 100000000) (mL : fNod l a k c ∈ F) (mK : fKs n a1 k1 c1 ∈ F) (h : R (S (allB T n.kids ([32] ++ n.text ++ [32]))) L F) :
    ACalls Tryz.prog W0 42 #[vW a k c, vNod n a1 k1 c1] L F R := by
  have hml : 100000100 ≤ maxLen := by decide
  refine Gn Tryz.func42 HQ Tryz.ntmps42 HQ ?_
  refine qs 2 ?_
  refine Gb (GH HQ HQ (fun b2 => (Gb (GH HQ HQ (fun b3 => ?_)))))
  refine qs 10 ?_
  refine Gb (Hy (a := [32]) HQ HQ HQ (by simp only [List.length_cons, List.length_nil]; omega) ?_)
  refine Gb (Hy (b := [32]) HQ HQ HQ (by simp only [List.length_append, List.length_cons, List.length_nil]; omega) ?_)
  refine Gb (Gi HQ HQ (wall_c l T ih n.kids hks hfew ([32] ++ n.text ++ [32]) hlen mL mK ?_))
  refine qs 4 ?_
  exact Gg (L' := L) (F' := F) Tryz.results42 rfl subA h
theorem wunion_c (l : List Nod) (T : Nat → Bs) {i : Nat} (ih : TxC W0 l T i) (n : Nod) (hks : ∀ x ∈ n.kids, 0 ≤ x ∧ x < (i : Int)) (hfew : n.kids.length ≤ 4000) (hlen : (allB T n.kids [32, 124, 32]).length ≤ 100000000) (mL : fNod l a k c ∈ F) (mK : fKs n a1 k1 c1 ∈ F) (h : R (S (allB T n.kids [32, 124, 32])) L F) :
    ACalls Tryz.prog W0 52 #[vW a k c, vNod n a1 k1 c1] L F R := by
  refine Gn Tryz.func52 HQ Tryz.ntmps52 HQ ?_
  refine qs 2 ?_
  refine Gb (GH HQ HQ (fun b2 => (Gb (GH HQ HQ (fun b3 => ?_)))))
  refine qs 8 ?_
  refine Gb (Gi HQ HQ (wall_c l T ih n.kids hks hfew [32, 124, 32] hlen mL mK ?_))
  refine qs 4 ?_
  exact Gg (L' := L) (F' := F) Tryz.results52 rfl subA h
end
end Go.Sy
namespace Go.Sy
abbrev Hn := @kids_row
end Go.Sy
namespace Go.Sy
open Go Go.Proofs Go.RowKit
theorem kids_few {l : List Nod} (hr : RightN l) {q : Nat} (hq : q < l.length) : l[q].kids.length ≤ 4000 := by
  have hn := hr.node q l[q] (List.getElem?_eq_getElem hq)
  have hd : l[q].kids.Nodup := by
    have h := hr.once
    rw [← List.take_append_drop q l, List.flatMap_append, List.drop_eq_getElem_cons hq, List.flatMap_cons] at h
    exact (List.nodup_append.1 (List.nodup_append.1 h).2.1).1
  have := sum_nodup (fun _ => 1) q l[q].kids hd hn.2.2.2
  have e1 : ∀ ks : List Int, sumL (fun _ => 1) ks = ks.length := by
    intro ks; unfold sumL
    induction ks with
    | nil => rfl
    | cons k r ih => simp only [List.map_cons, List.sum_cons, ih, List.length_cons]; omega
  have e2 : ∀ m, ((List.range m).map fun _ => 1).sum = m := by
    intro m
    induction m with
    | zero => rfl
    | succ m ih => rw [List.range_succ, List.map_append, List.sum_append, ih]; rfl
  rw [e1, e2] at this
  have := hr.many
  omega
attribute [local irreducible] AC AT AO AK AH ACalls ACallsX ACallsD Sub Res.cells Res.obj Res.nix Res.own Res.map Exit.then Exit.inBlock Exit.noGoto bodyPost bodyPostD Code.wp Code.wpIn WL Next Post PostX Kont
section
variable {W0 : World} {L : List Res} {F : List Fact} {R : Value → List Res → List Fact → Prop}
set_option maxRecDepth 100000
set_option maxHeartbeats 4000000
variable {a a1 : Option Addr} {k c k1 c1 : Nat}
theorem wnone_c (l : List Nod) (i : Int) (h0 : 0 ≤ i) (h1 : i < (l.length : Int)) (mL : fNod l a k c ∈ F) (hT : kindAt l i = 0 → R (.bool true) L F) (hF : kindAt l i ≠ 0 → R (.bool false) L F) : ACalls Tryz.prog W0 84 #[vW a k c, .int .i64 i] L F R := by
  obtain ⟨j, rfl⟩ : ∃ j : Nat, i = (j : Int) := ⟨i.toNat, by omega⟩
  have hj : j < l.length := by omega
  have hk : kindAt l (j : Int) = l[j].kind := by unfold kindAt; rw [Int.toNat_natCast, List.getElem?_eq_getElem hj]; rfl
  rw [hk] at hT hF
  refine Gn Tryz.func84 HQ Tryz.ntmps84 HQ ?_
  refine qs 2 ?_
  refine Gb (GH HQ HQ (fun b2 => ?_))
  refine qs 8 ?_
  refine Gb (Hg HQ HQ HQ HQ (enc := eNod) (lst := l) memA hj (fun _ _ => ?_))
  refine Gb (AO.fieldAt HQ HQ (fun _ => ?_))
  refine Gb (HN HQ HQ ?_)
  intros
  refine Gb (GA HQ HQ HQ (fun c11 => ?_) (fun c11 => ?_))
  ·refine qs 4 ?_
   exact Gg (L' := L) (F' := F) Tryz.results84 rfl subA (hT ‹_›)
  refine qs 4 ?_
  exact Gg (L' := L) (F' := F) Tryz.results84 rfl subA (hF ‹_›)
theorem wcall_c (l : List Nod) (T : Nat → Bs) {i : Nat} (_ : RightN l) (_ : i ≤ l.length) (ih : TxC W0 l T i) (n : Nod) (hk : 0 < n.kids.length) (hks : ∀ x ∈ n.kids, 0 ≤ x ∧ x < (i : Int)) (hfew : n.kids.length ≤ 4000) (mL : fNod l a k c ∈ F) (mK : fKs n a1 k1 c1 ∈ F) (hlen : (tx T (kid n 0) ++ [40] ++ allB T (n.kids.drop 1) [44, 32] ++ [41]).length ≤ 100000000) (h : R (S (tx T (kid n 0) ++ [40] ++ allB T (n.kids.drop 1) [44, 32] ++ [41])) L F) :
    ACalls Tryz.prog W0 39 #[vW a k c, vNod n a1 k1 c1] L F R := by
  have hml : 100000100 ≤ maxLen := by decide
  have hb0 := hks _ (Hu hk)
  simp only [List.length_append, List.length_cons, List.length_nil] at hlen
  refine Gn Tryz.func39 HQ Tryz.ntmps39 HQ ?_
  refine qs 2 ?_
  refine Gb (GH HQ HQ (fun b2 => (Gb (GH HQ HQ (fun b3 => ?_)))))
  refine qs 4 ?_
  refine GO (fun _ => false) [(b2, _, _), (b3, _, _)] bxA HQ (fun hx hX => ?_)
  obtain ⟨p, o, rfl, dd, hk1⟩ := Hn (hX _ mK) HS
  have d0 := dd 0 HS
  have hcc := (Hk (hX _ mK)).2
  refine AH.weak (Sub.tail (enc := eInt) (lst := n.kids) 1 (show fKs n _ _ _ ∈ _ from memA) HS HS HS) ?_
  refine qt [0, 1, 2] ?_
  refine Gq (i := 3) HQ (GE (k := 0) HQ HQ HQ HS) HR HQ HQ ?_
  refine GP (i := 4) HQ (Hf HQ d0) HR HR HQ HQ HQ ?_
  refine qt [7, 8, 9] ?_
  refine Gq (i := 10) HQ (Y.sliceL (i' := 1) HQ HQ HQ HS) HR HQ HQ ?_
  refine GD (i := 5) HR HQ HQ (fun _ => ?_)
  refine Gi HQ HQ (ih (kid n 0) hb0.1 hb0.2 memA ?_)
  refine Gy bxA memB ?_
  refine Gq (i := 6) HQ (Hb (b := [40]) HQ HQ (by first | omega | (simp only [List.length_cons, List.length_nil]; omega))) HR HQ HQ ?_
  refine GD (i := 11) HR HQ HQ (fun _ => ?_)
  refine Gi HQ HQ (wall_c l T ih (n.kids.drop 1) (fun x hx => hks x (List.mem_of_mem_drop hx)) (by rw [List.length_drop]; omega) [44, 32] HS memA memA ?_)
  refine Gy bxA memB ?_
  refine Gq (i := 12) HQ (Hb HQ HQ (by first | omega | (simp only [List.length_append, List.length_cons, List.length_nil]; omega))) HR HQ HQ ?_
  refine Gq (i := 13) HQ (Hb (b := [41]) HQ HQ (by first | omega | (simp only [List.length_append, List.length_cons, List.length_nil]; omega))) HR HQ HQ ?_
  refine qt [14] ?_
  refine GF HR ?_
  refine qs 2 ?_
  exact Gg (L' := L) (F' := F) Tryz.results39 rfl subA h
theorem windex_c (l : List Nod) (T : Nat → Bs) {i : Nat} (_ : RightN l) (_ : i ≤ l.length) (ih : TxC W0 l T i) (n : Nod) (hk : 0 < n.kids.length) (hks : ∀ x ∈ n.kids, 0 ≤ x ∧ x < (i : Int)) (hfew : n.kids.length ≤ 4000) (mL : fNod l a k c ∈ F) (mK : fKs n a1 k1 c1 ∈ F) (hlen : (tx T (kid n 0) ++ [91] ++ allB T (n.kids.drop 1) [44, 32] ++ [93]).length ≤ 100000000) (h : R (S (tx T (kid n 0) ++ [91] ++ allB T (n.kids.drop 1) [44, 32] ++ [93])) L F) :
    ACalls Tryz.prog W0 40 #[vW a k c, vNod n a1 k1 c1] L F R := by
  have hml : 100000100 ≤ maxLen := by decide
  have hb0 := hks _ (Hu hk)
  simp only [List.length_append, List.length_cons, List.length_nil] at hlen
  refine Gn Tryz.func40 HQ Tryz.ntmps40 HQ ?_
  refine qs 2 ?_
  refine Gb (GH HQ HQ (fun b2 => (Gb (GH HQ HQ (fun b3 => ?_)))))
  refine qs 4 ?_
  refine GO (fun _ => false) [(b2, _, _), (b3, _, _)] bxA HQ (fun hx hX => ?_)
  obtain ⟨p, o, rfl, dd, hk1⟩ := Hn (hX _ mK) HS
  have d0 := dd 0 HS
  have hcc := (Hk (hX _ mK)).2
  refine AH.weak (Sub.tail (enc := eInt) (lst := n.kids) 1 (show fKs n _ _ _ ∈ _ from memA) HS HS HS) ?_
  refine qt [0, 1, 2] ?_
  refine Gq (i := 3) HQ (GE (k := 0) HQ HQ HQ HS) HR HQ HQ ?_
  refine GP (i := 4) HQ (Hf HQ d0) HR HR HQ HQ HQ ?_
  refine qt [7, 8, 9] ?_
  refine Gq (i := 10) HQ (Y.sliceL (i' := 1) HQ HQ HQ HS) HR HQ HQ ?_
  refine GD (i := 5) HR HQ HQ (fun _ => ?_)
  refine Gi HQ HQ (ih (kid n 0) hb0.1 hb0.2 memA ?_)
  refine Gy bxA memB ?_
  refine Gq (i := 6) HQ (Hb (b := [91]) HQ HQ (by first | omega | (simp only [List.length_cons, List.length_nil]; omega))) HR HQ HQ ?_
  refine GD (i := 11) HR HQ HQ (fun _ => ?_)
  refine Gi HQ HQ (wall_c l T ih (n.kids.drop 1) (fun x hx => hks x (List.mem_of_mem_drop hx)) (by rw [List.length_drop]; omega) [44, 32] HS memA memA ?_)
  refine Gy bxA memB ?_
  refine Gq (i := 12) HQ (Hb HQ HQ (by first | omega | (simp only [List.length_append, List.length_cons, List.length_nil]; omega))) HR HQ HQ ?_
  refine Gq (i := 13) HQ (Hb (b := [93]) HQ HQ (by first | omega | (simp only [List.length_append, List.length_cons, List.length_nil]; omega))) HR HQ HQ ?_
  refine qt [14] ?_
  refine GF HR ?_
  refine qs 2 ?_
  exact Gg (L' := L) (F' := F) Tryz.results40 rfl subA h
end
end Go.Sy
namespace Go.Sy
open Go Go.Proofs Go.RowKit
attribute [local irreducible] AC AT AO AK AH ACalls ACallsX ACallsD Sub Res.cells Res.obj Res.nix Res.own Res.map Exit.then Exit.inBlock Exit.noGoto bodyPost bodyPostD Code.wp Code.wpIn WL Next Post PostX Kont
section
variable {W0 : World} {L : List Res} {F : List Fact} {R : Value → List Res → List Fact → Prop}
set_option maxRecDepth 100000
set_option maxHeartbeats 4000000
variable {a a1 : Option Addr} {k c k1 c1 : Nat}
theorem wbare_c (l : List Nod) (T : Nat → Bs) {i : Nat} (_ : RightN l) (hi : i ≤ l.length) (ih : TxC W0 l T i) (n : Nod) (hk : 0 < n.kids.length) (hks : ∀ x ∈ n.kids, 0 ≤ x ∧ x < (i : Int)) (hfew : n.kids.length ≤ 4000) (mL : fNod l a k c ∈ F) (mK : fKs n a1 k1 c1 ∈ F) (hlen : (bareB l T n).length ≤ 100000000) (h : R (S (bareB l T n)) L F) :
    ACalls Tryz.prog W0 80 #[vW a k c, vNod n a1 k1 c1] L F R := by
  have hml : 100000100 ≤ maxLen := by decide
  have hbL := hks _ (Hu (n := n) (j := n.kids.length - 1) HS)
  have hcast : ((n.kids.length : Int) - 1) = ((n.kids.length - 1 : Nat) : Int) := by omega
  unfold bareB at hlen h
  simp only at hlen h
  refine Gn Tryz.func80 HQ Tryz.ntmps80 HQ ?_
  refine qs 2 ?_
  refine Gb (GH HQ HQ (fun b2 => (Gb (GH HQ HQ (fun b3 => ?_)))))
  refine qs 7 ?_
  refine Gb (Hr HQ HQ (fun hl9 => ?_) (enc := eInt) (lst := n.kids) (hm := (show fKs n _ _ _ ∈ _ from memA)))
  refine qs 5 ?_
  refine GO (fun _ => false) [(b2, _, _), (b3, _, _)] bxA HQ (fun hx hX => ?_)
  have hk1 := (Hk (hX _ mK)).1
  have hcc := (Hk (hX _ mK)).2
  refine AH.weak (Sub.init (enc := eInt) (lst := n.kids) (n.kids.length - 1) (show fKs n _ _ _ ∈ _ from memA) HS HS) ?_
  refine qt [0, 1, 2, 3] ?_
  refine Gq (i := 4) HQ (Y.sliceH (j' := n.kids.length - 1) HQ HQ hcast HS) HR HQ HQ ?_
  refine GD (i := 5) HR HQ HQ (fun _ => ?_)
  refine Gi HQ HQ (wall_c l T ih (n.kids.take (n.kids.length - 1)) (fun x hx => hks x (List.mem_of_mem_take hx)) (by rw [List.length_take]; omega) [44, 32] (by split at hlen <;> (simp only [List.length_append, List.length_cons, List.length_nil] at hlen; omega)) memA memA ?_)
  refine Gy bxA memB ?_
  refine Gq (i := 6) HQ (Hb (a := [40]) HQ HQ (by split at hlen <;> (simp only [List.length_append, List.length_cons, List.length_nil] at hlen ⊢; omega))) HR HQ HQ ?_
  refine Gq (i := 7) HQ (Hb (b := [41]) HQ HQ (by split at hlen <;> (simp only [List.length_append, List.length_cons, List.length_nil] at hlen ⊢; omega))) HR HQ HQ ?_
  refine qt [8] ?_
  refine GF HR ?_
  refine qs 3 ?_
  refine GO (fun _ => false) [(b2, _, _), (b3, _, _)] bxA HQ (fun hx hX => ?_)
  obtain ⟨p, o, ea, dd, hk1⟩ := Hn (hX (fKs n _ _ _) memA) HS
  cases ea
  have dL := dd (n.kids.length - 1) HS
  refine qt [0, 1, 2, 3] ?_
  refine Gq (i := 4) HQ (GE (k := n.kids.length - 1) HQ HQ hcast HS) HR HQ HQ ?_
  refine GP (i := 5) HQ (Hf HQ dL) HR HR HQ HQ HQ ?_
  refine GD (i := 6) HR HQ HQ (fun _ => ?_)
  refine Gi HQ HQ (wnone_c l (kid n (n.kids.length - 1)) hbL.1 HS memA (fun c25 => ?_) (fun c25 => ?_))
  all_goals refine Gy bxA memB ?_
  ·refine GF HR ?_
   refine qs 10 ?_
   rw [if_pos c25] at h
   exact Gg (L' := L) (F' := F) Tryz.results80 rfl subA h
  refine GF HR ?_
  refine qs 5 ?_
  refine GO (fun _ => false) [(b2, _, _), (b3, _, _)] bxA HQ (fun hx hX => ?_)
  obtain ⟨p, o, ea, dd, hk1⟩ := Hn (hX (fKs n _ _ _) memA) HS
  cases ea
  have dL := dd (n.kids.length - 1) HS
  rw [if_neg c25] at hlen h
  simp only [List.length_append, List.length_cons, List.length_nil] at hlen
  refine qt [0] ?_
  refine Gq (i := 1) HQ (Hb (b := [32]) HQ HQ (by simp only [List.length_append, List.length_cons, List.length_nil]; omega)) HR HQ HQ ?_
  refine qt [2, 3, 4, 5] ?_
  refine Gq (i := 6) HQ (GE (k := n.kids.length - 1) HQ HQ hcast HS) HR HQ HQ ?_
  refine GP (i := 7) HQ (Hf HQ dL) HR HR HQ HQ HQ ?_
  refine GD (i := 8) HR HQ HQ (fun _ => ?_)
  refine Gi HQ HQ (ih (kid n (n.kids.length - 1)) hbL.1 hbL.2 memA ?_)
  refine Gy bxA memB ?_
  refine Gq (i := 9) HQ (Hb HQ HQ (by simp only [List.length_append, List.length_cons, List.length_nil]; omega)) HR HQ HQ ?_
  refine qt [10] ?_
  refine GF HR ?_
  refine qs 2 ?_
  exact Gg (L' := L) (F' := F) Tryz.results80 rfl subA h
theorem wsig_c (l : List Nod) (T : Nat → Bs) {i : Nat} (hr : RightN l) (ih : TxC W0 l T i) (j : Int) (h0 : 0 ≤ j) (h1 : j < (i : Int)) (hi : i ≤ l.length) (mL : fNod l a k c ∈ F) (hlen : (signB l T j).length ≤ 100000000) (h : R (S (signB l T j)) L F) :
    ACalls Tryz.prog W0 82 #[vW a k c, .int .i64 j] L F R := by
  obtain ⟨q, rfl⟩ : ∃ q : Nat, j = (q : Int) := ⟨j.toNat, by omega⟩
  have hq : q < l.length := by omega
  have hk : kindAt l (q : Int) = l[q].kind := by unfold kindAt; rw [Int.toNat_natCast, List.getElem?_eq_getElem hq]; rfl
  have hno : nodOf l (q : Int) = l[q] := by unfold nodOf; rw [Int.toNat_natCast, List.getElem?_eq_getElem hq]; rfl
  have hn := hr.node q l[q] (List.getElem?_eq_getElem hq)
  have hks : ∀ x ∈ l[q].kids, 0 ≤ x ∧ x < (i : Int) := fun x hx => ⟨(hn.2.2.2 x hx).1, by have := (hn.2.2.2 x hx).2; omega⟩
  have hfew : l[q].kids.length ≤ 4000 := kids_few hr hq
  unfold signB at hlen h
  rw [hk, hno] at hlen h
  refine Gn Tryz.func82 HQ Tryz.ntmps82 HQ ?_
  refine qs 2 ?_
  refine Gb (GH HQ HQ (fun b2 => ?_))
  refine qs 9 ?_
  refine Gb (Hg HQ HQ HQ HQ (enc := eNod) (lst := l) memA hq (fun _ _ => ?_))
  refine Gb (AO.loadFA HQ HQ ?_)
  intro a10 k10 c10
  refine Gb (Hh HQ (fun b5 => ?_))
  refine qs 7 ?_
  refine Gb (GA HQ HQ HQ (fun c13 => ?_) (fun c13 => ?_))
  ·refine qs 7 ?_
   have h15 : 0 < l[q].kids.length := by
    have := hn.2.2.1
    rw [‹l[q].kind = 15›] at this
    have : 1 ≤ l[q].kids.length := by simpa [kidsOk, Nat.ble_eq] using this
    omega
   rw [if_pos ‹l[q].kind = 15›] at hlen h
   refine Gb (Gi HQ HQ (wbare_c l T hr hi ih l[q] h15 hks hfew memA memA hlen ?_))
   refine qs 5 ?_
   exact Gg (L' := L) (F' := F) Tryz.results82 rfl subA h
  refine qs 9 ?_
  rw [if_neg ‹¬l[q].kind = 15›] at h
  refine Gb (Gi HQ HQ (ih (q : Int) h0 h1 memA ?_))
  refine qs 4 ?_
  exact Gg (L' := L) (F' := F) Tryz.results82 rfl subA h
theorem wfunction_c (l : List Nod) (T : Nat → Bs) {i : Nat} (hr : RightN l) (hi : i ≤ l.length) (ih : TxC W0 l T i) (n : Nod) (hk : 0 < n.kids.length) (hks : ∀ x ∈ n.kids, 0 ≤ x ∧ x < (i : Int)) (hfew : n.kids.length ≤ 4000) (mL : fNod l a k c ∈ F) (mK : fKs n a1 k1 c1 ∈ F) (hlen : ([102, 117, 110, 99] ++ bareB l T n).length ≤ 100000000) (h : R (S ([102, 117, 110, 99] ++ bareB l T n)) L F) :
    ACalls Tryz.prog W0 47 #[vW a k c, vNod n a1 k1 c1] L F R := by
  have hml : 100000100 ≤ maxLen := by decide
  simp only [List.length_append, List.length_cons, List.length_nil] at hlen
  refine Gn Tryz.func47 HQ Tryz.ntmps47 HQ ?_
  refine qs 2 ?_
  refine Gb (GH HQ HQ (fun b2 => (Gb (GH HQ HQ (fun b3 => ?_)))))
  refine qs 7 ?_
  refine Gb (Gi HQ HQ (wbare_c l T hr hi ih n hk hks hfew memA memA HS ?_))
  refine Gb (Hy (a := [102, 117, 110, 99]) HQ HQ HQ (by simp only [List.length_cons, List.length_nil]; omega) ?_)
  refine qs 4 ?_
  exact Gg (L' := L) (F' := F) Tryz.results47 rfl subA h
theorem wbraces_c (l : List Nod) (T : Nat → Bs) {i : Nat} (_ : RightN l) (_ : i ≤ l.length) (ih : TxC W0 l T i) (word : Bs) (n : Nod) (hks : ∀ x ∈ n.kids, 0 ≤ x ∧ x < (i : Int)) (hfew : n.kids.length ≤ 4000) (mL : fNod l a k c ∈ F) (mK : fKs n a1 k1 c1 ∈ F) (hlen : (bracesB T word n).length ≤ 100000000) (h : R (S (bracesB T word n)) L F) :
    ACalls Tryz.prog W0 81 #[vW a k c, S word, vNod n a1 k1 c1] L F R := by
  have hml : 100000100 ≤ maxLen := by decide
  unfold bracesB at hlen h
  refine Gn Tryz.func81 HQ Tryz.ntmps81 HQ ?_
  refine qs 2 ?_
  refine Gb (GH HQ HQ (fun b3 => (Gb (GH HQ HQ (fun b5 => ?_)))))
  refine qs 8 ?_
  refine Gb (Hr HQ HQ (fun hl9 => ?_) (enc := eInt) (lst := n.kids) (hm := (show fKs n _ _ _ ∈ _ from memA)))
  refine Gb (GA HQ HQ HQ (fun c10 => ?_) (fun c10 => ?_))
  ·refine qs 6 ?_
   rw [if_pos HS] at hlen h
   simp only [List.length_append, List.length_cons, List.length_nil] at hlen
   refine Gb (Hy (b := [123, 125]) HQ HQ HQ (by simp only [List.length_cons, List.length_nil]; omega) ?_)
   refine qs 5 ?_
   exact Gg (L' := L) (F' := F) Tryz.results81 rfl subA h
  refine qs 8 ?_
  rw [if_neg HS] at hlen h
  simp only [List.length_append, List.length_cons, List.length_nil] at hlen
  refine Gb (Hy (b := [32, 123, 32]) HQ HQ HQ (by simp only [List.length_cons, List.length_nil]; omega) ?_)
  refine qs 3 ?_
  refine Gb (Gi HQ HQ (wall_c l T ih n.kids hks hfew [59, 32] HS mL mK ?_))
  refine Gb (Hy HQ HQ HQ (by simp only [List.length_append, List.length_cons, List.length_nil]; omega) ?_)
  refine Gb (Hy (b := [32, 125]) HQ HQ HQ (by simp only [List.length_append, List.length_cons, List.length_nil]; omega) ?_)
  refine qs 4 ?_
  exact Gg (L' := L) (F' := F) Tryz.results81 rfl subA h
theorem wfields_c (l : List Nod) (T : Nat → Bs) {i : Nat} (hr : RightN l) (hi : i ≤ l.length) (ih : TxC W0 l T i) (n : Nod) (hks : ∀ x ∈ n.kids, 0 ≤ x ∧ x < (i : Int)) (hfew : n.kids.length ≤ 4000) (mL : fNod l a k c ∈ F) (mK : fKs n a1 k1 c1 ∈ F) (hlen : (bracesB T [115, 116, 114, 117, 99, 116] n).length ≤ 100000000) (h : R (S (bracesB T [115, 116, 114, 117, 99, 116] n)) L F) :
    ACalls Tryz.prog W0 48 #[vW a k c, vNod n a1 k1 c1] L F R := by
  have hml : 100000100 ≤ maxLen := by decide
  refine Gn Tryz.func48 HQ Tryz.ntmps48 HQ ?_
  refine qs 2 ?_
  refine Gb (GH HQ HQ (fun b2 => (Gb (GH HQ HQ (fun b3 => ?_)))))
  refine qs 7 ?_
  refine Gb (Gi HQ HQ (wbraces_c l T hr hi ih [115, 116, 114, 117, 99, 116] n hks hfew memA memA hlen ?_))
  refine qs 4 ?_
  exact Gg (L' := L) (F' := F) Tryz.results48 rfl subA h
theorem welems_c (l : List Nod) (T : Nat → Bs) {i : Nat} (hr : RightN l) (hi : i ≤ l.length) (ih : TxC W0 l T i) (n : Nod) (hks : ∀ x ∈ n.kids, 0 ≤ x ∧ x < (i : Int)) (hfew : n.kids.length ≤ 4000) (mL : fNod l a k c ∈ F) (mK : fKs n a1 k1 c1 ∈ F) (hlen : (bracesB T [105, 110, 116, 101, 114, 102, 97, 99, 101] n).length ≤ 100000000) (h : R (S (bracesB T [105, 110, 116, 101, 114, 102, 97, 99, 101] n)) L F) :
    ACalls Tryz.prog W0 49 #[vW a k c, vNod n a1 k1 c1] L F R := by
  have hml : 100000100 ≤ maxLen := by decide
  refine Gn Tryz.func49 HQ Tryz.ntmps49 HQ ?_
  refine qs 2 ?_
  refine Gb (GH HQ HQ (fun b2 => (Gb (GH HQ HQ (fun b3 => ?_)))))
  refine qs 7 ?_
  refine Gb (Gi HQ HQ (wbraces_c l T hr hi ih [105, 110, 116, 101, 114, 102, 97, 99, 101] n hks hfew memA memA hlen ?_))
  refine qs 4 ?_
  exact Gg (L' := L) (F' := F) Tryz.results49 rfl subA h
theorem wnamed_c (l : List Nod) (T : Nat → Bs) {i : Nat} (_ : RightN l) (_ : i ≤ l.length) (ih : TxC W0 l T i) (n : Nod) (hk : n.kids.length = 1) (hb0 : 0 ≤ kid n 0 ∧ kid n 0 < (i : Int)) (mL : fNod l a k c ∈ F) (mK : fKs n a1 k1 c1 ∈ F) (hlen : (namedB T n).length ≤ 100000000) (h : R (S (namedB T n)) L F) :
    ACalls Tryz.prog W0 50 #[vW a k c, vNod n a1 k1 c1] L F R := by
  have hml : 100000100 ≤ maxLen := by decide
  unfold namedB at hlen h
  refine Gn Tryz.func50 HQ Tryz.ntmps50 HQ ?_
  refine qs 2 ?_
  refine Gb (GH HQ HQ (fun b2 => (Gb (GH HQ HQ (fun b3 => ?_)))))
  refine qs 8 ?_
  refine Gb (AO.eqlS HQ HQ HQ (fun c7 => ?_) (fun c7 => ?_))
  ·refine qs 4 ?_
   rw [if_pos ‹_›] at hlen h
   refine GO (fun _ => false) [(b2, _, _), (b3, _, _)] bxA HQ (fun hx hX => ?_)
   obtain ⟨p, o, ea, dd, hk1⟩ := Hn (hX (fKs n _ _ _) memA) HS
   cases ea
   have d0 := dd 0 HS
   refine qt [0, 1, 2] ?_
   refine Gq (i := 3) HQ (GE (k := 0) HQ HQ HQ HS) HR HQ HQ ?_
   refine GP (i := 4) HQ (Hf HQ d0) HR HR HQ HQ HQ ?_
   refine GD (i := 5) HR HQ HQ (fun _ => ?_)
   refine Gi HQ HQ (ih (kid n 0) hb0.1 hb0.2 memA ?_)
   refine Gy bxA memB ?_
   refine qt [6] ?_
   refine GF HR ?_
   refine qs 3 ?_
   exact Gg (L' := L) (F' := F) Tryz.results50 rfl subA h
  refine qs 6 ?_
  rw [if_neg ‹_›] at hlen h
  simp only [List.length_append, List.length_cons, List.length_nil] at hlen
  refine GO (fun _ => false) [(b2, _, _), (b3, _, _)] bxA HQ (fun hx hX => ?_)
  obtain ⟨p, o, ea, dd, hk1⟩ := Hn (hX (fKs n _ _ _) memA) HS
  cases ea
  have d0 := dd 0 HS
  refine qt [0, 1] ?_
  refine Gq (i := 2) HQ (Hb (b := [32]) HQ HQ (by first | omega | (simp only [List.length_cons, List.length_nil]; omega))) HR HQ HQ ?_
  refine qt [3, 4, 5] ?_
  refine Gq (i := 6) HQ (GE (k := 0) HQ HQ HQ HS) HR HQ HQ ?_
  refine GP (i := 7) HQ (Hf HQ d0) HR HR HQ HQ HQ ?_
  refine GD (i := 8) HR HQ HQ (fun _ => ?_)
  refine Gi HQ HQ (ih (kid n 0) hb0.1 hb0.2 memA ?_)
  refine Gy bxA memB ?_
  refine Gq (i := 9) HQ (Hb HQ HQ (by first | omega | (simp only [List.length_append, List.length_cons, List.length_nil]; omega))) HR HQ HQ ?_
  refine qt [10] ?_
  refine GF HR ?_
  refine qs 2 ?_
  exact Gg (L' := L) (F' := F) Tryz.results50 rfl subA h
theorem wmethod_c (l : List Nod) (T : Nat → Bs) {i : Nat} (hr : RightN l) (hi : i ≤ l.length) (ih : TxC W0 l T i) (n : Nod) (hk : n.kids.length = 1) (hb0 : 0 ≤ kid n 0 ∧ kid n 0 < (i : Int)) (mL : fNod l a k c ∈ F) (mK : fKs n a1 k1 c1 ∈ F) (hlen : (n.text ++ signB l T (kid n 0)).length ≤ 100000000) (h : R (S (n.text ++ signB l T (kid n 0))) L F) :
    ACalls Tryz.prog W0 51 #[vW a k c, vNod n a1 k1 c1] L F R := by
  have hml : 100000100 ≤ maxLen := by decide
  simp only [List.length_append] at hlen
  refine Gn Tryz.func51 HQ Tryz.ntmps51 HQ ?_
  refine qs 2 ?_
  refine Gb (GH HQ HQ (fun b2 => (Gb (GH HQ HQ (fun b3 => ?_)))))
  refine qs 4 ?_
  refine GO (fun _ => false) [(b2, _, _), (b3, _, _)] bxA HQ (fun hx hX => ?_)
  obtain ⟨p, o, ea, dd, hk1⟩ := Hn (hX (fKs n _ _ _) memA) HS
  cases ea
  have d0 := dd 0 HS
  refine qt [0, 1, 2, 3, 4] ?_
  refine Gq (i := 5) HQ (GE (k := 0) HQ HQ HQ HS) HR HQ HQ ?_
  refine GP (i := 6) HQ (Hf HQ d0) HR HR HQ HQ HQ ?_
  refine GD (i := 7) HR HQ HQ (fun _ => ?_)
  refine Gi HQ HQ (wsig_c l T hr ih (kid n 0) hb0.1 hb0.2 HS memA HS ?_)
  refine Gy bxA memB ?_
  refine Gq (i := 8) HQ (Hb HQ HQ (by first | omega | (simp only [List.length_append, List.length_cons, List.length_nil]; omega))) HR HQ HQ ?_
  refine qt [9] ?_
  refine GF HR ?_
  refine qs 2 ?_
  exact Gg (L' := L) (F' := F) Tryz.results51 rfl subA h
end
end Go.Sy
namespace Go.Sy
open Go Go.Proofs Go.RowKit
theorem nod_cells {hx : H} {b o : Nat} {t : Nod} (hat : AtR hx b o (eNod t)) : ∃ a k c, (∀ (j : Nat) (v : Value), [Value.int .i64 t.kind, S t.text, .slice a k c, .int .i64 t.pos][j]? = some v → hx b (o + j) = some v) ∧ (fKs t a k c).holds hx := by
  obtain ⟨vs, fs, _, h1, h2, a, k, c, rfl, rfl⟩ := absorb_of (eNod t) o hat (fun vs fs => ∃ a k c, vs = [Value.int .i64 t.kind, S t.text, .slice a k c, .int .i64 t.pos] ∧ fs = [fKs t a k c]) (by
    intro a k c
    exact ⟨a, k, c, rfl, rfl⟩)
  exact ⟨a, k, c, h1, h2 _ (by simp)⟩
attribute [local irreducible] AC AT AO AK AH ACalls ACallsX ACallsD Sub Res.cells Res.obj Res.nix Res.own Res.map Exit.then Exit.inBlock Exit.noGoto bodyPost bodyPostD Code.wp Code.wpIn WL Next Post PostX Kont
section
variable {W0 : World} {L : List Res} {F : List Fact} {R : Value → List Res → List Fact → Prop}
set_option maxRecDepth 100000
set_option maxHeartbeats 4000000
variable {a a1 : Option Addr} {k c k1 c1 : Nat}
theorem wsel_c (l : List Nod) (T : Nat → Bs) {i : Nat} (_ : RightN l) (hi : i ≤ l.length) (ih : TxC W0 l T i) (n : Nod) (hk : n.kids.length = 1) (hb0 : 0 ≤ kid n 0 ∧ kid n 0 < (i : Int)) (mL : fNod l a k c ∈ F) (mK : fKs n a1 k1 c1 ∈ F) (hlen : ((if kindAt l (kid n 0) = 2 ∨ kindAt l (kid n 0) = 3 then tx T (kid n 0) ++ [32] else tx T (kid n 0)) ++ [46] ++ n.text).length ≤ 100000000) (h : R (S ((if kindAt l (kid n 0) = 2 ∨ kindAt l (kid n 0) = 3 then tx T (kid n 0) ++ [32] else tx T (kid n 0)) ++ [46] ++ n.text)) L F) :
    ACalls Tryz.prog W0 38 #[vW a k c, vNod n a1 k1 c1] L F R := by
  have hml : 100000100 ≤ maxLen := by decide
  obtain ⟨q, hq⟩ : ∃ q : Nat, kid n 0 = (q : Int) := ⟨(kid n 0).toNat, by omega⟩
  have hql : q < l.length := by omega
  have hk0 : kindAt l (kid n 0) = l[q].kind := by unfold kindAt; rw [hq, Int.toNat_natCast, List.getElem?_eq_getElem hql]; rfl
  rw [hk0] at hlen h
  have hlen' : (tx T (kid n 0)).length + 1 + n.text.length ≤ 100000000 := by
    split at hlen <;> (simp only [List.length_append, List.length_cons, List.length_nil] at hlen; omega)
  refine Gn Tryz.func38 HQ Tryz.ntmps38 HQ ?_
  refine qs 2 ?_
  refine Gb (GH HQ HQ (fun b2 => (Gb (GH HQ HQ (fun b3 => ?_)))))
  refine qs 4 ?_
  refine GO (fun _ => false) [(b2, _, _), (b3, _, _)] bxA HQ (fun hx hX => ?_)
  obtain ⟨p, o, ea, dd, hk1⟩ := Hn (hX (fKs n _ _ _) memA) HS
  cases ea
  have d0 := dd 0 HS
  refine qt [0, 1, 2] ?_
  refine Gq (i := 3) HQ (GE (k := 0) HQ HQ HQ HS) HR HQ HQ ?_
  refine GP (i := 4) HQ (Hf HQ d0) HR HR HQ HQ HQ ?_
  refine GD (i := 5) HR HQ HQ (fun _ => ?_)
  refine Gi HQ HQ (ih (kid n 0) hb0.1 hb0.2 memA ?_)
  refine Gy bxA memB ?_
  refine qt [6] ?_
  refine GF HR ?_
  refine qs 3 ?_
  refine GO (fun _ => false) [(b2, _, _), (b3, _, _)] bxA HQ (fun hx hX => ?_)
  obtain ⟨p, o, ea, dd, hk1⟩ := Hn (hX (fKs n _ _ _) memA) HS
  cases ea
  have d0 := dd 0 HS
  have hlk := (Hk (hX (fNod l _ _ _) memA)).1
  obtain ⟨p1, o1, ea, at1⟩ := Hs (hX (fNod l _ _ _) memA) hql
  cases ea
  obtain ⟨w1, x1, y1, hv1, hw1⟩ := nod_cells at1
  have e0 := hv1 0 _ rfl
  refine qt [0, 1, 2, 3] ?_
  refine Gq (i := 4) HQ (GE (k := 0) HQ HQ HQ HS) HR HQ HQ ?_
  refine GP (i := 5) HQ (Hf HQ d0) HR HR HQ HQ HQ ?_
  refine Gq (i := 6) HQ (GE (k := q) HQ HQ hq HS) HR HQ HQ ?_
  refine qt [7] ?_
  refine GP (i := 8) HQ (Hf HQ e0) HR HR HQ HQ HQ ?_
  refine qt [9] ?_
  refine GF HR ?_
  refine qs 4 ?_
  refine Gb (GA HQ HQ HQ (fun c23 => ?_) (fun c23 => ?_))
  ·refine qs 7 ?_
   rw [if_pos (by first | exact .inl ‹_› | exact .inr ‹_›)] at hlen h
   simp only [List.length_append, List.length_cons, List.length_nil] at hlen
   refine qs 2 ?_
   refine Gb (Hy (b := [32]) HQ HQ HQ (by simp only [List.length_cons, List.length_nil]; omega) ?_)
   refine qs 6 ?_
   refine Gb (Hy (b := [46]) HQ HQ HQ (by first | omega | (simp only [List.length_append, List.length_cons, List.length_nil]; omega)) ?_)
   refine qs 2 ?_
   refine Gb (Hy HQ HQ HQ (by simp only [List.length_append, List.length_cons, List.length_nil]; omega) ?_)
   refine qs 4 ?_
   exact Gg (L' := L) (F' := F) Tryz.results38 rfl subA h
  refine qs 2 ?_
  refine Gr HQ HQ (GA HQ HQ HQ (fun c26 => ?_) (fun c26 => ?_))
  ·refine qs 4 ?_
   rw [if_pos (by first | exact .inl ‹_› | exact .inr ‹_›)] at hlen h
   simp only [List.length_append, List.length_cons, List.length_nil] at hlen
   refine qs 2 ?_
   refine Gb (Hy (b := [32]) HQ HQ HQ (by simp only [List.length_cons, List.length_nil]; omega) ?_)
   refine qs 6 ?_
   refine Gb (Hy (b := [46]) HQ HQ HQ (by first | omega | (simp only [List.length_append, List.length_cons, List.length_nil]; omega)) ?_)
   refine qs 2 ?_
   refine Gb (Hy HQ HQ HQ (by simp only [List.length_append, List.length_cons, List.length_nil]; omega) ?_)
   refine qs 4 ?_
   exact Gg (L' := L) (F' := F) Tryz.results38 rfl subA h
  refine qs 7 ?_
  rw [if_neg HS] at hlen h
  refine qs 2 ?_
  refine Gb (Hy (b := [46]) HQ HQ HQ (by first | omega | (simp only [List.length_cons, List.length_nil]; omega)) ?_)
  refine qs 2 ?_
  refine Gb (Hy HQ HQ HQ (by simp only [List.length_append, List.length_cons, List.length_nil]; omega) ?_)
  refine qs 4 ?_
  exact Gg (L' := L) (F' := F) Tryz.results38 rfl subA h
theorem wvalue_c (l : List Nod) (T : Nat → Bs) {i : Nat} (_ : RightN l) (hi : i ≤ l.length) (ih : TxC W0 l T i) (word : Bs) (n : Nod) (hk : n.kids.length = 2) (hb0 : 0 ≤ kid n 0 ∧ kid n 0 < (i : Int)) (hb1 : 0 ≤ kid n 1 ∧ kid n 1 < (i : Int)) (mL : fNod l a k c ∈ F) (mK : fKs n a1 k1 c1 ∈ F) (hlen : (valueB l T word n).length ≤ 100000000) (h : R (S (valueB l T word n)) L F) :
    ACalls Tryz.prog W0 83 #[vW a k c, S word, vNod n a1 k1 c1] L F R := by
  have hml : 100000100 ≤ maxLen := by decide
  have hlen' : word.length + n.text.length + 4 ≤ 100000100 ∧ (kindAt l (kid n 0) ≠ 0 → word.length + n.text.length + (tx T (kid n 0)).length + 4 ≤ 100000100) ∧ (kindAt l (kid n 1) ≠ 0 → word.length + n.text.length + (tx T (kid n 1)).length + 4 ≤ 100000100) ∧ (kindAt l (kid n 0) ≠ 0 → kindAt l (kid n 1) ≠ 0 → word.length + n.text.length + (tx T (kid n 0)).length + (tx T (kid n 1)).length + 5 ≤ 100000100) := by
    unfold valueB at hlen
    simp only at hlen
    split at hlen <;> split at hlen <;> (simp only [List.length_append, List.length_cons, List.length_nil] at hlen; refine ⟨by omega, fun _ => ?_, fun _ => ?_, fun _ _ => ?_⟩ <;> first | omega | contradiction)
  clear hlen
  obtain ⟨hl0, hl1, hl2, hl3⟩ := hlen'
  unfold valueB at h
  simp only at h
  refine Gn Tryz.func83 HQ Tryz.ntmps83 HQ ?_
  refine qs 2 ?_
  refine Gb (GH HQ HQ (fun b3 => (Gb (GH HQ HQ (fun b5 => ?_)))))
  refine qs 6 ?_
  refine Gb (Hy (b := [32]) HQ HQ HQ (by simp only [List.length_cons, List.length_nil]; omega) ?_)
  refine qs 2 ?_
  refine Gb (Hy HQ HQ HQ (by simp only [List.length_append, List.length_cons, List.length_nil]; omega) ?_)
  refine qs 5 ?_
  refine GO (fun _ => false) [(b3, _, _), (b5, _, _)] bxA HQ (fun hx hX => ?_)
  obtain ⟨p, o, ea, dd, hk1⟩ := Hn (hX (fKs n _ _ _) memA) HS
  cases ea
  have d0 := dd 0 HS
  have d1 := dd 1 HS
  refine qt [0, 1, 2] ?_
  refine Gq (i := 3) HQ (GE (k := 0) HQ HQ HQ HS) HR HQ HQ ?_
  refine GP (i := 4) HQ (Hf HQ d0) HR HR HQ HQ HQ ?_
  refine GD (i := 5) HR HQ HQ (fun _ => ?_)
  refine Gi HQ HQ (wnone_c l (kid n 0) hb0.1 HS memA (fun c18 => ?_) (fun c18 => ?_))
  ·refine Gy bxA memB ?_
   refine qt [6] ?_
   refine GF HR ?_
   refine qs 6 ?_
   rw [if_pos (show kindAt l (kid n 0) = 0 from ‹_›)] at h
   refine GO (fun _ => false) [(b3, _, _), (b5, _, _)] bxA HQ (fun hx hX => ?_)
   obtain ⟨p, o, ea, dd, hk1⟩ := Hn (hX (fKs n _ _ _) memA) HS
   cases ea
   have d0 := dd 0 HS
   have d1 := dd 1 HS
   refine qt [0, 1, 2] ?_
   refine Gq (i := 3) HQ (GE (k := 1) HQ HQ HQ HS) HR HQ HQ ?_
   refine GP (i := 4) HQ (Hf HQ d1) HR HR HQ HQ HQ ?_
   refine GD (i := 5) HR HQ HQ (fun _ => ?_)
   refine Gi HQ HQ (wnone_c l (kid n 1) hb1.1 HS memA (fun c34 => ?_) (fun c34 => ?_))
   ·refine Gy bxA memB ?_
    refine qt [6] ?_
    refine GF HR ?_
    refine qs 5 ?_
    rw [if_pos (show kindAt l (kid n 1) = 0 from ‹_›)] at h
    refine qs 6 ?_
    exact Gg (L' := L) (F' := F) Tryz.results83 rfl subA h
   refine Gy bxA memB ?_
   refine qt [6] ?_
   refine GF HR ?_
   refine qs 2 ?_
   have hl2' := hl2 ‹_›
   rw [if_neg (show ¬ kindAt l (kid n 1) = 0 from ‹_›)] at h
   refine GO (fun _ => false) [(b3, _, _), (b5, _, _)] bxA HQ (fun hx hX => ?_)
   obtain ⟨p, o, ea, dd, hk1⟩ := Hn (hX (fKs n _ _ _) memA) HS
   cases ea
   have d0 := dd 0 HS
   have d1 := dd 1 HS
   refine qt [0, 1, 2, 3] ?_
   refine Gq (i := 4) HQ (GE (k := 1) HQ HQ HQ HS) HR HQ HQ ?_
   refine GP (i := 5) HQ (Hf HQ d1) HR HR HQ HQ HQ ?_
   refine GD (i := 6) HR HQ HQ (fun _ => ?_)
   refine Gi HQ HQ (ih (kid n 1) hb1.1 hb1.2 memA ?_)
   refine Gy bxA memB ?_
   refine Gq (i := 7) HQ (Hb (a := [32, 61, 32]) HQ HQ (by first | omega | (simp only [List.length_cons, List.length_nil]; omega))) HR HQ HQ ?_
   refine Gq (i := 8) HQ (Hb HQ HQ (by first | omega | (simp only [List.length_append, List.length_cons, List.length_nil]; omega))) HR HQ HQ ?_
   refine qt [9] ?_
   refine GF HR ?_
   refine qs 8 ?_
   exact Gg (L' := L) (F' := F) Tryz.results83 rfl subA h
  refine Gy bxA memB ?_
  refine qt [6] ?_
  refine GF HR ?_
  refine qs 2 ?_
  have hl1' := hl1 ‹_›
  rw [if_neg (show ¬ kindAt l (kid n 0) = 0 from ‹_›)] at h
  refine GO (fun _ => false) [(b3, _, _), (b5, _, _)] bxA HQ (fun hx hX => ?_)
  obtain ⟨p, o, ea, dd, hk1⟩ := Hn (hX (fKs n _ _ _) memA) HS
  cases ea
  have d0 := dd 0 HS
  have d1 := dd 1 HS
  refine qt [0, 1, 2, 3] ?_
  refine Gq (i := 4) HQ (GE (k := 0) HQ HQ HQ HS) HR HQ HQ ?_
  refine GP (i := 5) HQ (Hf HQ d0) HR HR HQ HQ HQ ?_
  refine GD (i := 6) HR HQ HQ (fun _ => ?_)
  refine Gi HQ HQ (ih (kid n 0) hb0.1 hb0.2 memA ?_)
  refine Gy bxA memB ?_
  refine Gq (i := 7) HQ (Hb (a := [32]) HQ HQ (by first | omega | (simp only [List.length_cons, List.length_nil]; omega))) HR HQ HQ ?_
  refine Gq (i := 8) HQ (Hb HQ HQ (by first | omega | (simp only [List.length_append, List.length_cons, List.length_nil]; omega))) HR HQ HQ ?_
  refine qt [9] ?_
  refine GF HR ?_
  refine qs 3 ?_
  refine GO (fun _ => false) [(b3, _, _), (b5, _, _)] bxA HQ (fun hx hX => ?_)
  obtain ⟨p, o, ea, dd, hk1⟩ := Hn (hX (fKs n _ _ _) memA) HS
  cases ea
  have d0 := dd 0 HS
  have d1 := dd 1 HS
  refine qt [0, 1, 2] ?_
  refine Gq (i := 3) HQ (GE (k := 1) HQ HQ HQ HS) HR HQ HQ ?_
  refine GP (i := 4) HQ (Hf HQ d1) HR HR HQ HQ HQ ?_
  refine GD (i := 5) HR HQ HQ (fun _ => ?_)
  refine Gi HQ HQ (wnone_c l (kid n 1) hb1.1 HS memA (fun c34 => ?_) (fun c34 => ?_))
  ·refine Gy bxA memB ?_
   refine qt [6] ?_
   refine GF HR ?_
   refine qs 5 ?_
   rw [if_pos (show kindAt l (kid n 1) = 0 from ‹_›)] at h
   refine qs 6 ?_
   exact Gg (L' := L) (F' := F) Tryz.results83 rfl subA h
  refine Gy bxA memB ?_
  refine qt [6] ?_
  refine GF HR ?_
  refine qs 2 ?_
  have hl2' := hl2 ‹_›
  have hl3' := hl3 (by assumption) (by assumption)
  rw [if_neg (show ¬ kindAt l (kid n 1) = 0 from ‹_›)] at h
  refine GO (fun _ => false) [(b3, _, _), (b5, _, _)] bxA HQ (fun hx hX => ?_)
  obtain ⟨p, o, ea, dd, hk1⟩ := Hn (hX (fKs n _ _ _) memA) HS
  cases ea
  have d0 := dd 0 HS
  have d1 := dd 1 HS
  refine qt [0, 1, 2, 3] ?_
  refine Gq (i := 4) HQ (GE (k := 1) HQ HQ HQ HS) HR HQ HQ ?_
  refine GP (i := 5) HQ (Hf HQ d1) HR HR HQ HQ HQ ?_
  refine GD (i := 6) HR HQ HQ (fun _ => ?_)
  refine Gi HQ HQ (ih (kid n 1) hb1.1 hb1.2 memA ?_)
  refine Gy bxA memB ?_
  refine Gq (i := 7) HQ (Hb (a := [32, 61, 32]) HQ HQ (by first | omega | (simp only [List.length_cons, List.length_nil]; omega))) HR HQ HQ ?_
  refine Gq (i := 8) HQ (Hb HQ HQ (by first | omega | (simp only [List.length_append, List.length_cons, List.length_nil]; omega))) HR HQ HQ ?_
  refine qt [9] ?_
  refine GF HR ?_
  refine qs 8 ?_
  exact Gg (L' := L) (F' := F) Tryz.results83 rfl subA h
theorem wconstant_c (l : List Nod) (T : Nat → Bs) {i : Nat} (hr : RightN l) (hi : i ≤ l.length) (ih : TxC W0 l T i) (n : Nod) (hk : n.kids.length = 2) (hb0 : 0 ≤ kid n 0 ∧ kid n 0 < (i : Int)) (hb1 : 0 ≤ kid n 1 ∧ kid n 1 < (i : Int)) (mL : fNod l a k c ∈ F) (mK : fKs n a1 k1 c1 ∈ F) (hlen : (valueB l T [99, 111, 110, 115, 116] n).length ≤ 100000000) (h : R (S (valueB l T [99, 111, 110, 115, 116] n)) L F) :
    ACalls Tryz.prog W0 53 #[vW a k c, vNod n a1 k1 c1] L F R := by
  have hml : 100000100 ≤ maxLen := by decide
  refine Gn Tryz.func53 HQ Tryz.ntmps53 HQ ?_
  refine qs 2 ?_
  refine Gb (GH HQ HQ (fun b2 => (Gb (GH HQ HQ (fun b3 => ?_)))))
  refine qs 7 ?_
  refine Gb (Gi HQ HQ (wvalue_c l T hr hi ih [99, 111, 110, 115, 116] n hk hb0 hb1 memA memA hlen ?_))
  refine qs 4 ?_
  exact Gg (L' := L) (F' := F) Tryz.results53 rfl subA h
theorem wvariable_c (l : List Nod) (T : Nat → Bs) {i : Nat} (hr : RightN l) (hi : i ≤ l.length) (ih : TxC W0 l T i) (n : Nod) (hk : n.kids.length = 2) (hb0 : 0 ≤ kid n 0 ∧ kid n 0 < (i : Int)) (hb1 : 0 ≤ kid n 1 ∧ kid n 1 < (i : Int)) (mL : fNod l a k c ∈ F) (mK : fKs n a1 k1 c1 ∈ F) (hlen : (valueB l T [118, 97, 114] n).length ≤ 100000000) (h : R (S (valueB l T [118, 97, 114] n)) L F) :
    ACalls Tryz.prog W0 54 #[vW a k c, vNod n a1 k1 c1] L F R := by
  have hml : 100000100 ≤ maxLen := by decide
  refine Gn Tryz.func54 HQ Tryz.ntmps54 HQ ?_
  refine qs 2 ?_
  refine Gb (GH HQ HQ (fun b2 => (Gb (GH HQ HQ (fun b3 => ?_)))))
  refine qs 7 ?_
  refine Gb (Gi HQ HQ (wvalue_c l T hr hi ih [118, 97, 114] n hk hb0 hb1 memA memA hlen ?_))
  refine qs 4 ?_
  exact Gg (L' := L) (F' := F) Tryz.results54 rfl subA h
theorem wtypes_c (l : List Nod) (T : Nat → Bs) {i : Nat} (_ : RightN l) (_ : i ≤ l.length) (ih : TxC W0 l T i) (n : Nod) (hks : ∀ x ∈ n.kids, 0 ≤ x ∧ x < (i : Int)) (hfew : n.kids.length ≤ 4000) (mL : fNod l a k c ∈ F) (mK : fKs n a1 k1 c1 ∈ F) (hlen : (if n.kids.length = 0 then [] else [91] ++ allB T n.kids [44, 32] ++ [93]).length ≤ 100000000) (h : R (S (if n.kids.length = 0 then [] else [91] ++ allB T n.kids [44, 32] ++ [93])) L F) :
    ACalls Tryz.prog W0 56 #[vW a k c, vNod n a1 k1 c1] L F R := by
  have hml : 100000100 ≤ maxLen := by decide
  refine Gn Tryz.func56 HQ Tryz.ntmps56 HQ ?_
  refine qs 2 ?_
  refine Gb (GH HQ HQ (fun b2 => (Gb (GH HQ HQ (fun b3 => ?_)))))
  refine qs 8 ?_
  refine Gb (Hr HQ HQ (fun hl7 => ?_) (enc := eInt) (lst := n.kids) (hm := (show fKs n _ _ _ ∈ _ from memA)))
  refine Gb (GA HQ HQ HQ (fun c8 => ?_) (fun c8 => ?_))
  ·refine qs 4 ?_
   rw [if_pos HS] at hlen h
   refine qs 6 ?_
   exact Gg (L' := L) (F' := F) Tryz.results56 rfl subA h
  refine qs 6 ?_
  rw [if_neg HS] at hlen h
  simp only [List.length_append, List.length_cons, List.length_nil] at hlen
  refine qs 4 ?_
  refine Gb (Gi HQ HQ (wall_c l T ih n.kids hks hfew [44, 32] HS mL mK ?_))
  refine Gb (Hy (a := [91]) HQ HQ HQ (by simp only [List.length_cons, List.length_nil]; omega) ?_)
  refine Gb (Hy (b := [93]) HQ HQ HQ (by simp only [List.length_append, List.length_cons, List.length_nil]; omega) ?_)
  refine qs 4 ?_
  exact Gg (L' := L) (F' := F) Tryz.results56 rfl subA h
theorem wtyp_c (l : List Nod) (T : Nat → Bs) {i : Nat} (_ : RightN l) (_ : i ≤ l.length) (ih : TxC W0 l T i) (n : Nod) (hk : n.kids.length = 2) (hb0 : 0 ≤ kid n 0 ∧ kid n 0 < (i : Int)) (hb1 : 0 ≤ kid n 1 ∧ kid n 1 < (i : Int)) (mL : fNod l a k c ∈ F) (mK : fKs n a1 k1 c1 ∈ F) (hlen : ([116, 121, 112, 101, 32] ++ n.text ++ tx T (kid n 0) ++ [32] ++ tx T (kid n 1)).length ≤ 100000000) (h : R (S ([116, 121, 112, 101, 32] ++ n.text ++ tx T (kid n 0) ++ [32] ++ tx T (kid n 1))) L F) :
    ACalls Tryz.prog W0 55 #[vW a k c, vNod n a1 k1 c1] L F R := by
  have hml : 100000100 ≤ maxLen := by decide
  simp only [List.length_append, List.length_cons, List.length_nil] at hlen
  refine Gn Tryz.func55 HQ Tryz.ntmps55 HQ ?_
  refine qs 2 ?_
  refine Gb (GH HQ HQ (fun b2 => (Gb (GH HQ HQ (fun b3 => ?_)))))
  refine qs 4 ?_
  refine GO (fun _ => false) [(b2, _, _), (b3, _, _)] bxA HQ (fun hx hX => ?_)
  obtain ⟨p, o, ea, dd, hk1⟩ := Hn (hX (fKs n _ _ _) memA) HS
  cases ea
  have d0 := dd 0 HS
  have d1 := dd 1 HS
  refine qt [0, 1] ?_
  refine Gq (i := 2) HQ (Hb (a := [116, 121, 112, 101, 32]) HQ HQ (by first | omega | (simp only [List.length_cons, List.length_nil]; omega))) HR HQ HQ ?_
  refine qt [3, 4, 5] ?_
  refine Gq (i := 6) HQ (GE (k := 0) HQ HQ HQ HS) HR HQ HQ ?_
  refine GP (i := 7) HQ (Hf HQ d0) HR HR HQ HQ HQ ?_
  refine qt [11, 12, 13] ?_
  refine Gq (i := 14) HQ (GE (k := 1) HQ HQ HQ HS) HR HQ HQ ?_
  refine GP (i := 15) HQ (Hf HQ d1) HR HR HQ HQ HQ ?_
  refine GD (i := 8) HR HQ HQ (fun _ => ?_)
  refine Gi HQ HQ (ih (kid n 0) hb0.1 hb0.2 memA ?_)
  refine Gy bxA memB ?_
  refine Gq (i := 9) HQ (Hb HQ HQ (by first | omega | (simp only [List.length_append, List.length_cons, List.length_nil]; omega))) HR HQ HQ ?_
  refine Gq (i := 10) HQ (Hb (b := [32]) HQ HQ (by first | omega | (simp only [List.length_append, List.length_cons, List.length_nil]; omega))) HR HQ HQ ?_
  refine GD (i := 16) HR HQ HQ (fun _ => ?_)
  refine Gi HQ HQ (ih (kid n 1) hb1.1 hb1.2 memA ?_)
  refine Gy bxA memB ?_
  refine Gq (i := 17) HQ (Hb HQ HQ (by first | omega | (simp only [List.length_append, List.length_cons, List.length_nil]; omega))) HR HQ HQ ?_
  refine qt [18] ?_
  refine GF HR ?_
  refine qs 2 ?_
  exact Gg (L' := L) (F' := F) Tryz.results55 rfl subA h
theorem wdecl_c (l : List Nod) (T : Nat → Bs) {i : Nat} (hr : RightN l) (hi : i ≤ l.length) (ih : TxC W0 l T i) (n : Nod) (hk : n.kids.length = 4) (hb0 : 0 ≤ kid n 0 ∧ kid n 0 < (i : Int)) (hb1 : 0 ≤ kid n 1 ∧ kid n 1 < (i : Int)) (hb2 : 0 ≤ kid n 2 ∧ kid n 2 < (i : Int)) (hb3 : 0 ≤ kid n 3 ∧ kid n 3 < (i : Int)) (mL : fNod l a k c ∈ F) (mK : fKs n a1 k1 c1 ∈ F) (hlen : ((if kindAt l (kid n 0) = 0 then [102, 117, 110, 99, 32] else [102, 117, 110, 99, 32] ++ ([40] ++ tx T (kid n 0) ++ [41, 32])) ++ n.text ++ tx T (kid n 1) ++ signB l T (kid n 2) ++ [32] ++ tx T (kid n 3)).length ≤ 100000000) (h : R (S ((if kindAt l (kid n 0) = 0 then [102, 117, 110, 99, 32] else [102, 117, 110, 99, 32] ++ ([40] ++ tx T (kid n 0) ++ [41, 32])) ++ n.text ++ tx T (kid n 1) ++ signB l T (kid n 2) ++ [32] ++ tx T (kid n 3))) L F) :
    ACalls Tryz.prog W0 57 #[vW a k c, vNod n a1 k1 c1] L F R := by
  have hml : 100000100 ≤ maxLen := by decide
  refine Gn Tryz.func57 HQ Tryz.ntmps57 HQ ?_
  refine qs 2 ?_
  refine Gb (GH HQ HQ (fun b2 => (Gb (GH HQ HQ (fun b3 => ?_)))))
  refine qs 10 ?_
  refine GO (fun _ => false) [(b2, _, _), (b3, _, _)] bxA HQ (fun hx hX => ?_)
  obtain ⟨p, o, ea, dd, hk1⟩ := Hn (hX (fKs n _ _ _) memA) HS
  cases ea
  have d0 := dd 0 HS
  have d1 := dd 1 HS
  have d2 := dd 2 HS
  have d3 := dd 3 HS
  refine qt [0, 1, 2] ?_
  refine Gq (i := 3) HQ (GE (k := 0) HQ HQ HQ HS) HR HQ HQ ?_
  refine GP (i := 4) HQ (Hf HQ d0) HR HR HQ HQ HQ ?_
  refine GD (i := 5) HR HQ HQ (fun _ => ?_)
  refine Gi HQ HQ (wnone_c l (kid n 0) hb0.1 HS memA (fun c11 => ?_) (fun c11 => ?_))
  ·refine Gy bxA memB ?_
   refine qt [6] ?_
   refine GF HR ?_
   refine qs 5 ?_
   rw [if_pos (show kindAt l (kid n 0) = 0 from ‹_›)] at hlen h
   simp only [List.length_append, List.length_cons, List.length_nil] at hlen
   refine GO (fun _ => false) [(b2, _, _), (b3, _, _)] bxA HQ (fun hx hX => ?_)
   obtain ⟨p, o, ea, dd, hk1⟩ := Hn (hX (fKs n _ _ _) memA) HS
   cases ea
   have d0 := dd 0 HS
   have d1 := dd 1 HS
   have d2 := dd 2 HS
   have d3 := dd 3 HS
   refine qt [0, 1, 2] ?_
   refine Gq (i := 3) HQ (Hb HQ HQ (by first | omega | (simp only [List.length_cons, List.length_nil]; omega))) HR HQ HQ ?_
   refine qt [4, 5, 6] ?_
   refine Gq (i := 7) HQ (GE (k := 1) HQ HQ HQ HS) HR HQ HQ ?_
   refine GP (i := 8) HQ (Hf HQ d1) HR HR HQ HQ HQ ?_
   refine qt [11, 12, 13] ?_
   refine Gq (i := 14) HQ (GE (k := 2) HQ HQ HQ HS) HR HQ HQ ?_
   refine GP (i := 15) HQ (Hf HQ d2) HR HR HQ HQ HQ ?_
   refine qt [19, 20, 21] ?_
   refine Gq (i := 22) HQ (GE (k := 3) HQ HQ HQ HS) HR HQ HQ ?_
   refine GP (i := 23) HQ (Hf HQ d3) HR HR HQ HQ HQ ?_
   refine GD (i := 9) HR HQ HQ (fun _ => ?_)
   refine Gi HQ HQ (ih (kid n 1) hb1.1 hb1.2 memA ?_)
   refine Gy bxA memB ?_
   refine Gq (i := 10) HQ (Hb HQ HQ (by first | omega | (simp only [List.length_append, List.length_cons, List.length_nil]; omega))) HR HQ HQ ?_
   refine GD (i := 16) HR HQ HQ (fun _ => ?_)
   refine Gi HQ HQ (wsig_c l T hr ih (kid n 2) hb2.1 hb2.2 HS memA HS ?_)
   refine Gy bxA memB ?_
   refine Gq (i := 17) HQ (Hb HQ HQ (by first | omega | (simp only [List.length_append, List.length_cons, List.length_nil]; omega))) HR HQ HQ ?_
   refine Gq (i := 18) HQ (Hb (b := [32]) HQ HQ (by first | omega | (simp only [List.length_append, List.length_cons, List.length_nil]; omega))) HR HQ HQ ?_
   refine GD (i := 24) HR HQ HQ (fun _ => ?_)
   refine Gi HQ HQ (ih (kid n 3) hb3.1 hb3.2 memA ?_)
   refine Gy bxA memB ?_
   refine Gq (i := 25) HQ (Hb HQ HQ (by first | omega | (simp only [List.length_append, List.length_cons, List.length_nil]; omega))) HR HQ HQ ?_
   refine qt [26] ?_
   refine GF HR ?_
   refine qs 2 ?_
   exact Gg (L' := L) (F' := F) Tryz.results57 rfl subA h
  refine Gy bxA memB ?_
  refine qt [6] ?_
  refine GF HR ?_
  refine qs 2 ?_
  rw [if_neg (show ¬ kindAt l (kid n 0) = 0 from ‹_›)] at hlen h
  simp only [List.length_append, List.length_cons, List.length_nil] at hlen
  refine GO (fun _ => false) [(b2, _, _), (b3, _, _)] bxA HQ (fun hx hX => ?_)
  obtain ⟨p, o, ea, dd, hk1⟩ := Hn (hX (fKs n _ _ _) memA) HS
  cases ea
  have d0 := dd 0 HS
  have d1 := dd 1 HS
  have d2 := dd 2 HS
  have d3 := dd 3 HS
  refine qt [0, 1, 2, 3] ?_
  refine Gq (i := 4) HQ (GE (k := 0) HQ HQ HQ HS) HR HQ HQ ?_
  refine GP (i := 5) HQ (Hf HQ d0) HR HR HQ HQ HQ ?_
  refine GD (i := 6) HR HQ HQ (fun _ => ?_)
  refine Gi HQ HQ (ih (kid n 0) hb0.1 hb0.2 memA ?_)
  refine Gy bxA memB ?_
  refine Gq (i := 7) HQ (Hb (a := [40]) HQ HQ (by first | omega | (simp only [List.length_cons, List.length_nil]; omega))) HR HQ HQ ?_
  refine Gq (i := 8) HQ (Hb (b := [41, 32]) HQ HQ (by first | omega | (simp only [List.length_append, List.length_cons, List.length_nil]; omega))) HR HQ HQ ?_
  refine Gq (i := 9) HQ (Hb HQ HQ (by first | omega | (simp only [List.length_append, List.length_cons, List.length_nil]; omega))) HR HQ HQ ?_
  refine qt [10] ?_
  refine GF HR ?_
  refine qs 2 ?_
  refine GO (fun _ => false) [(b2, _, _), (b3, _, _)] bxA HQ (fun hx hX => ?_)
  obtain ⟨p, o, ea, dd, hk1⟩ := Hn (hX (fKs n _ _ _) memA) HS
  cases ea
  have d0 := dd 0 HS
  have d1 := dd 1 HS
  have d2 := dd 2 HS
  have d3 := dd 3 HS
  refine qt [0, 1, 2] ?_
  refine Gq (i := 3) HQ (Hb HQ HQ (by first | omega | (simp only [List.length_append, List.length_cons, List.length_nil]; omega))) HR HQ HQ ?_
  refine qt [4, 5, 6] ?_
  refine Gq (i := 7) HQ (GE (k := 1) HQ HQ HQ HS) HR HQ HQ ?_
  refine GP (i := 8) HQ (Hf HQ d1) HR HR HQ HQ HQ ?_
  refine qt [11, 12, 13] ?_
  refine Gq (i := 14) HQ (GE (k := 2) HQ HQ HQ HS) HR HQ HQ ?_
  refine GP (i := 15) HQ (Hf HQ d2) HR HR HQ HQ HQ ?_
  refine qt [19, 20, 21] ?_
  refine Gq (i := 22) HQ (GE (k := 3) HQ HQ HQ HS) HR HQ HQ ?_
  refine GP (i := 23) HQ (Hf HQ d3) HR HR HQ HQ HQ ?_
  refine GD (i := 9) HR HQ HQ (fun _ => ?_)
  refine Gi HQ HQ (ih (kid n 1) hb1.1 hb1.2 memA ?_)
  refine Gy bxA memB ?_
  refine Gq (i := 10) HQ (Hb HQ HQ (by first | omega | (simp only [List.length_append, List.length_cons, List.length_nil]; omega))) HR HQ HQ ?_
  refine GD (i := 16) HR HQ HQ (fun _ => ?_)
  refine Gi HQ HQ (wsig_c l T hr ih (kid n 2) hb2.1 hb2.2 HS memA HS ?_)
  refine Gy bxA memB ?_
  refine Gq (i := 17) HQ (Hb HQ HQ (by first | omega | (simp only [List.length_append, List.length_cons, List.length_nil]; omega))) HR HQ HQ ?_
  refine Gq (i := 18) HQ (Hb (b := [32]) HQ HQ (by first | omega | (simp only [List.length_append, List.length_cons, List.length_nil]; omega))) HR HQ HQ ?_
  refine GD (i := 24) HR HQ HQ (fun _ => ?_)
  refine Gi HQ HQ (ih (kid n 3) hb3.1 hb3.2 memA ?_)
  refine Gy bxA memB ?_
  refine Gq (i := 25) HQ (Hb HQ HQ (by first | omega | (simp only [List.length_append, List.length_cons, List.length_nil]; omega))) HR HQ HQ ?_
  refine qt [26] ?_
  refine GF HR ?_
  refine qs 2 ?_
  exact Gg (L' := L) (F' := F) Tryz.results57 rfl subA h
theorem wbody_c (l : List Nod) (T : Nat → Bs) {i : Nat} (_ : RightN l) (hi : i ≤ l.length) (ih : TxC W0 l T i) (n : Nod) (hk : n.kids.length = 1) (hb0 : 0 ≤ kid n 0 ∧ kid n 0 < (i : Int)) (mL : fNod l a k c ∈ F) (mK : fKs n a1 k1 c1 ∈ F) (hlen : (if kindAt l (kid n 0) = 0 then [123, 125] else [123, 32, 114, 101, 116, 117, 114, 110, 32] ++ tx T (kid n 0) ++ [32, 125]).length ≤ 100000000) (h : R (S (if kindAt l (kid n 0) = 0 then [123, 125] else [123, 32, 114, 101, 116, 117, 114, 110, 32] ++ tx T (kid n 0) ++ [32, 125])) L F) :
    ACalls Tryz.prog W0 58 #[vW a k c, vNod n a1 k1 c1] L F R := by
  have hml : 100000100 ≤ maxLen := by decide
  refine Gn Tryz.func58 HQ Tryz.ntmps58 HQ ?_
  refine qs 2 ?_
  refine Gb (GH HQ HQ (fun b2 => (Gb (GH HQ HQ (fun b3 => ?_)))))
  refine qs 5 ?_
  refine GO (fun _ => false) [(b2, _, _), (b3, _, _)] bxA HQ (fun hx hX => ?_)
  obtain ⟨p, o, ea, dd, hk1⟩ := Hn (hX (fKs n _ _ _) memA) HS
  cases ea
  have d0 := dd 0 HS
  refine qt [0, 1, 2] ?_
  refine Gq (i := 3) HQ (GE (k := 0) HQ HQ HQ HS) HR HQ HQ ?_
  refine GP (i := 4) HQ (Hf HQ d0) HR HR HQ HQ HQ ?_
  refine GD (i := 5) HR HQ HQ (fun _ => ?_)
  refine Gi HQ HQ (wnone_c l (kid n 0) hb0.1 HS memA (fun c10 => ?_) (fun c10 => ?_))
  ·refine Gy bxA memB ?_
   refine GF HR ?_
   refine qs 3 ?_
   rw [if_pos (show kindAt l (kid n 0) = 0 from ‹_›)] at h
   refine qs 6 ?_
   exact Gg (L' := L) (F' := F) Tryz.results58 rfl subA h
  refine Gy bxA memB ?_
  refine GF HR ?_
  refine qs 5 ?_
  rw [if_neg (show ¬ kindAt l (kid n 0) = 0 from ‹_›)] at hlen h
  simp only [List.length_append, List.length_cons, List.length_nil] at hlen
  refine GO (fun _ => false) [(b2, _, _), (b3, _, _)] bxA HQ (fun hx hX => ?_)
  obtain ⟨p, o, ea, dd, hk1⟩ := Hn (hX (fKs n _ _ _) memA) HS
  cases ea
  have d0 := dd 0 HS
  refine qt [0, 1, 2] ?_
  refine Gq (i := 3) HQ (GE (k := 0) HQ HQ HQ HS) HR HQ HQ ?_
  refine GP (i := 4) HQ (Hf HQ d0) HR HR HQ HQ HQ ?_
  refine GD (i := 5) HR HQ HQ (fun _ => ?_)
  refine Gi HQ HQ (ih (kid n 0) hb0.1 hb0.2 memA ?_)
  refine Gy bxA memB ?_
  refine Gq (i := 6) HQ (Hb (a := [123, 32, 114, 101, 116, 117, 114, 110, 32]) HQ HQ (by first | omega | (simp only [List.length_cons, List.length_nil]; omega))) HR HQ HQ ?_
  refine Gq (i := 7) HQ (Hb (b := [32, 125]) HQ HQ (by first | omega | (simp only [List.length_append, List.length_cons, List.length_nil]; omega))) HR HQ HQ ?_
  refine qt [8] ?_
  refine GF HR ?_
  refine qs 2 ?_
  exact Gg (L' := L) (F' := F) Tryz.results58 rfl subA h
end
end Go.Sy
namespace Go.Sy
open Go Go.Proofs
attribute [local irreducible] AC AT AO AK AH ACalls Sub Res.cells Res.obj Res.nix Res.own Exit.then Exit.inBlock bodyPost Code.wp Code.wpIn WL Next Post Kont
section
variable {W0 : World} {L : List Res} {F : List Fact} {R : Value → List Res → List Fact → Prop}
set_option maxRecDepth 100000
set_option maxHeartbeats 4000000
theorem bcheck0_c {b i : Nat} {v : Value} (hi : L[i]? = some (Res.cells b #[.pointer none, v] 92)) (h : R (.tuple #[]) (L.set i (Res.cells b #[.pointer (some ⟨b, 0, none⟩), v] 92)) F) :
    ACalls Tryz.prog W0 110 #[.pointer (some ⟨b, 0, none⟩)] L F R := by
  refine Gn Tryz.func110 HQ Tryz.ntmps110 HQ ?_
  refine qs 3 ?_
  refine Gb (Gu HQ HQ ?_)
  refine qs 1 ?_
  refine Gb (GL (cs := [.pointer none, v]) HQ HQ ?_ (hi := hi) (hv := HQ))
  refine Gb (AO.eqlP Tryz.underlying89 HQ HQ HQ ?_)
  refine qs 6 ?_
  refine Gb (AO.toUnsafe (m := 2) Tryz.underlying89 Tryz.underlying115 HR HQ hi (Nat.zero_lt_succ 1) HQ HQ ?_)
  refine Gb (AO.noEscape Tryz.func123 HR HR HR HR HQ HQ ?_)
  refine Gb (AO.fromUnsafe Tryz.underlying115 Tryz.underlying89 HR hi HR HQ HQ ?_)
  refine Gb (Gu HQ HQ ?_)
  refine qs 1 ?_
  refine Gb (HF (i := i) (cs := [.pointer none, v]) HQ HQ HQ ?_ (hi := hi) (ho := HQ))
  refine qs 1 ?_
  exact AK.end0 Tryz.results110 (Ga _ _) h
theorem bcheck1_c {b i : Nat} {v : Value} (hi : L[i]? = some (Res.cells b #[.pointer (some ⟨b, 0, none⟩), v] 92)) (h : R (.tuple #[]) L F) :
    ACalls Tryz.prog W0 110 #[.pointer (some ⟨b, 0, none⟩)] L F R := by
  refine Gn Tryz.func110 HQ Tryz.ntmps110 HQ ?_
  refine qs 3 ?_
  refine Gb (Gu HQ HQ ?_)
  refine qs 1 ?_
  refine Gb (GL (cs := [.pointer (some ⟨b, 0, none⟩), v]) HQ HQ ?_ (hi := hi) (hv := HQ))
  refine Gb (AO.eqlP Tryz.underlying89 HQ HQ HQ ?_)
  refine qs 6 ?_
  refine Gb (Gu HQ HQ ?_)
  refine qs 1 ?_
  refine Gb (GL (cs := [.pointer (some ⟨b, 0, none⟩), v]) HQ HQ ?_ (hi := hi) (hv := HQ))
  refine qs 1 ?_
  refine Gb (AO.neqPs Tryz.underlying89 HR HQ HQ HQ ?_)
  refine qs 4 ?_
  exact AK.end0 Tryz.results110 (Ga _ _) h
theorem set3 {α : Type} {l : List α} {i j : Nat} {a o c : α} (hij : i ≠ j) : (((l.set i a).set j o).set i c) = (l.set j o).set i c := by
  rw [List.set_comm a o hij, List.set_set]
theorem wstr0_c {b i j : Nat} {v : Value} {lst s : List UInt8} (hij : i ≠ j) (hi : L[i]? = some (Res.cells b #[.pointer none, v] 92)) (hj : L[j]? = some (Res.own v 5 1 (lst.map eB))) (hlen : lst.length + s.length ≤ 100000000)
    (h : ∀ a k c, (Value.slice a k c = .slice none 0 0 ↔ v = .slice none 0 0 ∧ s = []) → R (.tuple #[.int .i64 s.length, .nilIface]) ((L.set j (Res.own (.slice a k c) 5 1 ((lst ++ s).map eB))).set i (Res.cells b #[.pointer (some ⟨b, 0, none⟩), .slice a k c] 92)) F) :
    ACalls Tryz.prog W0 85 #[.pointer (some ⟨b, 0, none⟩), S s] L F R := by
  have hml : 1000000000 ≤ maxLen := by decide
  have hi1 : (L.set i (Res.cells b #[.pointer (some ⟨b, 0, none⟩), v] 92))[i]? = some (Res.cells b #[.pointer (some ⟨b, 0, none⟩), v] 92) := by simp [has_lt hi]
  have hj1 : (L.set i (Res.cells b #[.pointer (some ⟨b, 0, none⟩), v] 92))[j]? = some (Res.own v 5 1 (lst.map eB)) := by rw [List.getElem?_set_ne hij]; exact hj
  refine Gn Tryz.func85 HQ Tryz.ntmps85 HQ ?_
  refine qs 9 ?_
  refine Gb (Gi HQ HQ (bcheck0_c hi ?_))
  refine qs 6 ?_
  refine Gb (Gu HQ HQ ?_)
  refine qs 1 ?_
  refine Gb (GL (cs := [.pointer (some ⟨b, 0, none⟩), v]) HQ HQ ?_ (hi := hi1) (hv := HQ))
  refine qs 1 ?_
  refine Gb (AO.appendS (i := j) HQ HQ HQ hj1 HS HS (fun a14 k14 z14 n14 => ?_))
  refine Gb (Gu HQ HQ ?_)
  refine qs 1 ?_
  have hi2 : ((L.set i (Res.cells b #[.pointer (some ⟨b, 0, none⟩), v] 92)).set j (Res.own (.slice a14 k14 z14) 5 1 ((lst ++ s).map eB)))[i]? = some (Res.cells b #[.pointer (some ⟨b, 0, none⟩), v] 92) := by rw [List.getElem?_set_ne hij.symm]; exact hi1
  refine Gb (HF (i := i) (cs := [.pointer (some ⟨b, 0, none⟩), v]) HQ HQ HQ ?_ (hi := hi2) (ho := HQ))
  refine qs 11 ?_
  refine GW (F' := F) Tryz.results85 HQ HQ (HM ?_) (h a14 k14 z14 n14)
  exact set3 hij
theorem wstr1_c {b i j : Nat} {v : Value} {lst s : List UInt8} (hij : i ≠ j) (hi : L[i]? = some (Res.cells b #[.pointer (some ⟨b, 0, none⟩), v] 92)) (hj : L[j]? = some (Res.own v 5 1 (lst.map eB))) (hlen : lst.length + s.length ≤ 100000000)
    (h : ∀ a k c, (Value.slice a k c = .slice none 0 0 ↔ v = .slice none 0 0 ∧ s = []) → R (.tuple #[.int .i64 s.length, .nilIface]) ((L.set j (Res.own (.slice a k c) 5 1 ((lst ++ s).map eB))).set i (Res.cells b #[.pointer (some ⟨b, 0, none⟩), .slice a k c] 92)) F) :
    ACalls Tryz.prog W0 85 #[.pointer (some ⟨b, 0, none⟩), S s] L F R := by
  have hml : 1000000000 ≤ maxLen := by decide
  have hi1 : (L)[i]? = some (Res.cells b #[.pointer (some ⟨b, 0, none⟩), v] 92) := by exact hi
  have hj1 : (L)[j]? = some (Res.own v 5 1 (lst.map eB)) := by exact hj
  refine Gn Tryz.func85 HQ Tryz.ntmps85 HQ ?_
  refine qs 9 ?_
  refine Gb (Gi HQ HQ (bcheck1_c hi ?_))
  refine qs 6 ?_
  refine Gb (Gu HQ HQ ?_)
  refine qs 1 ?_
  refine Gb (GL (cs := [.pointer (some ⟨b, 0, none⟩), v]) HQ HQ ?_ (hi := hi1) (hv := HQ))
  refine qs 1 ?_
  refine Gb (AO.appendS (i := j) HQ HQ HQ hj1 HS HS (fun a14 k14 z14 n14 => ?_))
  refine Gb (Gu HQ HQ ?_)
  refine qs 1 ?_
  have hi2 : ((L).set j (Res.own (.slice a14 k14 z14) 5 1 ((lst ++ s).map eB)))[i]? = some (Res.cells b #[.pointer (some ⟨b, 0, none⟩), v] 92) := by rw [List.getElem?_set_ne hij.symm]; exact hi1
  refine Gb (HF (i := i) (cs := [.pointer (some ⟨b, 0, none⟩), v]) HQ HQ HQ ?_ (hi := hi2) (ho := HQ))
  refine qs 11 ?_
  refine GW (F' := F) Tryz.results85 HQ HQ (HM ?_) (h a14 k14 z14 n14)
  rfl
theorem wstr_c {b i j : Nat} {p : Option Addr} {v : Value} {lst s : List UInt8} (hp : p = none ∨ p = some ⟨b, 0, none⟩) (hij : i ≠ j) (hi : L[i]? = some (Res.cells b #[.pointer p, v] 92)) (hj : L[j]? = some (Res.own v 5 1 (lst.map eB))) (hlen : lst.length + s.length ≤ 100000000)
    (h : ∀ a k c, (Value.slice a k c = .slice none 0 0 ↔ v = .slice none 0 0 ∧ s = []) → R (.tuple #[.int .i64 s.length, .nilIface]) ((L.set j (Res.own (.slice a k c) 5 1 ((lst ++ s).map eB))).set i (Res.cells b #[.pointer (some ⟨b, 0, none⟩), .slice a k c] 92)) F) :
    ACalls Tryz.prog W0 85 #[.pointer (some ⟨b, 0, none⟩), S s] L F R := by
  rcases hp with rfl | rfl
  · exact wstr0_c hij hi hj hlen h
  exact wstr1_c hij hi hj hlen h
theorem bstr0_c {b i : Nat} {p : Option Addr} (hi : L[i]? = some (Res.cells b #[.pointer p, .slice none 0 0] 92)) (h : R (S []) L F) :
    ACalls Tryz.prog W0 86 #[.pointer (some ⟨b, 0, none⟩)] L F R := by
  refine Gn Tryz.func86 HQ Tryz.ntmps86 HQ ?_
  refine qs 6 ?_
  refine GO (fun _ => false) [(b, [.pointer p, .slice none 0 0], 92)] (.cons hi .nil) HQ (fun hx hX => ?_)
  refine Gq (i := 0) HQ (Y.move HQ) HR HQ HQ ?_
  refine Gq (i := 1) HQ (Y.nilCheckP HQ) HR HQ HQ ?_
  refine Gq (i := 2) HQ (Y.field HQ) HR HQ HQ ?_
  refine GP (i := 3) HQ (Y.loadB HQ (.head _) (by rfl)) HR HR HQ HQ HQ ?_
  refine Gq (i := 5) HQ (Y.move HQ) HR HQ HQ ?_
  refine Gq (i := 6) HQ (Y.nilCheckP HQ) HR HQ HQ ?_
  refine Gq (i := 7) HQ (Y.field HQ) HR HQ HQ ?_
  refine GP (i := 8) HQ (Y.loadB HQ (.head _) (by rfl)) HR HR HQ HQ HQ ?_
  refine Gq (i := 9) HQ (Y.lenV HQ) HR HQ HQ ?_
  refine GD (i := 4) HR HQ HQ (fun _ => ?_)
  refine AO.sliceData0 HQ HQ ?_
  refine Gy (.cons hi .nil) mem0 ?_
  refine GD (i := 10) HR HQ HQ (fun _ => ?_)
  refine AO.unsafeStr0 HQ HQ HQ ?_
  refine Gy (.cons hi .nil) mem0 ?_
  refine Gq (i := 11) HQ (Y.assign HQ) HR HQ HQ ?_
  refine GF HR ?_
  refine qs 2 ?_
  exact Gg (L' := L) (F' := F) Tryz.results86 rfl subF h
theorem bstr1_c {b i j g k : Nat} {p : Option Addr} {lst : List UInt8} (hij : i ≠ j) (hk : k ≠ 0) (hne : lst ≠ []) (hi : L[i]? = some (Res.cells b #[.pointer p, .slice (some ⟨g, 0, none⟩) lst.length k] 92)) (hj : L[j]? = some (Res.own (.slice (some ⟨g, 0, none⟩) lst.length k) 5 1 (lst.map eB)))
    (h : R (S lst) (L.set j Res.nix) F) : ACalls Tryz.prog W0 86 #[.pointer (some ⟨b, 0, none⟩)] L F R := by
  have hi2 : (L.set j Res.nix)[i]? = some (Res.cells b #[.pointer p, .slice (some ⟨g, 0, none⟩) lst.length k] 92) := by rw [List.getElem?_set_ne hij.symm]; exact hi
  refine Gn Tryz.func86 HQ Tryz.ntmps86 HQ ?_
  refine qs 6 ?_
  refine GO (fun _ => false) [(b, [.pointer p, .slice (some ⟨g, 0, none⟩) lst.length k], 92)] (.cons hi .nil) HQ (fun hx hX => ?_)
  refine Gq (i := 0) HQ (Y.move HQ) HR HQ HQ ?_
  refine Gq (i := 1) HQ (Y.nilCheckP HQ) HR HQ HQ ?_
  refine Gq (i := 2) HQ (Y.field HQ) HR HQ HQ ?_
  refine GP (i := 3) HQ (Y.loadB HQ (.head _) (by rfl)) HR HR HQ HQ HQ ?_
  refine Gq (i := 5) HQ (Y.move HQ) HR HQ HQ ?_
  refine Gq (i := 6) HQ (Y.nilCheckP HQ) HR HQ HQ ?_
  refine Gq (i := 7) HQ (Y.field HQ) HR HQ HQ ?_
  refine GP (i := 8) HQ (Y.loadB HQ (.head _) (by rfl)) HR HR HQ HQ HQ ?_
  refine Gq (i := 9) HQ (Y.lenV HQ) HR HQ HQ ?_
  refine GD (i := 4) HR HQ HQ (fun _ => ?_)
  refine AO.sliceData1 HQ hk HQ ?_
  refine Gy (.cons hi .nil) mem0 ?_
  refine GD (i := 10) HR HQ HQ (fun _ => ?_)
  refine AO.unsafeStr1 Tryz.underlying111 HR HQ HQ HQ hj hne ?_
  refine Gy (.cons hi2 .nil) mem0 ?_
  refine Gq (i := 11) HQ (Y.assign HQ) HR HQ HQ ?_
  refine GF HR ?_
  refine qs 2 ?_
  exact Gg (L' := L.set j Res.nix) (F' := F) Tryz.results86 rfl subF h
theorem bstr_c {b i j : Nat} {p : Option Addr} {v : Value} {lst : List UInt8} (hij : i ≠ j) (hi : L[i]? = some (Res.cells b #[.pointer p, v] 92)) (hj : L[j]? = some (Res.own v 5 1 (lst.map eB))) (hn : lst = [] → v = .slice none 0 0)
    (h : R (S lst) (L.set j Res.nix) F) : ACalls Tryz.prog W0 86 #[.pointer (some ⟨b, 0, none⟩)] L F R := by
  by_cases hne : lst = []
  · have hv := hn hne
    subst hne hv
    exact ACalls.weak (Sub.dropAt hj) (bstr0_c (L := L.set j Res.nix) (by rw [List.getElem?_set_ne hij.symm]; exact hi) h)
  refine ACalls.ownForm hj hne (fun g c hv hc => ?_)
  subst hv
  exact bstr1_c hij hc hne hi hj h
end
end Go.Sy
namespace Go.Sy
open Go Go.Proofs Go.RowKit
abbrev lineB (T : Nat → Bs) (ks : List Int) : Bs := (ks.map fun k => tx T k ++ [10]).flatten
theorem line_step (T : Nat → Bs) {ks : List Int} {q : Nat} (hq : q < ks.length) : lineB T (ks.take (q + 1)) = lineB T (ks.take q) ++ (tx T ks[q] ++ [10]) := by
  unfold lineB
  rw [List.take_succ_eq_append_getElem hq, List.map_append, List.flatten_append]
  simp
theorem line_le (T : Nat → Bs) (ks : List Int) (q : Nat) : (lineB T (ks.take q)).length ≤ (lineB T ks).length := by
  conv => rhs; rw [← List.take_append_drop q ks]
  unfold lineB
  rw [List.map_append, List.flatten_append, List.length_append]
  exact Nat.le_add_right _ _
attribute [local irreducible] AC AT AO AK AH ACalls ACallsX ACallsD Sub Res.cells Res.obj Res.nix Res.own Res.map Exit.then Exit.inBlock Exit.noGoto bodyPost bodyPostD Code.wp Code.wpIn WL Next Post PostX Kont
section
variable {W0 : World} {L : List Res} {F : List Fact} {R : Value → List Res → List Fact → Prop}
set_option maxRecDepth 100000
set_option maxHeartbeats 4000000
variable {a a1 : Option Addr} {k c k1 c1 : Nat}
theorem wfile_c (l : List Nod) (T : Nat → Bs) {i : Nat} (ih : TxC W0 l T i) (n : Nod) (hks : ∀ x ∈ n.kids, 0 ≤ x ∧ x < (i : Int)) (hfew : n.kids.length ≤ 4000) (mL : fNod l a k c ∈ F) (mK : fKs n a1 k1 c1 ∈ F) (hlen : ([112, 97, 99, 107, 97, 103, 101, 32] ++ n.text ++ [10] ++ lineB T n.kids).length ≤ 100000000) (h : R (S ([112, 97, 99, 107, 97, 103, 101, 32] ++ n.text ++ [10] ++ lineB T n.kids)) L F) :
    ACalls Tryz.prog W0 60 #[vW a k c, vNod n a1 k1 c1] L F R := by
  have hml : 100000100 ≤ maxLen := by decide
  have hl0 := hlen
  simp only [List.length_append, List.length_cons, List.length_nil] at hl0
  refine Gn Tryz.func60 HQ Tryz.ntmps60 HQ ?_
  refine qs 2 ?_
  refine Gb (GH HQ HQ (fun b2 => (Gb (GH HQ HQ (fun b3 => ?_)))))
  refine qs 5 ?_
  refine Gb (Hh HQ (fun b5 => ?_))
  refine GT (Sub.ownNil (e := 5) (sz := 1)) ?_
  refine qs 6 ?_
  refine Gb (Hy (a := [112, 97, 99, 107, 97, 103, 101, 32]) HQ HQ HQ (by simp only [List.length_cons, List.length_nil]; omega) ?_)
  refine Gb (Hy (b := [10]) HQ HQ HQ (by simp only [List.length_append, List.length_cons, List.length_nil]; omega) ?_)
  refine Gb (Gi HQ HQ (wstr_c (b := b5) (i := 1) (j := 0) (lst := []) (.inl HQ) (by decide) HQ HQ (by simp only [List.length_append, List.length_cons, List.length_nil]; omega) (fun a12 k12 z12 n12 => ?_)))
  refine qs 7 ?_
  refine Gb (Hr HQ HQ (fun hl15 => ?_) (enc := eInt) (lst := n.kids) (hm := (show fKs n _ _ _ ∈ _ from memA)))
  refine qs 4 ?_
  refine Hj (fun (x : Nat × (Option Addr × Nat × Nat)) => x.1 ≤ n.kids.length) (fun x => [(2, .pointer (some ⟨b2, 0, none⟩)), (5, .pointer (some ⟨b5, 0, none⟩)), (14, .slice a1 k1 c1), (15, .int .i64 n.kids.length), (16, .int .i64 (x.1 : Int))]) (fun x => Res.own (.slice x.2.1 x.2.2.1 x.2.2.2) 5 1 (([112, 97, 99, 107, 97, 103, 101, 32] ++ n.text ++ [10] ++ lineB T (n.kids.take x.1)).map eB) :: Res.cells b5 #[.pointer (some ⟨b5, 0, none⟩), .slice x.2.1 x.2.2.1 x.2.2.2] 92 :: Res.cells b3 #[.int .i64 n.kind, S n.text, .slice a1 k1 c1, .int .i64 n.pos] 50 :: Res.cells b2 #[.slice a k c] 46 :: L) (fun _ => F) (fun x => n.kids.length - x.1) (0, (a12, k12, z12)) (by simp) srA (HM (by simp [lineB]; exact ⟨rfl, rfl⟩)) ?_
  rintro ⟨q, ⟨aw, kw, zw⟩⟩ hq
  simp only at hq ⊢
  refine qs 2 ?_
  refine Gb (Hq HQ HQ HQ (fun c17 => ?_) (fun c17 => ?_))
  ·refine qs 10 ?_
   have hql : q < n.kids.length := by omega
   have hb := hks _ (List.getElem_mem hql)
   have hst := line_step T hql
   have hle := line_le T n.kids (q + 1)
   rw [hst] at hle
   simp only [List.length_append, List.length_cons, List.length_nil] at hle
   refine Gb (Hg HQ HQ HQ HQ (enc := eInt) (lst := n.kids) (show fKs n _ _ _ ∈ _ from memA) hql (fun _ _ => ?_))
   refine Gb (HN HQ HQ ?_)
   intros
   refine qs 6 ?_
   refine Gb (Gi HQ HQ (ih n.kids[q] hb.1 hb.2 memA ?_))
   refine Gb (Hy (b := [10]) HQ HQ HQ (by simp only [List.length_cons, List.length_nil]; omega) ?_)
   refine Gb (Gi HQ HQ (wstr_c (b := b5) (i := 1) (j := 0) (.inr HQ) (by decide) HQ HQ (by simp only [List.length_append, List.length_cons, List.length_nil]; omega) (fun a24 k24 z24 n24 => ?_)))
   rw [List.append_assoc _ (lineB T (n.kids.take q)), ← hst]
   refine qs 7 ?_
   refine GX (q + 1, (a24, k24, z24)) (by show q + 1 ≤ _; omega) (by show n.kids.length - (q + 1) < n.kids.length - q; omega) srA subF
  refine qs 11 ?_
  have hall : n.kids.take q = n.kids := List.take_of_length_le HS
  rw [hall]
  refine Gb (Gi HQ HQ (bstr_c (b := b5) (i := 1) (j := 0) (by decide) HQ HQ (fun e => by simp at e) ?_))
  refine qs 4 ?_
  exact Gg (L' := L) (F' := F) Tryz.results60 rfl subA h
end
end Go.Sy
