/- Joined of my own texts: PaG, ScD, FwAE, PaH, PaI, FwAF, PaJ, PaK, PaL. -/
import Derived.Test.YtodaafgpfjcpgaaDoorW19
import Derived.WideLaws
namespace Go.Sy
open Go Go.Proofs Go.RowKit
section
variable {K : List Tk} {s : PS}
theorem phas_f0 (h : isB (s.tok K) [[91]] = false) : phas K s = false := by simp [phas, h]
theorem phas_f1 (h1 : (tkAt K (min (s.i + 1) (K.length - 1))).1 ≠ 1) : phas K s = false := by simp [phas, h1]
theorem phas_t0 (h : isB (s.tok K) [[91]] = true) (h1 : (tkAt K (min (s.i + 1) (K.length - 1))).1 = 1) (h2 : (tkAt K (min (s.i + 2) (K.length - 1))).1 = 1) : phas K s = true := by simp [phas, h, h1, h2]
theorem phas_t1 (h : isB (s.tok K) [[91]] = true) (h1 : (tkAt K (min (s.i + 1) (K.length - 1))).1 = 1) (h3 : isB (tkAt K (min (s.i + 2) (K.length - 1))) [[126], [105, 110, 116, 101, 114, 102, 97, 99, 101]] = true) : phas K s = true := by simp [phas, h, h1, h3]
theorem phas_f2 (h2 : (tkAt K (min (s.i + 2) (K.length - 1))).1 ≠ 1) (h3 : isB (tkAt K (min (s.i + 2) (K.length - 1))) [[126], [105, 110, 116, 101, 114, 102, 97, 99, 101]] = false) : phas K s = false := by simp [phas, h2, h3]
end
attribute [local irreducible] AC AT AO AK AH ACalls ACallsX Sub Res.cells Res.obj Res.nix Res.own Res.map Exit.then Exit.inBlock bodyPost Code.wp Code.wpIn WL Next Post PostX Kont
attribute [local irreducible] pnamed psignature pfield pelem pliteral pbare punion pexpr poperand pprimary punary ptypes punless pbody pfunction pdecl pfile plist plines pnode pof pmust psemi pnone pnested pwhen pif PM.bind PM.ret
section
variable {W0 : World} {L : List Res} {F : List Fact} {R : Value → List Res → List Fact → Prop} {X : List PanicEntry → List Res → List Fact → Prop}
set_option maxRecDepth 100000
set_option maxHeartbeats 4000000
variable {T : List Tok} {b : Nat} {tv : Value} {d : Nat} {s : PS} {a : Option Addr} {k c : Nat} {r : Rec}
theorem pisV_c {t : Tk} {p : Nat} {l : List Bs} {u : Value} (m : Fact.slc u 1 (l.map eStr) ∈ F) (hl : l.length ≤ 1000) (h : R (.bool (isB t l)) L F) : ACalls Tryd.prog W0 27 #[vTok t p, u] L F R := pis_c m hl (fun e => by rw [e] at h; exact h) (fun e => by rw [e] at h; exact h)
theorem ptypes1_g (w : Wf (T.map Tok.tk)) (hr : RecG (T.map Tok.tk) d r) {s : PS} (v : Inv (T.map Tok.tk) d s) : G (T.map Tok.tk) d s 1 [] ((fun s1 => ((pof (T.map Tok.tk) 1).bind fun nm => r.union.bind fun u => pnode 27 nm s1.i [u]) s1 : PM Int) s) (fun v => [v]) := by
  refine (G.bind (k2 := 0) (pof_g w v (by decide)) (fun nm s4 _ h4 l4 => ?_)).le Hs
  refine (G.bind (k2 := 0) (hr.union _ h4) (fun t s5 _ h5 l5 => ?_)).le Hs
  exact pnode_g h5 (by decide) rfl
theorem ptypes1_c (w : Wf (T.map Tok.tk)) (rc : RecC W0 T b tv d r) (hr : RecG (T.map Tok.tk) d r) (v : Inv (T.map Tok.tk) d s) {bp i : Nat} (hb : L[i]? = some (Res.cells bp [pt b].toArray 34)) :
    PC W0 T b tv L 64 #[pt bp] s (fun s1 => ((pof (T.map Tok.tk) 1).bind fun nm => r.union.bind fun u => pnode 27 nm s1.i [u]) s1) vInt := by
  intro F R X a k c mT mN h
  replace h := Kon.bind h
  refine ACallsX.body Tryd.func64 Hq Tryd.ntmps64 Hq ?_
  refine qs 7 ?_
  refine Gc (GI Hq Hq ?_ (hi := by repeat (first | assumption | exact has0 | apply hasS)))
  refine Gc (Gj Hq Hq (GL memA v ?_))
  refine Gc (GM Hq Hq Hq ?_)
  refine qs 5 ?_
  refine Gc (GI Hq Hq ?_ (hi := by repeat (first | assumption | exact has0 | apply hasS)))
  refine Gl (Gi Hq Hq (pof_c w (by decide) v memA memA (h.go (pof_g w v (by decide)).go (fun x8 s11 v11 l11 e11 h a11 k11 c11 => ?_) (fun i e hx => Gm (Gf (Gh (by repeat (first | exact Ga _ _ | exact Gb (fun x hx => by repeat (first | exact hx | refine List.mem_cons_of_mem _ ?_)) | refine Gd Ge ?_)) (hx)))))))
  repeat (first | replace h := Kon.bind h | replace h := Kon.retE h | replace h := Kon.okE h)
  refine qs 4 ?_
  refine Hk (fun _ => false) [(bp, _, _)] bxA Hq (fun hx hX => ?_)
  refine qt [0, 1, 2, 3] ?_
  refine GK (i := 4) Hr Hq Hq (fun _ => ?_)
  refine (Gi Hq Hq (rc.union v11 memA memA (h.go (hr.union _ v11).go (fun x13 s12 v12 l12 e12 h a12 k12 c12 => ?_) (fun i e hx => Hg (GO (Hb (by repeat (first | exact Ga _ _ | exact Gb (fun x hx => by repeat (first | exact hx | refine List.mem_cons_of_mem _ ?_)) | refine Gd Ge ?_)) (hx)))))))
  repeat (first | replace h := Kon.bind h | replace h := Kon.retE h | replace h := Kon.okE h)
  refine GD bxA memB ?_
  refine GK (i := 5) Hr Hq Hq (fun _ => ?_)
  refine Gt Hq Hq Hq Hq Hq Hq (fun b14 => ?_)
  refine GD bxA memB ?_
  refine GK (i := 6) Hr Hq Hq (fun _ => ?_)
  refine (Gi Hq Hq (Gy w v12 memA memA memA (h.go (Gw v12) (fun x15 s13 v13 l13 e13 h a13 k13 c13 => ?_) (fun i e hx => Hg (GO (Hb (by repeat (first | exact Ga _ _ | exact Gb (fun x hx => by repeat (first | exact hx | refine List.mem_cons_of_mem _ ?_)) | refine Gd Ge ?_)) (hx)))))))
  repeat (first | replace h := Kon.bind h | replace h := Kon.retE h | replace h := Kon.okE h)
  refine GD bxA memB ?_
  refine qt [7] ?_
  refine Hf Hr ?_
  refine qs 2 ?_
  exact Gr (Gg (L' := PL T b tv s13 a13 k13 c13 L) (F' := F) Tryd.results64 rfl (by repeat (first | exact Ga _ _ | exact Gb (fun x hx => by repeat (first | exact hx | refine List.mem_cons_of_mem _ ?_)) | refine Gd Gn ?_)) (h _ _ _))
theorem ptypes_c (w : Wf (T.map Tok.tk)) (rc : RecC W0 T b tv d r) (hr : RecG (T.map Tok.tk) d r) (has : Bool) (v : Inv (T.map Tok.tk) d s) : PC W0 T b tv L 44 #[pt b, .bool has] s (ptypes (T.map Tok.tk) r has) vInt := by
  intro F R X a k c mT mN h
  unfold ptypes at h
  cases has
  · replace h := Kon.iteF (by decide) h
    refine ACallsX.body Tryd.func44 Hq Tryd.ntmps44 Hq ?_
    refine qs 2 ?_
    refine Gc (AO.box Hq Hq (fun b2 => Gx GR ?_))
    refine qs 6 ?_
    refine Gc (Gj Hq Hq (GL memA v ?_))
    refine Gc (GM Hq Hq Hq ?_)
    refine qs 7 ?_
    refine Gc (AO.not Hq Hq ?_)
    refine qs 7 ?_
    refine Gl (Gi Hq Hq (Gy w v memA memA memA (h.go (Gw v) (fun x14 s11 v11 l11 e11 h a11 k11 c11 => ?_) (fun i e hx => Gm (Gf (Gf (Gh (by repeat (first | exact Ga _ _ | exact Gb (fun x hx => by repeat (first | exact hx | refine List.mem_cons_of_mem _ ?_)) | refine Gd Ge ?_)) (hx))))))))
    repeat (first | replace h := Kon.bind h | replace h := Kon.retE h | replace h := Kon.okE h)
    refine qs 5 ?_
    exact Gr (Gg (L' := PL T b tv s11 a11 k11 c11 L) (F' := F) Tryd.results44 rfl (by repeat (first | exact Ga _ _ | exact Gb (fun x hx => by repeat (first | exact hx | refine List.mem_cons_of_mem _ ?_)) | refine Gd Gn ?_)) (h _ _ _))
  replace h := Kon.bind (Kon.iteT rfl h)
  refine ACallsX.body Tryd.func44 Hq Tryd.ntmps44 Hq ?_
  refine qs 2 ?_
  refine Gc (AO.box Hq Hq (fun b2 => Gx GR ?_))
  refine qs 6 ?_
  refine Gc (Gj Hq Hq (GL memA v ?_))
  refine Gc (GM Hq Hq Hq ?_)
  refine qs 7 ?_
  refine Gc (AO.not Hq Hq ?_)
  refine qs 8 ?_
  refine Gl (Gi Hq Hq (Hj w v memA memA (h.go (He w v).go (fun x16 s11 v11 l11 e11 h a11 k11 c11 => ?_) (fun i e hx => Gm (Gf (Gh (by repeat (first | exact Ga _ _ | exact Gb (fun x hx => by repeat (first | exact hx | refine List.mem_cons_of_mem _ ?_)) | refine Gd Ge ?_)) (hx)))))))
  repeat (first | replace h := Kon.bind h | replace h := Kon.retE h | replace h := Kon.okE h)
  refine qs 5 ?_
  refine Gc (Hc Hq Hq ?_)
  refine Gl (Gi Hq Hq (plist_c w v11 (fi := []) (fun _ _ v => ptypes1_c w rc hr v (i := 1) Hq) (fun _ v => (ptypes1_g w hr v).go) memA memA (h.go (plist_g w (fun _ v => ptypes1_g w hr v) v11).go (fun x19 s12 v12 l12 e12 h a12 k12 c12 p19 q19 r19 => ?_) (fun i e hx => Gm (Gf (Gh (by repeat (first | exact Ga _ _ | exact Gb (fun x hx => by repeat (first | exact hx | refine List.mem_cons_of_mem _ ?_)) | refine Gd Ge ?_)) (hx)))))))
  repeat (first | replace h := Kon.bind h | replace h := Kon.retE h | replace h := Kon.okE h)
  have ln19 := (plist_g w (fun _ v => ptypes1_g w hr v) v11).len e12
  refine Gx ((Gz (i := 2) Hq).trans Gn) ?_
  refine qs 8 ?_
  refine Gl (Gi Hq Hq (Gy w v12 memA memA memA (h.go (Gw v12) (fun x23 s13 v13 l13 e13 h a13 k13 c13 => ?_) (fun i e hx => Gm (Gf (Gh (by repeat (first | exact Ga _ _ | exact Gb (fun x hx => by repeat (first | exact hx | refine List.mem_cons_of_mem _ ?_)) | refine Gd Ge ?_)) (hx)))))))
  repeat (first | replace h := Kon.bind h | replace h := Kon.retE h | replace h := Kon.okE h)
  refine qs 4 ?_
  exact Gr (Gg (L' := PL T b tv s13 a13 k13 c13 L) (F' := F) Tryd.results44 rfl (by repeat (first | exact Ga _ _ | exact Gb (fun x hx => by repeat (first | exact hx | refine List.mem_cons_of_mem _ ?_)) | refine Gd Gn ?_)) (h _ _ _))
theorem punless_c (_ : Wf (T.map Tok.tk)) (rc : RecC W0 T b tv d r) (hr : RecG (T.map Tok.tk) d r) {x : Bs} (v : Inv (T.map Tok.tk) d s) : PC W0 T b tv L 41 #[pt b, S x] s (punless (T.map Tok.tk) r x) vInt := by
  intro F R X a k c mT mN h
  have w : Wf (T.map Tok.tk) := ‹_›
  unfold punless at h
  refine ACallsX.body Tryd.func41 Hq Tryd.ntmps41 Hq ?_
  refine qs 9 ?_
  refine Gc (Gj Hq Hq (GL memA v ?_))
  refine qs 1 ?_
  refine Gc (Gt Hq Hq Hq Hq Hq Hq (fun b8 => ?_))
  refine Gc (Gj Hq Hq (pis_c (l := [x]) memA (by simp) (fun c9 => ?_) (fun c9 => ?_)))
  ·first | replace h := Kon.pifT c9 h | replace h := Kon.iteT c9 h | replace h := Kon.whenT c9 h | skip
   repeat (first | replace h := Kon.bind h | replace h := Kon.retE h | replace h := Kon.okE h)
   refine qs 6 ?_
   refine Gl (Gi Hq Hq (pnone_c w v memA memA (h.go (pnone_g v).go (fun x11 s11 v11 l11 e11 h a11 k11 c11 => ?_) (fun i e hx => Gm (Gf (Gf (Gh (by repeat (first | exact Ga _ _ | exact Gb (fun x hx => by repeat (first | exact hx | refine List.mem_cons_of_mem _ ?_)) | refine Gd Ge ?_)) (hx))))))))
   repeat (first | replace h := Kon.bind h | replace h := Kon.retE h | replace h := Kon.okE h)
   refine qs 5 ?_
   exact Gr (Gg (L' := PL T b tv s11 a11 k11 c11 L) (F' := F) Tryd.results41 rfl (by repeat (first | exact Ga _ _ | exact Gb (fun x hx => by repeat (first | exact hx | refine List.mem_cons_of_mem _ ?_)) | refine Gd Gn ?_)) (h _ _ _))
  first | replace h := Kon.pifF c9 h | replace h := Kon.iteF (nott c9) h | replace h := Kon.whenF c9 h | skip
  repeat (first | replace h := Kon.bind h | replace h := Kon.retE h | replace h := Kon.okE h)
  refine qs 8 ?_
  refine Gl (Gi Hq Hq (rc.typ v memA memA (h.go (hr.typ _ v).go (fun x13 s12 v12 l12 e12 h a12 k12 c12 => ?_) (fun i e hx => Gm (Gf (Gh (by repeat (first | exact Ga _ _ | exact Gb (fun x hx => by repeat (first | exact hx | refine List.mem_cons_of_mem _ ?_)) | refine Gd Ge ?_)) (hx)))))))
  repeat (first | replace h := Kon.bind h | replace h := Kon.retE h | replace h := Kon.okE h)
  refine qs 4 ?_
  exact Gr (Gg (L' := PL T b tv s12 a12 k12 c12 L) (F' := F) Tryd.results41 rfl (by repeat (first | exact Ga _ _ | exact Gb (fun x hx => by repeat (first | exact hx | refine List.mem_cons_of_mem _ ?_)) | refine Gd Gn ?_)) (h _ _ _))
theorem pbody_c (w : Wf (T.map Tok.tk)) (rc : RecC W0 T b tv d r) (hr : RecG (T.map Tok.tk) d r) (v : Inv (T.map Tok.tk) d s) : PC W0 T b tv L 68 #[pt b] s (pbody (T.map Tok.tk) r) vInt := by
  intro F R X a k c mT mN h
  have hw := w.len
  rw [List.length_map] at hw
  unfold pbody at h
  replace h := Kon.bind h
  refine ACallsX.body Tryd.func68 Hq Tryd.ntmps68 Hq ?_
  refine qs 8 ?_
  refine Gc (Gj Hq Hq (GL memA v ?_))
  refine Gc (GM Hq Hq Hq ?_)
  refine qs 6 ?_
  refine Gl (Gi Hq Hq (Hj w v memA memA (h.go (He w v).go (fun x10 s11 v11 l11 e11 h a11 k11 c11 => ?_) (fun i e hx => Gm (Gf (Gh (by repeat (first | exact Ga _ _ | exact Gb (fun x hx => by repeat (first | exact hx | refine List.mem_cons_of_mem _ ?_)) | refine Gd Ge ?_)) (hx)))))))
  repeat (first | replace h := Kon.bind h | replace h := Kon.retE h | replace h := Kon.okE h)
  refine qs 6 ?_
  refine Gc (Gj Hq Hq (GZ w memA v11 (fun c12 => ?_) (fun c12 => ?_)))
  ·replace h := Kon.whenT c12 h
   repeat (first | replace h := Kon.bind h | replace h := Kon.retE h | replace h := Kon.okE h)
   have v12 := Inv.next v11 w (GT c12)
   refine qs 12 ?_
   refine Gc (Gj Hq Hq (GL memA v12 ?_))
   refine Gc (Gj Hq Hq (psemiB_c (fun c15 => ?_) (fun c15 => ?_)))
   ·first | replace h := Kon.iteT c15 h | skip
    repeat (first | replace h := Kon.bind h | replace h := Kon.retE h | replace h := Kon.okE h)
    refine qs 9 ?_
    replace h := Kon.iteT (Or.inl c15) h
    refine qs 2 ?_
    refine Gl (Gi Hq Hq (pnone_c w v12 memA memA (h.go (pnone_g v12).go (fun x23 s13 v13 l13 e13 h a13 k13 c13 => ?_) (fun i e hx => Gm (Gf (Gf (Gh (by repeat (first | exact Ga _ _ | exact Gb (fun x hx => by repeat (first | exact hx | refine List.mem_cons_of_mem _ ?_)) | refine Gd Ge ?_)) (hx))))))))
    repeat (first | replace h := Kon.bind h | replace h := Kon.retE h | replace h := Kon.okE h)
    refine qs 7 ?_
    refine Gc (Gj Hq Hq (GL memA v13 ?_))
    refine Gc (Gj Hq Hq (psemiB_c (fun c28 => ?_) (fun c28 => ?_)))
    ·first | replace h := Kon.iteT c28 h | skip
     repeat (first | replace h := Kon.bind h | replace h := Kon.retE h | replace h := Kon.okE h)
     refine qs 3 ?_
     have hlt := (v13).lt
     refine qs 2 ?_
     refine Gc (Gu Hq Hq ?_)
     refine qs 3 ?_
     refine Gc (Gu Hq Hq ?_)
     refine qs 5 ?_
     have v14 := Inv.next v13 w (GT c28)
     refine qs 2 ?_
     refine Gl (Gi Hq Hq (Hj w v14 memA memA (h.go (He w v14).go (fun x37 s15 v15 l15 e15 h a15 k15 c15 => ?_) (fun i e hx => Gm (Gf (Gf (Gh (by repeat (first | exact Ga _ _ | exact Gb (fun x hx => by repeat (first | exact hx | refine List.mem_cons_of_mem _ ?_)) | refine Gd Ge ?_)) (hx))))))))
     repeat (first | replace h := Kon.bind h | replace h := Kon.retE h | replace h := Kon.okE h)
     refine qs 7 ?_
     refine Gc (Gt Hq Hq Hq Hq Hq Hq (fun b41 => ?_))
     refine Gl (Gi Hq Hq (Gy w v15 memA memA memA (h.go (Gw v15) (fun x42 s16 v16 l16 e16 h a16 k16 c16 => ?_) (fun i e hx => Gm (Gf (Gf (Gh (by repeat (first | exact Ga _ _ | exact Gb (fun x hx => by repeat (first | exact hx | refine List.mem_cons_of_mem _ ?_)) | refine Gd Ge ?_)) (hx))))))))
     repeat (first | replace h := Kon.bind h | replace h := Kon.retE h | replace h := Kon.okE h)
     refine qs 5 ?_
     exact Gr (Gg (L' := PL T b tv s16 a16 k16 c16 L) (F' := F) Tryd.results68 rfl (by repeat (first | exact Ga _ _ | exact Gb (fun x hx => by repeat (first | exact hx | refine List.mem_cons_of_mem _ ?_)) | refine Gd Gn ?_)) (h _ _ _))
    first | replace h := Kon.iteF (nott c28) h | skip
    repeat (first | replace h := Kon.bind h | replace h := Kon.retE h | replace h := Kon.okE h)
    refine qs 8 ?_
    refine Gl (Gi Hq Hq (Hj w v13 memA memA (h.go (He w v13).go (fun x37 s17 v17 l17 e17 h a17 k17 c17 => ?_) (fun i e hx => Gm (Gf (Gf (Gh (by repeat (first | exact Ga _ _ | exact Gb (fun x hx => by repeat (first | exact hx | refine List.mem_cons_of_mem _ ?_)) | refine Gd Ge ?_)) (hx))))))))
    repeat (first | replace h := Kon.bind h | replace h := Kon.retE h | replace h := Kon.okE h)
    refine qs 7 ?_
    refine Gc (Gt Hq Hq Hq Hq Hq Hq (fun b41 => ?_))
    refine Gl (Gi Hq Hq (Gy w v17 memA memA memA (h.go (Gw v17) (fun x42 s18 v18 l18 e18 h a18 k18 c18 => ?_) (fun i e hx => Gm (Gf (Gf (Gh (by repeat (first | exact Ga _ _ | exact Gb (fun x hx => by repeat (first | exact hx | refine List.mem_cons_of_mem _ ?_)) | refine Gd Ge ?_)) (hx))))))))
    repeat (first | replace h := Kon.bind h | replace h := Kon.retE h | replace h := Kon.okE h)
    refine qs 5 ?_
    exact Gr (Gg (L' := PL T b tv s18 a18 k18 c18 L) (F' := F) Tryd.results68 rfl (by repeat (first | exact Ga _ _ | exact Gb (fun x hx => by repeat (first | exact hx | refine List.mem_cons_of_mem _ ?_)) | refine Gd Gn ?_)) (h _ _ _))
   first | replace h := Kon.iteF (nott c15) h | skip
   repeat (first | replace h := Kon.bind h | replace h := Kon.retE h | replace h := Kon.okE h)
   refine qs 2 ?_
   refine Gk Hq Hq (Gj Hq Hq (GL memA v12 ?_))
   refine Gk Hq Hq (Gt Hq Hq Hq Hq Hq Hq (fun b19 => ?_))
   refine Gk Hq Hq (Gj Hq Hq (pis_c (l := [[125]]) memA (by simp) (fun c20 => ?_) (fun c20 => ?_)))
   ·first | replace h := Kon.pifT c20 h | replace h := Kon.iteT c20 h | replace h := Kon.whenT c20 h | skip
    repeat (first | replace h := Kon.bind h | replace h := Kon.retE h | replace h := Kon.okE h)
    refine qs 4 ?_
    replace h := Kon.iteT (Or.inr c20) h
    refine qs 2 ?_
    refine Gl (Gi Hq Hq (pnone_c w v12 memA memA (h.go (pnone_g v12).go (fun x23 s19 v19 l19 e19 h a19 k19 c19 => ?_) (fun i e hx => Gm (Gf (Gf (Gh (by repeat (first | exact Ga _ _ | exact Gb (fun x hx => by repeat (first | exact hx | refine List.mem_cons_of_mem _ ?_)) | refine Gd Ge ?_)) (hx))))))))
    repeat (first | replace h := Kon.bind h | replace h := Kon.retE h | replace h := Kon.okE h)
    refine qs 7 ?_
    refine Gc (Gj Hq Hq (GL memA v19 ?_))
    refine Gc (Gj Hq Hq (psemiB_c (fun c28 => ?_) (fun c28 => ?_)))
    ·first | replace h := Kon.iteT c28 h | skip
     repeat (first | replace h := Kon.bind h | replace h := Kon.retE h | replace h := Kon.okE h)
     refine qs 3 ?_
     have hlt := (v19).lt
     refine qs 2 ?_
     refine Gc (Gu Hq Hq ?_)
     refine qs 3 ?_
     refine Gc (Gu Hq Hq ?_)
     refine qs 5 ?_
     have v20 := Inv.next v19 w (GT c28)
     refine qs 2 ?_
     refine Gl (Gi Hq Hq (Hj w v20 memA memA (h.go (He w v20).go (fun x37 s21 v21 l21 e21 h a21 k21 c21 => ?_) (fun i e hx => Gm (Gf (Gf (Gh (by repeat (first | exact Ga _ _ | exact Gb (fun x hx => by repeat (first | exact hx | refine List.mem_cons_of_mem _ ?_)) | refine Gd Ge ?_)) (hx))))))))
     repeat (first | replace h := Kon.bind h | replace h := Kon.retE h | replace h := Kon.okE h)
     refine qs 7 ?_
     refine Gc (Gt Hq Hq Hq Hq Hq Hq (fun b41 => ?_))
     refine Gl (Gi Hq Hq (Gy w v21 memA memA memA (h.go (Gw v21) (fun x42 s22 v22 l22 e22 h a22 k22 c22 => ?_) (fun i e hx => Gm (Gf (Gf (Gh (by repeat (first | exact Ga _ _ | exact Gb (fun x hx => by repeat (first | exact hx | refine List.mem_cons_of_mem _ ?_)) | refine Gd Ge ?_)) (hx))))))))
     repeat (first | replace h := Kon.bind h | replace h := Kon.retE h | replace h := Kon.okE h)
     refine qs 5 ?_
     exact Gr (Gg (L' := PL T b tv s22 a22 k22 c22 L) (F' := F) Tryd.results68 rfl (by repeat (first | exact Ga _ _ | exact Gb (fun x hx => by repeat (first | exact hx | refine List.mem_cons_of_mem _ ?_)) | refine Gd Gn ?_)) (h _ _ _))
    first | replace h := Kon.iteF (nott c28) h | skip
    repeat (first | replace h := Kon.bind h | replace h := Kon.retE h | replace h := Kon.okE h)
    refine qs 8 ?_
    refine Gl (Gi Hq Hq (Hj w v19 memA memA (h.go (He w v19).go (fun x37 s23 v23 l23 e23 h a23 k23 c23 => ?_) (fun i e hx => Gm (Gf (Gf (Gh (by repeat (first | exact Ga _ _ | exact Gb (fun x hx => by repeat (first | exact hx | refine List.mem_cons_of_mem _ ?_)) | refine Gd Ge ?_)) (hx))))))))
    repeat (first | replace h := Kon.bind h | replace h := Kon.retE h | replace h := Kon.okE h)
    refine qs 7 ?_
    refine Gc (Gt Hq Hq Hq Hq Hq Hq (fun b41 => ?_))
    refine Gl (Gi Hq Hq (Gy w v23 memA memA memA (h.go (Gw v23) (fun x42 s24 v24 l24 e24 h a24 k24 c24 => ?_) (fun i e hx => Gm (Gf (Gf (Gh (by repeat (first | exact Ga _ _ | exact Gb (fun x hx => by repeat (first | exact hx | refine List.mem_cons_of_mem _ ?_)) | refine Gd Ge ?_)) (hx))))))))
    repeat (first | replace h := Kon.bind h | replace h := Kon.retE h | replace h := Kon.okE h)
    refine qs 5 ?_
    exact Gr (Gg (L' := PL T b tv s24 a24 k24 c24 L) (F' := F) Tryd.results68 rfl (by repeat (first | exact Ga _ _ | exact Gb (fun x hx => by repeat (first | exact hx | refine List.mem_cons_of_mem _ ?_)) | refine Gd Gn ?_)) (h _ _ _))
   first | replace h := Kon.pifF c20 h | replace h := Kon.iteF (nott c20) h | replace h := Kon.whenF c20 h | skip
   repeat (first | replace h := Kon.bind h | replace h := Kon.retE h | replace h := Kon.okE h)
   refine qs 4 ?_
   replace h := Kon.iteF (no2 (nott c15) c20) h
   refine qs 2 ?_
   refine Gl (Gi Hq Hq (rc.expr 1 (by decide) v12 memA memA (h.go (hr.expr _ _ v12).go (fun x25 s25 v25 l25 e25 h a25 k25 c25 => ?_) (fun i e hx => Gm (Gf (Gf (Gh (by repeat (first | exact Ga _ _ | exact Gb (fun x hx => by repeat (first | exact hx | refine List.mem_cons_of_mem _ ?_)) | refine Gd Ge ?_)) (hx))))))))
   repeat (first | replace h := Kon.bind h | replace h := Kon.retE h | replace h := Kon.okE h)
   refine qs 7 ?_
   refine Gc (Gj Hq Hq (GL memA v25 ?_))
   refine Gc (Gj Hq Hq (psemiB_c (fun c28 => ?_) (fun c28 => ?_)))
   ·first | replace h := Kon.iteT c28 h | skip
    repeat (first | replace h := Kon.bind h | replace h := Kon.retE h | replace h := Kon.okE h)
    refine qs 3 ?_
    have hlt := (v25).lt
    refine qs 2 ?_
    refine Gc (Gu Hq Hq ?_)
    refine qs 3 ?_
    refine Gc (Gu Hq Hq ?_)
    refine qs 5 ?_
    have v26 := Inv.next v25 w (GT c28)
    refine qs 2 ?_
    refine Gl (Gi Hq Hq (Hj w v26 memA memA (h.go (He w v26).go (fun x37 s27 v27 l27 e27 h a27 k27 c27 => ?_) (fun i e hx => Gm (Gf (Gf (Gh (by repeat (first | exact Ga _ _ | exact Gb (fun x hx => by repeat (first | exact hx | refine List.mem_cons_of_mem _ ?_)) | refine Gd Ge ?_)) (hx))))))))
    repeat (first | replace h := Kon.bind h | replace h := Kon.retE h | replace h := Kon.okE h)
    refine qs 7 ?_
    refine Gc (Gt Hq Hq Hq Hq Hq Hq (fun b41 => ?_))
    refine Gl (Gi Hq Hq (Gy w v27 memA memA memA (h.go (Gw v27) (fun x42 s28 v28 l28 e28 h a28 k28 c28 => ?_) (fun i e hx => Gm (Gf (Gf (Gh (by repeat (first | exact Ga _ _ | exact Gb (fun x hx => by repeat (first | exact hx | refine List.mem_cons_of_mem _ ?_)) | refine Gd Ge ?_)) (hx))))))))
    repeat (first | replace h := Kon.bind h | replace h := Kon.retE h | replace h := Kon.okE h)
    refine qs 5 ?_
    exact Gr (Gg (L' := PL T b tv s28 a28 k28 c28 L) (F' := F) Tryd.results68 rfl (by repeat (first | exact Ga _ _ | exact Gb (fun x hx => by repeat (first | exact hx | refine List.mem_cons_of_mem _ ?_)) | refine Gd Gn ?_)) (h _ _ _))
   first | replace h := Kon.iteF (nott c28) h | skip
   repeat (first | replace h := Kon.bind h | replace h := Kon.retE h | replace h := Kon.okE h)
   refine qs 8 ?_
   refine Gl (Gi Hq Hq (Hj w v25 memA memA (h.go (He w v25).go (fun x37 s29 v29 l29 e29 h a29 k29 c29 => ?_) (fun i e hx => Gm (Gf (Gf (Gh (by repeat (first | exact Ga _ _ | exact Gb (fun x hx => by repeat (first | exact hx | refine List.mem_cons_of_mem _ ?_)) | refine Gd Ge ?_)) (hx))))))))
   repeat (first | replace h := Kon.bind h | replace h := Kon.retE h | replace h := Kon.okE h)
   refine qs 7 ?_
   refine Gc (Gt Hq Hq Hq Hq Hq Hq (fun b41 => ?_))
   refine Gl (Gi Hq Hq (Gy w v29 memA memA memA (h.go (Gw v29) (fun x42 s30 v30 l30 e30 h a30 k30 c30 => ?_) (fun i e hx => Gm (Gf (Gf (Gh (by repeat (first | exact Ga _ _ | exact Gb (fun x hx => by repeat (first | exact hx | refine List.mem_cons_of_mem _ ?_)) | refine Gd Ge ?_)) (hx))))))))
   repeat (first | replace h := Kon.bind h | replace h := Kon.retE h | replace h := Kon.okE h)
   refine qs 5 ?_
   exact Gr (Gg (L' := PL T b tv s30 a30 k30 c30 L) (F' := F) Tryd.results68 rfl (by repeat (first | exact Ga _ _ | exact Gb (fun x hx => by repeat (first | exact hx | refine List.mem_cons_of_mem _ ?_)) | refine Gd Gn ?_)) (h _ _ _))
  replace h := Kon.whenF c12 h
  repeat (first | replace h := Kon.bind h | replace h := Kon.retE h | replace h := Kon.okE h)
  refine qs 8 ?_
  refine Gl (Gi Hq Hq (pnone_c w v11 memA memA (h.go (pnone_g v11).go (fun x44 s31 v31 l31 e31 h a31 k31 c31 => ?_) (fun i e hx => Gm (Gf (Gh (by repeat (first | exact Ga _ _ | exact Gb (fun x hx => by repeat (first | exact hx | refine List.mem_cons_of_mem _ ?_)) | refine Gd Ge ?_)) (hx)))))))
  repeat (first | replace h := Kon.bind h | replace h := Kon.retE h | replace h := Kon.okE h)
  refine qs 6 ?_
  refine Gl (Gi Hq Hq (Hj w v31 memA memA (h.go (He w v31).go (fun x46 s32 v32 l32 e32 h a32 k32 c32 => ?_) (fun i e hx => Gm (Gf (Gh (by repeat (first | exact Ga _ _ | exact Gb (fun x hx => by repeat (first | exact hx | refine List.mem_cons_of_mem _ ?_)) | refine Gd Ge ?_)) (hx)))))))
  repeat (first | replace h := Kon.bind h | replace h := Kon.retE h | replace h := Kon.okE h)
  refine qs 7 ?_
  refine Gc (Gt Hq Hq Hq Hq Hq Hq (fun b50 => ?_))
  refine Gl (Gi Hq Hq (Gy w v32 memA memA memA (h.go (Gw v32) (fun x51 s33 v33 l33 e33 h a33 k33 c33 => ?_) (fun i e hx => Gm (Gf (Gh (by repeat (first | exact Ga _ _ | exact Gb (fun x hx => by repeat (first | exact hx | refine List.mem_cons_of_mem _ ?_)) | refine Gd Ge ?_)) (hx)))))))
  repeat (first | replace h := Kon.bind h | replace h := Kon.retE h | replace h := Kon.okE h)
  refine qs 4 ?_
  exact Gr (Gg (L' := PL T b tv s33 a33 k33 c33 L) (F' := F) Tryd.results68 rfl (by repeat (first | exact Ga _ _ | exact Gb (fun x hx => by repeat (first | exact hx | refine List.mem_cons_of_mem _ ?_)) | refine Gd Gn ?_)) (h _ _ _))
theorem pfunction_c (w : Wf (T.map Tok.tk)) (rc : RecC W0 T b tv d r) (hr : RecG (T.map Tok.tk) d r) (q : Nat) (v : Inv (T.map Tok.tk) d s) : PC W0 T b tv L 46 #[pt b, .int .i64 (posOf T q : Int)] s (pfunction (T.map Tok.tk) r q) vInt := by
  intro F R X a k c mT mN h
  unfold pfunction at h
  replace h := Kon.bind h
  refine ACallsX.body Tryd.func46 Hq Tryd.ntmps46 Hq ?_
  refine qs 14 ?_
  refine Gc (Gj Hq Hq (GL memA v ?_))
  refine Gc (GM Hq Hq Hq ?_)
  refine qs 6 ?_
  refine Gc (Gj Hq Hq (GZ w memA v (fun c16 => ?_) (fun c16 => ?_)))
  ·replace h := Kon.whenT c16 h
   repeat (first | replace h := Kon.bind h | replace h := Kon.retE h | replace h := Kon.okE h)
   have v11 := Inv.next v w (GT c16)
   refine qs 6 ?_
   refine Gl (Gi Hq Hq (pof_c w (by decide) v11 memA memA (h.go (pof_g w v11 (by decide)).go (fun x18 s12 v12 l12 e12 h a12 k12 c12 => ?_) (fun i e hx => Gm (Gf (Gf (Gh (by repeat (first | exact Ga _ _ | exact Gb (fun x hx => by repeat (first | exact hx | refine List.mem_cons_of_mem _ ?_)) | refine Gd Ge ?_)) (hx))))))))
   repeat (first | replace h := Kon.bind h | replace h := Kon.retE h | replace h := Kon.okE h)
   refine qs 6 ?_
   refine Gl (Gi Hq Hq (rc.typ v12 memA memA (h.go (hr.typ _ v12).go (fun x20 s13 v13 l13 e13 h a13 k13 c13 => ?_) (fun i e hx => Gm (Gf (Gf (Gh (by repeat (first | exact Ga _ _ | exact Gb (fun x hx => by repeat (first | exact hx | refine List.mem_cons_of_mem _ ?_)) | refine Gd Ge ?_)) (hx))))))))
   repeat (first | replace h := Kon.bind h | replace h := Kon.retE h | replace h := Kon.okE h)
   refine qs 6 ?_
   refine Gl (Gi Hq Hq (Hj w v13 memA memA (h.go (He w v13).go (fun x22 s14 v14 l14 e14 h a14 k14 c14 => ?_) (fun i e hx => Gm (Gf (Gf (Gh (by repeat (first | exact Ga _ _ | exact Gb (fun x hx => by repeat (first | exact hx | refine List.mem_cons_of_mem _ ?_)) | refine Gd Ge ?_)) (hx))))))))
   repeat (first | replace h := Kon.bind h | replace h := Kon.retE h | replace h := Kon.okE h)
   refine qs 7 ?_
   refine Gc (Gt Hq Hq Hq Hq Hq Hq (fun b27 => ?_))
   refine Gl (Gi Hq Hq (Gy w v14 memA memA memA (h.go (Gw v14) (fun x28 s15 v15 l15 e15 h a15 k15 c15 => ?_) (fun i e hx => Gm (Gf (Gh (by repeat (first | exact Ga _ _ | exact Gb (fun x hx => by repeat (first | exact hx | refine List.mem_cons_of_mem _ ?_)) | refine Gd Ge ?_)) (hx)))))))
   repeat (first | replace h := Kon.bind h | replace h := Kon.retE h | replace h := Kon.okE h)
   refine qs 6 ?_
   refine Gl (Gi Hq Hq (pof_c w (by decide) v15 memA memA (h.go (pof_g w v15 (by decide)).go (fun x32 s16 v16 l16 e16 h a16 k16 c16 => ?_) (fun i e hx => Gm (Gf (Gh (by repeat (first | exact Ga _ _ | exact Gb (fun x hx => by repeat (first | exact hx | refine List.mem_cons_of_mem _ ?_)) | refine Gd Ge ?_)) (hx)))))))
   repeat (first | replace h := Kon.bind h | replace h := Kon.retE h | replace h := Kon.okE h)
   refine qs 7 ?_
   refine Gc (Gj Hq Hq (GL memA v16 ?_))
   refine Gc (Gt Hq Hq Hq Hq Hq Hq (fun b36 => ?_))
   refine Gc (Gj Hq Hq (pisV_c (l := [[91]]) memA (by simp) ?_))
   refine Gl (Gi Hq Hq (ptypes_c w rc hr _ v16 memA memA (h.go (ptypes_g w hr v16 _).go (fun x38 s17 v17 l17 e17 h a17 k17 c17 => ?_) (fun i e hx => Gm (Gf (Gh (by repeat (first | exact Ga _ _ | exact Gb (fun x hx => by repeat (first | exact hx | refine List.mem_cons_of_mem _ ?_)) | refine Gd Ge ?_)) (hx)))))))
   repeat (first | replace h := Kon.bind h | replace h := Kon.retE h | replace h := Kon.okE h)
   refine qs 7 ?_
   refine Gc (Gj Hq Hq (GL memA v17 ?_))
   refine Gc (GM Hq Hq Hq ?_)
   refine Gl (Gi Hq Hq (psignature_c w rc hr _ v17 memA memA (h.go (psignature_g w hr v17 _).go (fun x43 s18 v18 l18 e18 h a18 k18 c18 => ?_) (fun i e hx => Gm (Gf (Gh (by repeat (first | exact Ga _ _ | exact Gb (fun x hx => by repeat (first | exact hx | refine List.mem_cons_of_mem _ ?_)) | refine Gd Ge ?_)) (hx)))))))
   repeat (first | replace h := Kon.bind h | replace h := Kon.retE h | replace h := Kon.okE h)
   refine qs 12 ?_
   refine Gl (Gi Hq Hq (pbody_c w rc hr v18 memA memA (h.go (pbody_g w hr v18).go (fun x51 s19 v19 l19 e19 h a19 k19 c19 => ?_) (fun i e hx => Gm (Gf (Gh (by repeat (first | exact Ga _ _ | exact Gb (fun x hx => by repeat (first | exact hx | refine List.mem_cons_of_mem _ ?_)) | refine Gd Ge ?_)) (hx)))))))
   repeat (first | replace h := Kon.bind h | replace h := Kon.retE h | replace h := Kon.okE h)
   refine Gc (Gt Hq Hq Hq Hq Hq Hq (fun b52 => ?_))
   refine Gl (Gi Hq Hq (Gy w v19 memA memA memA (h.go (Gw v19) (fun x53 s20 v20 l20 e20 h a20 k20 c20 => ?_) (fun i e hx => Gm (Gf (Gh (by repeat (first | exact Ga _ _ | exact Gb (fun x hx => by repeat (first | exact hx | refine List.mem_cons_of_mem _ ?_)) | refine Gd Ge ?_)) (hx)))))))
   repeat (first | replace h := Kon.bind h | replace h := Kon.retE h | replace h := Kon.okE h)
   refine qs 4 ?_
   exact Gr (Gg (L' := PL T b tv s20 a20 k20 c20 L) (F' := F) Tryd.results46 rfl (by repeat (first | exact Ga _ _ | exact Gb (fun x hx => by repeat (first | exact hx | refine List.mem_cons_of_mem _ ?_)) | refine Gd Gn ?_)) (h _ _ _))
  replace h := Kon.whenF c16 h
  repeat (first | replace h := Kon.bind h | replace h := Kon.retE h | replace h := Kon.okE h)
  refine qs 5 ?_
  refine Gl (Gi Hq Hq (pnone_c w v memA memA (h.go (pnone_g v).go (fun x30 s21 v21 l21 e21 h a21 k21 c21 => ?_) (fun i e hx => Gm (Gf (Gh (by repeat (first | exact Ga _ _ | exact Gb (fun x hx => by repeat (first | exact hx | refine List.mem_cons_of_mem _ ?_)) | refine Gd Ge ?_)) (hx)))))))
  repeat (first | replace h := Kon.bind h | replace h := Kon.retE h | replace h := Kon.okE h)
  refine qs 6 ?_
  refine Gl (Gi Hq Hq (pof_c w (by decide) v21 memA memA (h.go (pof_g w v21 (by decide)).go (fun x32 s22 v22 l22 e22 h a22 k22 c22 => ?_) (fun i e hx => Gm (Gf (Gh (by repeat (first | exact Ga _ _ | exact Gb (fun x hx => by repeat (first | exact hx | refine List.mem_cons_of_mem _ ?_)) | refine Gd Ge ?_)) (hx)))))))
  repeat (first | replace h := Kon.bind h | replace h := Kon.retE h | replace h := Kon.okE h)
  refine qs 7 ?_
  refine Gc (Gj Hq Hq (GL memA v22 ?_))
  refine Gc (Gt Hq Hq Hq Hq Hq Hq (fun b36 => ?_))
  refine Gc (Gj Hq Hq (pisV_c (l := [[91]]) memA (by simp) ?_))
  refine Gl (Gi Hq Hq (ptypes_c w rc hr _ v22 memA memA (h.go (ptypes_g w hr v22 _).go (fun x38 s23 v23 l23 e23 h a23 k23 c23 => ?_) (fun i e hx => Gm (Gf (Gh (by repeat (first | exact Ga _ _ | exact Gb (fun x hx => by repeat (first | exact hx | refine List.mem_cons_of_mem _ ?_)) | refine Gd Ge ?_)) (hx)))))))
  repeat (first | replace h := Kon.bind h | replace h := Kon.retE h | replace h := Kon.okE h)
  refine qs 7 ?_
  refine Gc (Gj Hq Hq (GL memA v23 ?_))
  refine Gc (GM Hq Hq Hq ?_)
  refine Gl (Gi Hq Hq (psignature_c w rc hr _ v23 memA memA (h.go (psignature_g w hr v23 _).go (fun x43 s24 v24 l24 e24 h a24 k24 c24 => ?_) (fun i e hx => Gm (Gf (Gh (by repeat (first | exact Ga _ _ | exact Gb (fun x hx => by repeat (first | exact hx | refine List.mem_cons_of_mem _ ?_)) | refine Gd Ge ?_)) (hx)))))))
  repeat (first | replace h := Kon.bind h | replace h := Kon.retE h | replace h := Kon.okE h)
  refine qs 12 ?_
  refine Gl (Gi Hq Hq (pbody_c w rc hr v24 memA memA (h.go (pbody_g w hr v24).go (fun x51 s25 v25 l25 e25 h a25 k25 c25 => ?_) (fun i e hx => Gm (Gf (Gh (by repeat (first | exact Ga _ _ | exact Gb (fun x hx => by repeat (first | exact hx | refine List.mem_cons_of_mem _ ?_)) | refine Gd Ge ?_)) (hx)))))))
  repeat (first | replace h := Kon.bind h | replace h := Kon.retE h | replace h := Kon.okE h)
  refine Gc (Gt Hq Hq Hq Hq Hq Hq (fun b52 => ?_))
  refine Gl (Gi Hq Hq (Gy w v25 memA memA memA (h.go (Gw v25) (fun x53 s26 v26 l26 e26 h a26 k26 c26 => ?_) (fun i e hx => Gm (Gf (Gh (by repeat (first | exact Ga _ _ | exact Gb (fun x hx => by repeat (first | exact hx | refine List.mem_cons_of_mem _ ?_)) | refine Gd Ge ?_)) (hx)))))))
  repeat (first | replace h := Kon.bind h | replace h := Kon.retE h | replace h := Kon.okE h)
  refine qs 4 ?_
  exact Gr (Gg (L' := PL T b tv s26 a26 k26 c26 L) (F' := F) Tryd.results46 rfl (by repeat (first | exact Ga _ _ | exact Gb (fun x hx => by repeat (first | exact hx | refine List.mem_cons_of_mem _ ?_)) | refine Gd Gn ?_)) (h _ _ _))
theorem pdecl_c (w : Wf (T.map Tok.tk)) (rc : RecC W0 T b tv d r) (hr : RecG (T.map Tok.tk) d r) (v : Inv (T.map Tok.tk) d s) : PC W0 T b tv L 31 #[pt b] s (pdecl (T.map Tok.tk) r) vInt := by
  intro F R X a k c mT mN h
  have hw := w.len
  rw [List.length_map] at hw
  unfold pdecl at h
  refine ACallsX.body Tryd.func31 Hq Tryd.ntmps31 Hq ?_
  refine qs 8 ?_
  refine Gc (Gj Hq Hq (GL memA v ?_))
  refine Gc (GM Hq Hq Hq ?_)
  refine qs 8 ?_
  refine Gc (Gj Hq Hq (GZ w memA v (fun c17 => ?_) (fun c17 => ?_)))
  ·replace h := Kon.whenT c17 h
   repeat (first | replace h := Kon.bind h | replace h := Kon.retE h | replace h := Kon.okE h)
   have v11 := Inv.next v w (GT c17)
   refine qs 7 ?_
   refine Gl (Gi Hq Hq (pof_c w (by decide) v11 memA memA (h.go (pof_g w v11 (by decide)).go (fun x19 s12 v12 l12 e12 h a12 k12 c12 => ?_) (fun i e hx => Gm (Gf (Gs (Gf (Gh (by repeat (first | exact Ga _ _ | exact Gb (fun x hx => by repeat (first | exact hx | refine List.mem_cons_of_mem _ ?_)) | refine Gd Ge ?_)) (hx)))))))))
   repeat (first | replace h := Kon.bind h | replace h := Kon.retE h | replace h := Kon.okE h)
   refine qs 6 ?_
   refine Gl (Gi Hq Hq (punless_c w rc hr v12 memA memA (h.go (punless_g hr v12 _).go (fun x21 s13 v13 l13 e13 h a13 k13 c13 => ?_) (fun i e hx => Gm (Gf (Gs (Gf (Gh (by repeat (first | exact Ga _ _ | exact Gb (fun x hx => by repeat (first | exact hx | refine List.mem_cons_of_mem _ ?_)) | refine Gd Ge ?_)) (hx)))))))))
   repeat (first | replace h := Kon.bind h | replace h := Kon.retE h | replace h := Kon.okE h)
   refine qs 6 ?_
   refine Gl (Gi Hq Hq (Hj w v13 memA memA (h.go (He w v13).go (fun x23 s14 v14 l14 e14 h a14 k14 c14 => ?_) (fun i e hx => Gm (Gf (Gs (Gf (Gh (by repeat (first | exact Ga _ _ | exact Gb (fun x hx => by repeat (first | exact hx | refine List.mem_cons_of_mem _ ?_)) | refine Gd Ge ?_)) (hx)))))))))
   repeat (first | replace h := Kon.bind h | replace h := Kon.retE h | replace h := Kon.okE h)
   refine qs 9 ?_
   refine Gl (Gi Hq Hq (rc.expr 1 (by decide) v14 memA memA (h.go (hr.expr _ _ v14).go (fun x29 s15 v15 l15 e15 h a15 k15 c15 => ?_) (fun i e hx => Gm (Gf (Gs (Gf (Gh (by repeat (first | exact Ga _ _ | exact Gb (fun x hx => by repeat (first | exact hx | refine List.mem_cons_of_mem _ ?_)) | refine Gd Ge ?_)) (hx)))))))))
   repeat (first | replace h := Kon.bind h | replace h := Kon.retE h | replace h := Kon.okE h)
   refine Gc (Gt Hq Hq Hq Hq Hq Hq (fun b30 => ?_))
   refine Gl (Gi Hq Hq (Gy w v15 memA memA memA (h.go (Gw v15) (fun x31 s16 v16 l16 e16 h a16 k16 c16 => ?_) (fun i e hx => Gm (Gf (Gs (Gf (Gh (by repeat (first | exact Ga _ _ | exact Gb (fun x hx => by repeat (first | exact hx | refine List.mem_cons_of_mem _ ?_)) | refine Gd Ge ?_)) (hx)))))))))
   repeat (first | replace h := Kon.bind h | replace h := Kon.retE h | replace h := Kon.okE h)
   refine qs 6 ?_
   exact Gr (Gg (L' := PL T b tv s16 a16 k16 c16 L) (F' := F) Tryd.results31 rfl (by repeat (first | exact Ga _ _ | exact Gb (fun x hx => by repeat (first | exact hx | refine List.mem_cons_of_mem _ ?_)) | refine Gd Gn ?_)) (h _ _ _))
  replace h := Kon.whenF c17 h
  repeat (first | replace h := Kon.bind h | replace h := Kon.retE h | replace h := Kon.okE h)
  refine qs 7 ?_
  refine Gc (Gj Hq Hq (GZ w memA v (fun c34 => ?_) (fun c34 => ?_)))
  ·replace h := Kon.whenT c34 h
   repeat (first | replace h := Kon.bind h | replace h := Kon.retE h | replace h := Kon.okE h)
   have v17 := Inv.next v w (GT c34)
   refine qs 7 ?_
   refine Gl (Gi Hq Hq (pof_c w (by decide) v17 memA memA (h.go (pof_g w v17 (by decide)).go (fun x36 s18 v18 l18 e18 h a18 k18 c18 => ?_) (fun i e hx => Gm (Gf (Gs (Gf (Gh (by repeat (first | exact Ga _ _ | exact Gb (fun x hx => by repeat (first | exact hx | refine List.mem_cons_of_mem _ ?_)) | refine Gd Ge ?_)) (hx)))))))))
   repeat (first | replace h := Kon.bind h | replace h := Kon.retE h | replace h := Kon.okE h)
   refine qs 6 ?_
   refine Gl (Gi Hq Hq (punless_c w rc hr v18 memA memA (h.go (punless_g hr v18 _).go (fun x38 s19 v19 l19 e19 h a19 k19 c19 => ?_) (fun i e hx => Gm (Gf (Gs (Gf (Gh (by repeat (first | exact Ga _ _ | exact Gb (fun x hx => by repeat (first | exact hx | refine List.mem_cons_of_mem _ ?_)) | refine Gd Ge ?_)) (hx)))))))))
   repeat (first | replace h := Kon.bind h | replace h := Kon.retE h | replace h := Kon.okE h)
   refine qs 7 ?_
   refine Gc (Gj Hq Hq (GL memA v19 ?_))
   refine Gc (Gt Hq Hq Hq Hq Hq Hq (fun b41 => ?_))
   refine Gc (Gj Hq Hq (pis_c (l := [[61]]) memA (by simp) (fun c42 => ?_) (fun c42 => ?_)))
   ·first | replace h := Kon.pifT c42 h | replace h := Kon.iteT c42 h | replace h := Kon.whenT c42 h | skip
    repeat (first | replace h := Kon.bind h | replace h := Kon.retE h | replace h := Kon.okE h)
    refine qs 4 ?_
    have hlt := (v19).lt
    refine qs 2 ?_
    refine Gc (Gu Hq Hq ?_)
    refine qs 3 ?_
    refine Gc (Gu Hq Hq ?_)
    refine qs 5 ?_
    have v20 := Inv.next v19 w (GT c42)
    refine qs 6 ?_
    refine Gl (Gi Hq Hq (rc.expr 1 (by decide) v20 memA memA (h.go (hr.expr _ _ v20).go (fun x55 s21 v21 l21 e21 h a21 k21 c21 => ?_) (fun i e hx => Gm (Gf (Gf (Gs (Gf (Gh (by repeat (first | exact Ga _ _ | exact Gb (fun x hx => by repeat (first | exact hx | refine List.mem_cons_of_mem _ ?_)) | refine Gd Ge ?_)) (hx))))))))))
    repeat (first | replace h := Kon.bind h | replace h := Kon.retE h | replace h := Kon.okE h)
    refine Gc (Gt Hq Hq Hq Hq Hq Hq (fun b56 => ?_))
    refine Gl (Gi Hq Hq (Gy w v21 memA memA memA (h.go (Gw v21) (fun x57 s22 v22 l22 e22 h a22 k22 c22 => ?_) (fun i e hx => Gm (Gf (Gf (Gs (Gf (Gh (by repeat (first | exact Ga _ _ | exact Gb (fun x hx => by repeat (first | exact hx | refine List.mem_cons_of_mem _ ?_)) | refine Gd Ge ?_)) (hx))))))))))
    repeat (first | replace h := Kon.bind h | replace h := Kon.retE h | replace h := Kon.okE h)
    refine qs 7 ?_
    exact Gr (Gg (L' := PL T b tv s22 a22 k22 c22 L) (F' := F) Tryd.results31 rfl (by repeat (first | exact Ga _ _ | exact Gb (fun x hx => by repeat (first | exact hx | refine List.mem_cons_of_mem _ ?_)) | refine Gd Gn ?_)) (h _ _ _))
   first | replace h := Kon.pifF c42 h | replace h := Kon.iteF (nott c42) h | replace h := Kon.whenF c42 h | skip
   repeat (first | replace h := Kon.bind h | replace h := Kon.retE h | replace h := Kon.okE h)
   refine qs 12 ?_
   refine Gl (Gi Hq Hq (pnone_c w v19 memA memA (h.go (pnone_g v19).go (fun x63 s23 v23 l23 e23 h a23 k23 c23 => ?_) (fun i e hx => Gm (Gf (Gs (Gf (Gh (by repeat (first | exact Ga _ _ | exact Gb (fun x hx => by repeat (first | exact hx | refine List.mem_cons_of_mem _ ?_)) | refine Gd Ge ?_)) (hx)))))))))
   repeat (first | replace h := Kon.bind h | replace h := Kon.retE h | replace h := Kon.okE h)
   refine Gc (Gt Hq Hq Hq Hq Hq Hq (fun b64 => ?_))
   refine Gl (Gi Hq Hq (Gy w v23 memA memA memA (h.go (Gw v23) (fun x65 s24 v24 l24 e24 h a24 k24 c24 => ?_) (fun i e hx => Gm (Gf (Gs (Gf (Gh (by repeat (first | exact Ga _ _ | exact Gb (fun x hx => by repeat (first | exact hx | refine List.mem_cons_of_mem _ ?_)) | refine Gd Ge ?_)) (hx)))))))))
   repeat (first | replace h := Kon.bind h | replace h := Kon.retE h | replace h := Kon.okE h)
   refine qs 6 ?_
   exact Gr (Gg (L' := PL T b tv s24 a24 k24 c24 L) (F' := F) Tryd.results31 rfl (by repeat (first | exact Ga _ _ | exact Gb (fun x hx => by repeat (first | exact hx | refine List.mem_cons_of_mem _ ?_)) | refine Gd Gn ?_)) (h _ _ _))
  replace h := Kon.whenF c34 h
  repeat (first | replace h := Kon.bind h | replace h := Kon.retE h | replace h := Kon.okE h)
  refine qs 7 ?_
  refine Gc (Gj Hq Hq (GZ w memA v (fun c68 => ?_) (fun c68 => ?_)))
  ·replace h := Kon.whenT c68 h
   repeat (first | replace h := Kon.bind h | replace h := Kon.retE h | replace h := Kon.okE h)
   have v25 := Inv.next v w (GT c68)
   refine qs 7 ?_
   refine Gl (Gi Hq Hq (pof_c w (by decide) v25 memA memA (h.go (pof_g w v25 (by decide)).go (fun x70 s26 v26 l26 e26 h a26 k26 c26 => ?_) (fun i e hx => Gm (Gf (Gs (Gf (Gh (by repeat (first | exact Ga _ _ | exact Gb (fun x hx => by repeat (first | exact hx | refine List.mem_cons_of_mem _ ?_)) | refine Gd Ge ?_)) (hx)))))))))
   repeat (first | replace h := Kon.bind h | replace h := Kon.retE h | replace h := Kon.okE h)
   refine qs 6 ?_
   refine Gc (Gj Hq Hq (pbehind_c w memA v26 2 (by decide) ?_))
   refine Gc (GH Hq (fun b9 => Gx GR ?_))
   refine qs 6 ?_
   refine Gc (Gj Hq Hq (GL memA v26 ?_))
   refine Gc (Gt Hq Hq Hq Hq Hq Hq (fun b75 => ?_))
   refine Gc (Gj Hq Hq (pis_c (l := [[91]]) memA (by simp) (fun c76 => ?_) (fun c76 => ?_)))
   ·first | replace h := Kon.pifT c76 h | replace h := Kon.iteT c76 h | replace h := Kon.whenT c76 h | skip
    repeat (first | replace h := Kon.bind h | replace h := Kon.retE h | replace h := Kon.okE h)
    refine qs 2 ?_
    refine Gk Hq Hq (Gj Hq Hq (pbehind_c w memA v26 1 (by decide) ?_))
    refine Gk Hq Hq (GM Hq Hq Hq (Gk Hq Hq (Gv Hq Hq Hq (fun c81 => ?_) (fun c81 => ?_))))
    ·first | replace h := Kon.iteT c81 h | replace h := Kon.iteF c81 h | skip
     repeat (first | replace h := Kon.bind h | replace h := Kon.retE h | replace h := Kon.okE h)
     refine qs 4 ?_
     refine Gk Hq Hq (Gv Hq Hq Hq (fun c86 => ?_) (fun c86 => ?_))
     ·first | replace h := Kon.iteT c86 h | replace h := Kon.iteF c86 h | skip
      repeat (first | replace h := Kon.bind h | replace h := Kon.retE h | replace h := Kon.okE h)
      refine qs 10 ?_
      rw [phas_t0 c76 c81 c86] at h
      refine qs 3 ?_
      refine Gl (Gi Hq Hq (ptypes_c w rc hr _ v26 memA memA (h.go (ptypes_g w hr v26 _).go (fun x95 s27 v27 l27 e27 h a27 k27 c27 => ?_) (fun i e hx => Gm (Gf (Gs (Gf (Gh (by repeat (first | exact Ga _ _ | exact Gb (fun x hx => by repeat (first | exact hx | refine List.mem_cons_of_mem _ ?_)) | refine Gd Ge ?_)) (hx)))))))))
      repeat (first | replace h := Kon.bind h | replace h := Kon.retE h | replace h := Kon.okE h)
      refine qs 10 ?_
      refine Gl (Gi Hq Hq (rc.typ v27 memA memA (h.go (hr.typ _ v27).go (fun x101 s28 v28 l28 e28 h a28 k28 c28 => ?_) (fun i e hx => Gm (Gf (Gs (Gf (Gh (by repeat (first | exact Ga _ _ | exact Gb (fun x hx => by repeat (first | exact hx | refine List.mem_cons_of_mem _ ?_)) | refine Gd Ge ?_)) (hx)))))))))
      repeat (first | replace h := Kon.bind h | replace h := Kon.retE h | replace h := Kon.okE h)
      refine Gc (Gt Hq Hq Hq Hq Hq Hq (fun b102 => ?_))
      refine Gl (Gi Hq Hq (Gy w v28 memA memA memA (h.go (Gw v28) (fun x103 s29 v29 l29 e29 h a29 k29 c29 => ?_) (fun i e hx => Gm (Gf (Gs (Gf (Gh (by repeat (first | exact Ga _ _ | exact Gb (fun x hx => by repeat (first | exact hx | refine List.mem_cons_of_mem _ ?_)) | refine Gd Ge ?_)) (hx)))))))))
      repeat (first | replace h := Kon.bind h | replace h := Kon.retE h | replace h := Kon.okE h)
      refine qs 6 ?_
      exact Gr (Gg (L' := PL T b tv s29 a29 k29 c29 L) (F' := F) Tryd.results31 rfl (by repeat (first | exact Ga _ _ | exact Gb (fun x hx => by repeat (first | exact hx | refine List.mem_cons_of_mem _ ?_)) | refine Gd Gn ?_)) (h _ _ _))
     first | replace h := Kon.iteT c86 h | replace h := Kon.iteF c86 h | skip
     repeat (first | replace h := Kon.bind h | replace h := Kon.retE h | replace h := Kon.okE h)
     refine qs 2 ?_
     refine Gk Hq Hq (Gt Hq Hq Hq Hq Hq Hq (fun b89 => ?_))
     refine Gk Hq Hq (Gj Hq Hq (pis_c (l := [[126], [105, 110, 116, 101, 114, 102, 97, 99, 101]]) memA (by simp) (fun c90 => ?_) (fun c90 => ?_)))
     ·first | replace h := Kon.pifT c90 h | replace h := Kon.iteT c90 h | replace h := Kon.whenT c90 h | skip
      repeat (first | replace h := Kon.bind h | replace h := Kon.retE h | replace h := Kon.okE h)
      refine qs 6 ?_
      rw [phas_t1 c76 c81 c90] at h
      refine qs 3 ?_
      refine Gl (Gi Hq Hq (ptypes_c w rc hr _ v26 memA memA (h.go (ptypes_g w hr v26 _).go (fun x95 s30 v30 l30 e30 h a30 k30 c30 => ?_) (fun i e hx => Gm (Gf (Gs (Gf (Gh (by repeat (first | exact Ga _ _ | exact Gb (fun x hx => by repeat (first | exact hx | refine List.mem_cons_of_mem _ ?_)) | refine Gd Ge ?_)) (hx)))))))))
      repeat (first | replace h := Kon.bind h | replace h := Kon.retE h | replace h := Kon.okE h)
      refine qs 10 ?_
      refine Gl (Gi Hq Hq (rc.typ v30 memA memA (h.go (hr.typ _ v30).go (fun x101 s31 v31 l31 e31 h a31 k31 c31 => ?_) (fun i e hx => Gm (Gf (Gs (Gf (Gh (by repeat (first | exact Ga _ _ | exact Gb (fun x hx => by repeat (first | exact hx | refine List.mem_cons_of_mem _ ?_)) | refine Gd Ge ?_)) (hx)))))))))
      repeat (first | replace h := Kon.bind h | replace h := Kon.retE h | replace h := Kon.okE h)
      refine Gc (Gt Hq Hq Hq Hq Hq Hq (fun b102 => ?_))
      refine Gl (Gi Hq Hq (Gy w v31 memA memA memA (h.go (Gw v31) (fun x103 s32 v32 l32 e32 h a32 k32 c32 => ?_) (fun i e hx => Gm (Gf (Gs (Gf (Gh (by repeat (first | exact Ga _ _ | exact Gb (fun x hx => by repeat (first | exact hx | refine List.mem_cons_of_mem _ ?_)) | refine Gd Ge ?_)) (hx)))))))))
      repeat (first | replace h := Kon.bind h | replace h := Kon.retE h | replace h := Kon.okE h)
      refine qs 6 ?_
      exact Gr (Gg (L' := PL T b tv s32 a32 k32 c32 L) (F' := F) Tryd.results31 rfl (by repeat (first | exact Ga _ _ | exact Gb (fun x hx => by repeat (first | exact hx | refine List.mem_cons_of_mem _ ?_)) | refine Gd Gn ?_)) (h _ _ _))
     first | replace h := Kon.pifF c90 h | replace h := Kon.iteF (nott c90) h | replace h := Kon.whenF c90 h | skip
     repeat (first | replace h := Kon.bind h | replace h := Kon.retE h | replace h := Kon.okE h)
     refine qs 6 ?_
     rw [phas_f2 c86 c90] at h
     refine qs 3 ?_
     refine Gl (Gi Hq Hq (ptypes_c w rc hr _ v26 memA memA (h.go (ptypes_g w hr v26 _).go (fun x95 s33 v33 l33 e33 h a33 k33 c33 => ?_) (fun i e hx => Gm (Gf (Gs (Gf (Gh (by repeat (first | exact Ga _ _ | exact Gb (fun x hx => by repeat (first | exact hx | refine List.mem_cons_of_mem _ ?_)) | refine Gd Ge ?_)) (hx)))))))))
     repeat (first | replace h := Kon.bind h | replace h := Kon.retE h | replace h := Kon.okE h)
     refine qs 10 ?_
     refine Gl (Gi Hq Hq (rc.typ v33 memA memA (h.go (hr.typ _ v33).go (fun x101 s34 v34 l34 e34 h a34 k34 c34 => ?_) (fun i e hx => Gm (Gf (Gs (Gf (Gh (by repeat (first | exact Ga _ _ | exact Gb (fun x hx => by repeat (first | exact hx | refine List.mem_cons_of_mem _ ?_)) | refine Gd Ge ?_)) (hx)))))))))
     repeat (first | replace h := Kon.bind h | replace h := Kon.retE h | replace h := Kon.okE h)
     refine Gc (Gt Hq Hq Hq Hq Hq Hq (fun b102 => ?_))
     refine Gl (Gi Hq Hq (Gy w v34 memA memA memA (h.go (Gw v34) (fun x103 s35 v35 l35 e35 h a35 k35 c35 => ?_) (fun i e hx => Gm (Gf (Gs (Gf (Gh (by repeat (first | exact Ga _ _ | exact Gb (fun x hx => by repeat (first | exact hx | refine List.mem_cons_of_mem _ ?_)) | refine Gd Ge ?_)) (hx)))))))))
     repeat (first | replace h := Kon.bind h | replace h := Kon.retE h | replace h := Kon.okE h)
     refine qs 6 ?_
     exact Gr (Gg (L' := PL T b tv s35 a35 k35 c35 L) (F' := F) Tryd.results31 rfl (by repeat (first | exact Ga _ _ | exact Gb (fun x hx => by repeat (first | exact hx | refine List.mem_cons_of_mem _ ?_)) | refine Gd Gn ?_)) (h _ _ _))
    first | replace h := Kon.iteT c81 h | replace h := Kon.iteF c81 h | skip
    repeat (first | replace h := Kon.bind h | replace h := Kon.retE h | replace h := Kon.okE h)
    refine qs 15 ?_
    rw [phas_f1 c81] at h
    refine qs 3 ?_
    refine Gl (Gi Hq Hq (ptypes_c w rc hr _ v26 memA memA (h.go (ptypes_g w hr v26 _).go (fun x95 s36 v36 l36 e36 h a36 k36 c36 => ?_) (fun i e hx => Gm (Gf (Gs (Gf (Gh (by repeat (first | exact Ga _ _ | exact Gb (fun x hx => by repeat (first | exact hx | refine List.mem_cons_of_mem _ ?_)) | refine Gd Ge ?_)) (hx)))))))))
    repeat (first | replace h := Kon.bind h | replace h := Kon.retE h | replace h := Kon.okE h)
    refine qs 10 ?_
    refine Gl (Gi Hq Hq (rc.typ v36 memA memA (h.go (hr.typ _ v36).go (fun x101 s37 v37 l37 e37 h a37 k37 c37 => ?_) (fun i e hx => Gm (Gf (Gs (Gf (Gh (by repeat (first | exact Ga _ _ | exact Gb (fun x hx => by repeat (first | exact hx | refine List.mem_cons_of_mem _ ?_)) | refine Gd Ge ?_)) (hx)))))))))
    repeat (first | replace h := Kon.bind h | replace h := Kon.retE h | replace h := Kon.okE h)
    refine Gc (Gt Hq Hq Hq Hq Hq Hq (fun b102 => ?_))
    refine Gl (Gi Hq Hq (Gy w v37 memA memA memA (h.go (Gw v37) (fun x103 s38 v38 l38 e38 h a38 k38 c38 => ?_) (fun i e hx => Gm (Gf (Gs (Gf (Gh (by repeat (first | exact Ga _ _ | exact Gb (fun x hx => by repeat (first | exact hx | refine List.mem_cons_of_mem _ ?_)) | refine Gd Ge ?_)) (hx)))))))))
    repeat (first | replace h := Kon.bind h | replace h := Kon.retE h | replace h := Kon.okE h)
    refine qs 6 ?_
    exact Gr (Gg (L' := PL T b tv s38 a38 k38 c38 L) (F' := F) Tryd.results31 rfl (by repeat (first | exact Ga _ _ | exact Gb (fun x hx => by repeat (first | exact hx | refine List.mem_cons_of_mem _ ?_)) | refine Gd Gn ?_)) (h _ _ _))
   first | replace h := Kon.pifF c76 h | replace h := Kon.iteF (nott c76) h | replace h := Kon.whenF c76 h | skip
   repeat (first | replace h := Kon.bind h | replace h := Kon.retE h | replace h := Kon.okE h)
   refine qs 20 ?_
   rw [phas_f0 c76] at h
   refine qs 3 ?_
   refine Gl (Gi Hq Hq (ptypes_c w rc hr _ v26 memA memA (h.go (ptypes_g w hr v26 _).go (fun x95 s39 v39 l39 e39 h a39 k39 c39 => ?_) (fun i e hx => Gm (Gf (Gs (Gf (Gh (by repeat (first | exact Ga _ _ | exact Gb (fun x hx => by repeat (first | exact hx | refine List.mem_cons_of_mem _ ?_)) | refine Gd Ge ?_)) (hx)))))))))
   repeat (first | replace h := Kon.bind h | replace h := Kon.retE h | replace h := Kon.okE h)
   refine qs 10 ?_
   refine Gl (Gi Hq Hq (rc.typ v39 memA memA (h.go (hr.typ _ v39).go (fun x101 s40 v40 l40 e40 h a40 k40 c40 => ?_) (fun i e hx => Gm (Gf (Gs (Gf (Gh (by repeat (first | exact Ga _ _ | exact Gb (fun x hx => by repeat (first | exact hx | refine List.mem_cons_of_mem _ ?_)) | refine Gd Ge ?_)) (hx)))))))))
   repeat (first | replace h := Kon.bind h | replace h := Kon.retE h | replace h := Kon.okE h)
   refine Gc (Gt Hq Hq Hq Hq Hq Hq (fun b102 => ?_))
   refine Gl (Gi Hq Hq (Gy w v40 memA memA memA (h.go (Gw v40) (fun x103 s41 v41 l41 e41 h a41 k41 c41 => ?_) (fun i e hx => Gm (Gf (Gs (Gf (Gh (by repeat (first | exact Ga _ _ | exact Gb (fun x hx => by repeat (first | exact hx | refine List.mem_cons_of_mem _ ?_)) | refine Gd Ge ?_)) (hx)))))))))
   repeat (first | replace h := Kon.bind h | replace h := Kon.retE h | replace h := Kon.okE h)
   refine qs 6 ?_
   exact Gr (Gg (L' := PL T b tv s41 a41 k41 c41 L) (F' := F) Tryd.results31 rfl (by repeat (first | exact Ga _ _ | exact Gb (fun x hx => by repeat (first | exact hx | refine List.mem_cons_of_mem _ ?_)) | refine Gd Gn ?_)) (h _ _ _))
  replace h := Kon.whenF c68 h
  repeat (first | replace h := Kon.bind h | replace h := Kon.retE h | replace h := Kon.okE h)
  refine qs 7 ?_
  refine Gc (Gj Hq Hq (GZ w memA v (fun c106 => ?_) (fun c106 => ?_)))
  ·replace h := Kon.whenT c106 h
   repeat (first | replace h := Kon.bind h | replace h := Kon.retE h | replace h := Kon.okE h)
   have v42 := Inv.next v w (GT c106)
   refine qs 8 ?_
   refine Gl (Gi Hq Hq (pfunction_c w rc hr _ v42 memA memA (h.go (pfunction_g w hr v42 _).go (fun x109 s43 v43 l43 e43 h a43 k43 c43 => ?_) (fun i e hx => Gm (Gf (Gs (Gf (Gh (by repeat (first | exact Ga _ _ | exact Gb (fun x hx => by repeat (first | exact hx | refine List.mem_cons_of_mem _ ?_)) | refine Gd Ge ?_)) (hx)))))))))
   repeat (first | replace h := Kon.bind h | replace h := Kon.retE h | replace h := Kon.okE h)
   refine qs 6 ?_
   exact Gr (Gg (L' := PL T b tv s43 a43 k43 c43 L) (F' := F) Tryd.results31 rfl (by repeat (first | exact Ga _ _ | exact Gb (fun x hx => by repeat (first | exact hx | refine List.mem_cons_of_mem _ ?_)) | refine Gd Gn ?_)) (h _ _ _))
  replace h := Kon.whenF c106 h
  repeat (first | replace h := Kon.bind h | replace h := Kon.retE h | replace h := Kon.okE h)
  refine qs 10 ?_
  refine Gl (Gi Hq Hq (pfail_c memA v 5 (Gm (Gf (Gh (by repeat (first | exact Ga _ _ | exact Gb (fun x hx => by repeat (first | exact hx | refine List.mem_cons_of_mem _ ?_)) | refine Gd Ge ?_)) (h))))))
theorem pfile_c (w : Wf (T.map Tok.tk)) (rc : RecC W0 T b tv d r) (hr : RecG (T.map Tok.tk) d r) (v : Inv (T.map Tok.tk) d s) : PC W0 T b tv L 16 #[pt b] s (pfile (T.map Tok.tk) r) vInt := by
  intro F R X a k c mT mN h
  have hw := w.len
  have hw2 : T.length ≤ 1500 := by simpa using hw
  unfold pfile at h
  replace h := Kon.bind h
  refine ACallsX.body Tryd.func16 Hq Tryd.ntmps16 Hq ?_
  refine qs 8 ?_
  refine Gc (Gj Hq Hq (GL memA v ?_))
  refine Gc (GM Hq Hq Hq ?_)
  refine qs 6 ?_
  refine Gl (Gi Hq Hq (Hj w v memA memA (h.go (He w v).go (fun x11 s11 v11 l11 e11 h a11 k11 c11 => ?_) (fun i e hx => Gm (Gf (Gh (by repeat (first | exact Ga _ _ | exact Gb (fun x hx => by repeat (first | exact hx | refine List.mem_cons_of_mem _ ?_)) | refine Gd Ge ?_)) (hx)))))))
  repeat (first | replace h := Kon.bind h | replace h := Kon.retE h | replace h := Kon.okE h)
  refine qs 5 ?_
  refine Gl (Gi Hq Hq (pof_c w (by decide) v11 memA memA (h.go (pof_g w v11 (by decide)).go (fun x13 s12 v12 l12 e12 h a12 k12 c12 => ?_) (fun i e hx => Gm (Gf (Gh (by repeat (first | exact Ga _ _ | exact Gb (fun x hx => by repeat (first | exact hx | refine List.mem_cons_of_mem _ ?_)) | refine Gd Ge ?_)) (hx)))))))
  repeat (first | replace h := Kon.bind h | replace h := Kon.retE h | replace h := Kon.okE h)
  refine qs 6 ?_
  refine Gl (Gi Hq Hq (psemi_c w v12 memA memA (h.go (psemi_g w v12).go (fun x15 s13 v13 l13 e13 h a13 k13 c13 => ?_) (fun i e hx => Gm (Gf (Gh (by repeat (first | exact Ga _ _ | exact Gb (fun x hx => by repeat (first | exact hx | refine List.mem_cons_of_mem _ ?_)) | refine Gd Ge ?_)) (hx)))))))
  repeat (first | replace h := Kon.bind h | replace h := Kon.retE h | replace h := Kon.okE h)
  refine qs 9 ?_
  refine GN (fun (q : (PS × List Int) × (Option Addr × Nat × Nat) × (Option Addr × Nat × Nat) × Nat) => Inv (T.map Tok.tk) d q.1.1 ∧ (T.map Tok.tk).length ≤ q.2.2.2 + q.1.1.i ∧ q.1.2.length ≤ q.1.1.i ∧ Kon (pimportsF (T.map Tok.tk) q.2.2.2 q.1.2 q.1.1) (fun l s' => Kon ((pdeclsF (T.map Tok.tk) r (T.map Tok.tk).length l).bind (fun l => pnode 32 x13 s.i l) s') (fun x s' => ∀ a k c, R (vInt x) (PL T b tv s' a k c L) F) (fun i e => X (wrong T i e) L F)) (fun i e => X (wrong T i e) L F))
   (fun q => [(0, pt b), (3, .int .i64 (posOf T s.i : Int)), (4, S x13), (5, .slice q.2.2.1.1 q.2.2.1.2.1 q.2.2.1.2.2)]) (fun q => PL T b tv q.1.1 q.2.1.1 q.2.1.2.1 q.2.1.2.2 (Res.own (.slice q.2.2.1.1 q.2.2.1.2.1 q.2.2.1.2.2) 3 1 (q.1.2.map eInt) :: L)) (fun _ => F) (fun q => q.2.2.2)
   ((s13, []), (a13, k13, c13), (none, 0, 0), (T.map Tok.tk).length) ⟨v13, Nat.le_add_right _ _, Nat.zero_le _, h⟩ srA (Sub.ownNil.trans GR) ?_
  clear h
  rintro ⟨⟨s1, out⟩, ⟨a1, k1, c1⟩, ⟨aA, kA, cA⟩, f1⟩ ⟨v1, hf1, ho1, h⟩
  simp only at v1 hf1 ho1 h ⊢
  have hi1 := v1.i
  rcases f1 with _ | f1
  · exfalso; omega
  unfold pimportsF at h
  refine qs 4 ?_
  refine Gc (Gj Hq Hq (GL memA v1 ?_))
  refine Gc (Gt Hq Hq Hq Hq Hq Hq (fun b18 => ?_))
  refine Gc (Gj Hq Hq (pis_c (l := [[105, 109, 112, 111, 114, 116]]) memA (by simp) (fun c19 => ?_) (fun c19 => ?_)))
  ·first | replace h := Kon.pifT c19 h | replace h := Kon.iteT c19 h | replace h := Kon.whenT c19 h | skip
   repeat (first | replace h := Kon.bind h | replace h := Kon.retE h | replace h := Kon.okE h)
   refine qs 9 ?_
   refine Gc (Gj Hq Hq (GL memA v1 ?_))
   refine Gc (GM Hq Hq Hq ?_)
   refine qs 4 ?_
   have hlt := (v1).lt
   refine qs 2 ?_
   refine Gc (Gu Hq Hq ?_)
   refine qs 3 ?_
   refine Gc (Gu Hq Hq ?_)
   refine qs 5 ?_
   have v14 := Inv.next v1 w (GT c19)
   have hn1 : s1.next.i = s1.i + 1 := rfl
   refine qs 4 ?_
   refine Gl (Gi Hq Hq (pof_c w (by decide) v14 memA memA (h.go (pof_g w v14 (by decide)).go (fun x33 s15 v15 l15 e15 h a15 k15 c15 => ?_) (fun i e hx => Gm (Gf (Gs (Gf (Gs (Gf (Gh (by repeat (first | exact Ga _ _ | exact Gb (fun x hx => by repeat (first | exact hx | refine List.mem_cons_of_mem _ ?_)) | refine Gd Ge ?_)) (hx)))))))))))
   repeat (first | replace h := Kon.bind h | replace h := Kon.retE h | replace h := Kon.okE h)
   refine qs 1 ?_
   refine Gl (Gi Hq Hq (Gy w v15 memA memA memA (h.go (Gw v15) (fun x35 s16 v16 l16 e16 h a16 k16 c16 => ?_) (fun i e hx => Gm (Gf (Gs (Gf (Gs (Gf (Gh (by repeat (first | exact Ga _ _ | exact Gb (fun x hx => by repeat (first | exact hx | refine List.mem_cons_of_mem _ ?_)) | refine Gd Ge ?_)) (hx)))))))))))
   repeat (first | replace h := Kon.bind h | replace h := Kon.retE h | replace h := Kon.okE h)
   refine Gc (GF Hq Hq Hq Hq Hq (fun b36 => ?_))
   refine Gc (Ha (enc := eInt) (lst := out) [x35] Hq Hq Hq (by repeat (first | exact has0 | apply hasS)) (.val .nil) Hq Hq (fun _ => rfl) (by unfold maxLen; first | omega | (simp <;> omega)) (by first | omega | (simp <;> omega)) (fun a37 k37 c37 => ?_))
   refine qs 5 ?_
   refine Gl (Gi Hq Hq (psemi_c w v16 memA memA (h.go (psemi_g w v16).go (fun x39 s17 v17 l17 e17 h a17 k17 c17 => ?_) (fun i e hx => Gm (Gs (Gf (Gs (Gf (Gh (by repeat (first | exact Ga _ _ | exact Gb (fun x hx => by repeat (first | exact hx | refine List.mem_cons_of_mem _ ?_)) | refine Gd Ge ?_)) (hx))))))))))
   repeat (first | replace h := Kon.bind h | replace h := Kon.retE h | replace h := Kon.okE h)
   refine qs 2 ?_
   refine GE ((s17, out ++ [x35]), (a17, k17, c17), (a37, k37, c37), f1) ⟨v17, (by simp only; omega), (by simp only [List.length_append, List.length_cons, List.length_nil]; omega), h⟩ (by simp only; omega) srA (by simp only [List.map_append]; exact subF)
  first | replace h := Kon.pifF c19 h | replace h := Kon.iteF (nott c19) h | replace h := Kon.whenF c19 h | skip
  repeat (first | replace h := Kon.bind h | replace h := Kon.retE h | replace h := Kon.okE h)
  refine qs 10 ?_
  refine GN (fun (q : (PS × List Int) × (Option Addr × Nat × Nat) × (Option Addr × Nat × Nat) × Nat) => Inv (T.map Tok.tk) d q.1.1 ∧ (T.map Tok.tk).length ≤ q.2.2.2 + q.1.1.i ∧ q.1.2.length ≤ q.1.1.i ∧ Kon (pdeclsF (T.map Tok.tk) r q.2.2.2 q.1.2 q.1.1) (fun l s' => Kon (pnode 32 x13 s.i l s') (fun x s' => ∀ a k c, R (vInt x) (PL T b tv s' a k c L) F) (fun i e => X (wrong T i e) L F)) (fun i e => X (wrong T i e) L F))
   (fun q => [(0, pt b), (3, .int .i64 (posOf T s.i : Int)), (4, S x13), (5, .slice q.2.2.1.1 q.2.2.1.2.1 q.2.2.1.2.2)]) (fun q => PL T b tv q.1.1 q.2.1.1 q.2.1.2.1 q.2.1.2.2 (Res.own (.slice q.2.2.1.1 q.2.2.1.2.1 q.2.2.1.2.2) 3 1 (q.1.2.map eInt) :: L)) (fun _ => F) (fun q => q.2.2.2)
   ((s1, out), (a1, k1, c1), (aA, kA, cA), (T.map Tok.tk).length) ⟨v1, Nat.le_add_right _ _, ho1, h⟩ srA (by simp only; exact subF) ?_
  clear h
  rintro ⟨⟨s2, out⟩, ⟨a2, k2, c2⟩, ⟨aA, kA, cA⟩, f1⟩ ⟨v2, hf1, ho1, h⟩
  simp only at v2 hf1 ho1 h ⊢
  have hi1 := v2.i
  rcases f1 with _ | f1
  · exfalso; omega
  unfold pdeclsF at h
  refine qs 4 ?_
  refine Gc (Gj Hq Hq (GL memA v2 ?_))
  refine Gc (GM Hq Hq Hq (Gc (GJ Hq Hq Hq (fun c43 => ?_) (fun c43 => ?_))))
  ·first | replace h := Kon.iteT c43 h | replace h := Kon.iteF c43 h | skip
   repeat (first | replace h := Kon.bind h | replace h := Kon.retE h | replace h := Kon.okE h)
   refine qs 10 ?_
   refine Gl (Gi Hq Hq (pdecl_c w rc hr v2 memA memA (h.go (pdecl_g w hr v2).go (fun x46 s18 v18 l18 e18 h a18 k18 c18 => ?_) (fun i e hx => Gm (Gf (Gs (Gf (Gs (Gf (Gh (by repeat (first | exact Ga _ _ | exact Gb (fun x hx => by repeat (first | exact hx | refine List.mem_cons_of_mem _ ?_)) | refine Gd Ge ?_)) (hx)))))))))))
   repeat (first | replace h := Kon.bind h | replace h := Kon.retE h | replace h := Kon.okE h)
   refine Gc (GF Hq Hq Hq Hq Hq (fun b47 => ?_))
   refine Gc (Ha (enc := eInt) (lst := out) [x46] Hq Hq Hq (by repeat (first | exact has0 | apply hasS)) (.val .nil) Hq Hq (fun _ => rfl) (by unfold maxLen; first | omega | (simp <;> omega)) (by first | omega | (simp <;> omega)) (fun a48 k48 c48 => ?_))
   refine qs 5 ?_
   refine Gl (Gi Hq Hq (psemi_c w v18 memA memA (h.go (psemi_g w v18).go (fun x50 s19 v19 l19 e19 h a19 k19 c19 => ?_) (fun i e hx => Gm (Gs (Gf (Gs (Gf (Gh (by repeat (first | exact Ga _ _ | exact Gb (fun x hx => by repeat (first | exact hx | refine List.mem_cons_of_mem _ ?_)) | refine Gd Ge ?_)) (hx))))))))))
   repeat (first | replace h := Kon.bind h | replace h := Kon.retE h | replace h := Kon.okE h)
   refine qs 2 ?_
   refine GE ((s19, out ++ [x46]), (a19, k19, c19), (a48, k48, c48), f1) ⟨v19, (by simp only; omega), (by simp only [List.length_append, List.length_cons, List.length_nil]; omega), h⟩ (by simp only; omega) srA (by simp only [List.map_append]; exact subF)
  first | replace h := Kon.iteT c43 h | replace h := Kon.iteF c43 h | skip
  repeat (first | replace h := Kon.bind h | replace h := Kon.retE h | replace h := Kon.okE h)
  refine qs 10 ?_
  refine Gx (Gz (i := 2) Hq) ?_
  refine Gc (AO.move Hq Hq ?_)
  refine qs 3 ?_
  refine Gl (Gi Hq Hq (Gy w v2 memA memA memA (h.go (Gw v2) (fun x55 s20 v20 l20 e20 h a20 k20 c20 => ?_) (fun i e hx => Gm (Gf (Gh (by repeat (first | exact Ga _ _ | exact Gb (fun x hx => by repeat (first | exact hx | refine List.mem_cons_of_mem _ ?_)) | refine Gd Ge ?_)) (hx)))))))
  repeat (first | replace h := Kon.bind h | replace h := Kon.retE h | replace h := Kon.okE h)
  refine qs 4 ?_
  exact Gr (Gg (L' := PL T b tv s20 a20 k20 c20 L) (F' := F) Tryd.results16 rfl (by repeat (first | exact Ga _ _ | exact Gb (fun x hx => by repeat (first | exact hx | refine List.mem_cons_of_mem _ ?_)) | refine Gd Gn ?_)) (h _ _ _))
end
end Go.Sy
namespace Go.Sy
open Go Go.Proofs Go.RowKit
theorem dec_at (s : Bs) (p : Nat) : Utf8.decode ⟨s.toArray⟩ p = decS (s.drop p) := by
  have hg : ∀ j, (⟨s.toArray⟩ : ByteArray).get! (p + j) = (s.drop p).getD j 0 := fun j => by
    rw [List.getD_eq_getElem?_getD, List.getElem?_drop]
    show (s.toArray)[p + j]! = _
    simp only [List.getElem!_toArray, List.getElem!_eq_getElem?_getD]
    rfl
  have h0 : (⟨s.toArray⟩ : ByteArray).get! p = (s.drop p).getD 0 0 := hg 0
  rw [Lib.decode_at, hg 1, hg 2, hg 3, h0, S_size]
  unfold decS
  rw [List.length_drop]
section
variable {s : Bs} {f pos : Nat} {out : List Tok}
theorem scanF_end (hs : s = []) : scanF (f + 1) s pos out = (if 1500 < (closeB out pos).length then .error (0, 7) else .ok (closeB out pos)) := by rw [scanF, if_pos hs]
theorem scanF_err1 (hs : s ≠ []) (h : skippedB s = none) : scanF (f + 1) s pos out = .error (pos, 5) := by rw [scanF, if_neg hs, h]
theorem scanF_skip (hs : s ≠ []) {n : Nat} {nl : Bool} (h : skippedB s = some (n, nl)) (hn : 0 < n) : scanF (f + 1) s pos out = scanF f (s.drop n) (pos + n) (if nl && endsB out then out ++ [⟨6, [10], pos⟩] else out) := by rw [scanF, if_neg hs, h]; simp only [if_pos hn]
theorem scanF_err2 (hs : s ≠ []) {n : Nat} {nl : Bool} (h : skippedB s = some (n, nl)) (hn : ¬ 0 < n) {e : Int} (ht : tokenB s = .error e) : scanF (f + 1) s pos out = .error (pos, e) := by rw [scanF, if_neg hs, h]; simp only [if_neg hn, ht]
theorem scanF_tok (hs : s ≠ []) {n m : Nat} {nl : Bool} {k : Int} (h : skippedB s = some (n, nl)) (hn : ¬ 0 < n) (ht : tokenB s = .ok (k, m)) : scanF (f + 1) s pos out = scanF f (s.drop m) (pos + m) (out ++ [⟨k, s.take m, pos⟩]) := by rw [scanF, if_neg hs, h]; simp only [if_neg hn, ht]
end
theorem endsB_some {l : List Tok} {t : Tok} (h : l[l.length - 1]? = some t) : endsB l = endsT t.kind t.text := by
  unfold endsB
  rw [List.getLast?_eq_getElem?, h]
attribute [local irreducible] AC AT AO AK AH ACalls ACallsX Sub Res.cells Res.obj Res.nix Res.own Res.map Exit.then Exit.inBlock Exit.noGoto bodyPost Code.wp Code.wpIn WL Next Post PostX Kont
section
variable {W0 : World} {L : List Res} {F : List Fact} {R : Value → List Res → List Fact → Prop}
set_option maxRecDepth 100000
set_option maxHeartbeats 4000000
theorem ends_c (l : List Tok) (hl : l.length ≤ 100000) {a : Option Addr} {k c : Nat} (hT : endsB l = true → R (.bool true) (Res.own (.slice a k c) 38 3 (l.map eTok) :: L) F) (hF : endsB l = false → R (.bool false) (Res.own (.slice a k c) 38 3 (l.map eTok) :: L) F) :
    ACalls Tryd.prog W0 35 #[.slice a k c] (Res.own (.slice a k c) 38 3 (l.map eTok) :: L) F R := by
  have hln : (l.map eTok).length = l.length := List.length_map ..
  refine GC Tryd.func35 Hq Tryd.ntmps35 Hq ?_
  refine qs 9 ?_
  refine Gc (AO.lenO Hq Hq (i := 0) Hq (fun hk => ?_))
  refine Gc (Gv Hq Hq Hq (fun c6 => ?_) (fun c6 => ?_))
  ·refine qs 10 ?_
   exact Gg Tryd.results35 rfl (Ga _ _) (hF (by have : l = [] := List.length_eq_zero_iff.1 Hs; subst this; rfl))
  refine qs 9 ?_
  refine Gc (AO.lenO Hq Hq (i := 0) Hq (fun hk9 => ?_))
  refine qs 1 ?_
  have hq : l.length - 1 < l.length := by omega
  have he := endsB_some (List.getElem?_eq_getElem hq)
  refine Gc (AO.indexAddrO (q := l.length - 1) Hq Hq Hq Hs (i := 0) Hq Hs (fun bb hbb => ?_))
  subst hbb
  refine Gc (AO.loadORA (q := l.length - 1) (vs := [.int .i64 l[l.length - 1].kind, S l[l.length - 1].text, .int .i64 (l[l.length - 1].pos : Int)]) Hq Hq Hq (i := 0) Hq (by rw [List.getElem?_map, List.getElem?_eq_getElem hq]; rfl) Hq ?_)
  refine Gc (GH Hq (fun b3 => ?_))
  refine qs 13 ?_
  refine Gc (Gv Hq Hq Hq (fun c16 => ?_) (fun c16 => ?_))
  ·refine qs 8 ?_
   refine Gc (AO.eqlS Hq Hq Hq (fun c19 => ?_) (fun c19 => ?_))
   ·refine qs 16 ?_
    first | refine Gg (L' := Res.own (.slice _ k c) 38 3 (l.map eTok) :: L) (F' := F) Tryd.results35 Hq Ge (hT ?_) | refine Gg (L' := Res.own (.slice _ k c) 38 3 (l.map eTok) :: L) (F' := F) Tryd.results35 Hq Ge (hF ?_)
    rw [he]
    unfold endsT
    simp [*] <;> omega
   refine qs 3 ?_
   refine Gk Hq Hq (AO.eqlS Hq Hq Hq (fun c23 => ?_) (fun c23 => ?_))
   ·refine qs 12 ?_
    first | refine Gg (L' := Res.own (.slice _ k c) 38 3 (l.map eTok) :: L) (F' := F) Tryd.results35 Hq Ge (hT ?_) | refine Gg (L' := Res.own (.slice _ k c) 38 3 (l.map eTok) :: L) (F' := F) Tryd.results35 Hq Ge (hF ?_)
    rw [he]
    unfold endsT
    simp [*] <;> omega
   refine qs 4 ?_
   refine Gk Hq Hq (AO.eqlS Hq Hq Hq (fun c28 => ?_) (fun c28 => ?_))
   ·refine qs 7 ?_
    first | refine Gg (L' := Res.own (.slice _ k c) 38 3 (l.map eTok) :: L) (F' := F) Tryd.results35 Hq Ge (hT ?_) | refine Gg (L' := Res.own (.slice _ k c) 38 3 (l.map eTok) :: L) (F' := F) Tryd.results35 Hq Ge (hF ?_)
    rw [he]
    unfold endsT
    simp [*] <;> omega
   refine qs 7 ?_
   first | refine Gg (L' := Res.own (.slice _ k c) 38 3 (l.map eTok) :: L) (F' := F) Tryd.results35 Hq Ge (hT ?_) | refine Gg (L' := Res.own (.slice _ k c) 38 3 (l.map eTok) :: L) (F' := F) Tryd.results35 Hq Ge (hF ?_)
   rw [he]
   unfold endsT
   simp [*] <;> omega
  refine qs 6 ?_
  refine Gc (Gv Hq Hq Hq (fun c31 => ?_) (fun c31 => ?_))
  ·refine qs 8 ?_
   refine Gc (AO.eqlS Hq Hq Hq (fun c34 => ?_) (fun c34 => ?_))
   ·refine qs 6 ?_
    first | refine Gg (L' := Res.own (.slice _ k c) 38 3 (l.map eTok) :: L) (F' := F) Tryd.results35 Hq Ge (hT ?_) | refine Gg (L' := Res.own (.slice _ k c) 38 3 (l.map eTok) :: L) (F' := F) Tryd.results35 Hq Ge (hF ?_)
    rw [he]
    unfold endsT
    simp [*] <;> omega
   refine qs 6 ?_
   first | refine Gg (L' := Res.own (.slice _ k c) 38 3 (l.map eTok) :: L) (F' := F) Tryd.results35 Hq Ge (hT ?_) | refine Gg (L' := Res.own (.slice _ k c) 38 3 (l.map eTok) :: L) (F' := F) Tryd.results35 Hq Ge (hF ?_)
   rw [he]
   unfold endsT
   simp [*] <;> omega
  refine qs 11 ?_
  refine Gc (AO.geq Hq Hq Hq (fun c37 => ?_) (fun c37 => ?_))
  ·refine qs 3 ?_
   refine Gk Hq Hq (AO.leq Hq Hq Hq (fun c41 => ?_) (fun c41 => ?_))
   ·refine qs 5 ?_
    first | refine Gg (L' := Res.own (.slice _ k c) 38 3 (l.map eTok) :: L) (F' := F) Tryd.results35 Hq Ge (hT ?_) | refine Gg (L' := Res.own (.slice _ k c) 38 3 (l.map eTok) :: L) (F' := F) Tryd.results35 Hq Ge (hF ?_)
    rw [he]
    unfold endsT
    simp [*] <;> omega
   refine qs 5 ?_
   first | refine Gg (L' := Res.own (.slice _ k c) 38 3 (l.map eTok) :: L) (F' := F) Tryd.results35 Hq Ge (hT ?_) | refine Gg (L' := Res.own (.slice _ k c) 38 3 (l.map eTok) :: L) (F' := F) Tryd.results35 Hq Ge (hF ?_)
   rw [he]
   unfold endsT
   simp [*] <;> omega
  refine qs 9 ?_
  first | refine Gg (L' := Res.own (.slice _ k c) 38 3 (l.map eTok) :: L) (F' := F) Tryd.results35 Hq Ge (hT ?_) | refine Gg (L' := Res.own (.slice _ k c) 38 3 (l.map eTok) :: L) (F' := F) Tryd.results35 Hq Ge (hF ?_)
  rw [he]
  unfold endsT
  simp [*] <;> omega
theorem check_c (s : Bs) (h : match checkB s with
    | .ok _ => R (.tuple #[.int .i64 0, .int .i64 0]) L F
    | .error (i, e) => R (.tuple #[.int .i64 (i : Int), .int .i64 e]) L F) : ACalls Tryd.prog W0 33 #[S s] L F R := by
  unfold checkB at h
  refine GC Tryd.func33 Hq Tryd.ntmps33 Hq ?_
  refine qs 11 ?_
  refine Gc (GV Hq Hq Hq (fun c8 => ?_) (fun c8 => ?_))
  ·refine qs 4 ?_
   rw [if_pos Hs] at h
   refine qs 7 ?_
   exact Hn Tryd.results33 rfl rfl (Ga _ _) h
  refine qs 7 ?_
  rw [if_neg Hs] at h
  refine qs 2 ?_
  refine Gc (AO.rangeS Hq Hq (fun b10 => ?_))
  refine qs 3 ?_
  refine GN (fun (q : Nat × Nat) => s.length ≤ q.1 + q.2 ∧ checkF s.length s 0 = checkF q.2 (s.drop q.1) q.1) (fun _ => [(0, S s), (10, pt b10)]) (fun q => Res.obj b10 (iterO s q.1) :: L) (fun _ => F) (fun q => q.2) (0, s.length) ⟨by simp, rfl⟩ srA (Ga _ _) ?_
  rintro ⟨p, f⟩ ⟨hpf, he⟩
  simp only at hpf he ⊢
  refine qs 2 ?_
  refine Gc (AO.nextS (i := 0) Hq Hq Hq (fun hp => ?_) (fun hp => ?_))
  ·have hd := dec_at s p
   have hne : s.drop p ≠ [] := by rw [Ne, List.drop_eq_nil_iff]; omega
   obtain ⟨f, rfl⟩ : ∃ f', f = f' + 1 := ⟨f - 1, by omega⟩
   rw [checkF, if_neg hne] at he
   refine Gc (AO.extract Hq Hq Hq ?_)
   refine qs 19 ?_
   refine Gc (Gv Hq Hq Hq (fun c16 => ?_) (fun c16 => ?_))
   ·refine qs 16 ?_
    rw [hd] at c16
    rw [if_pos Hs] at he
    rw [he] at h
    exact Hn (L' := L) (F' := F) Tryd.results33 rfl rfl (by repeat (first | exact Ga _ _ | exact Gb (fun x hx => by repeat (first | exact hx | refine List.mem_cons_of_mem _ ?_)) | refine Gd Ge ?_)) h
   refine qs 8 ?_
   refine Gc (Gv Hq Hq Hq (fun c19 => ?_) (fun c19 => ?_))
   ·refine qs 3 ?_
    refine Gk Hq Hq (AO.sliceSL (i' := p) Hq Hq Hq Hq Hs ?_)
    refine Gk Hq Hq (Gj Hq Hq (hasPre_c _ _ ?_))
    refine qs 4 ?_
    refine AC.cond Hq (fun c26 => ?_) (fun c26 => ?_)
    ·refine qs 12 ?_
     rw [hd] at c16 c19
     rw [if_neg Hs, if_pos ⟨by omega, by simpa using c26⟩] at he
     rw [he] at h
     exact Hn (L' := L) (F' := F) Tryd.results33 rfl rfl (by repeat (first | exact Ga _ _ | exact Gb (fun x hx => by repeat (first | exact hx | refine List.mem_cons_of_mem _ ?_)) | refine Gd Ge ?_)) h
    refine qs 2 ?_
    rw [hd] at c16 c19
    have hw := decS_pos (s.drop p)
    rw [if_neg Hs, if_neg (by first | (intro q; omega) | (rintro ⟨_, q⟩; simp [q] at c26)), List.drop_drop] at he
    rw [hd]
    exact GE (p + (decS (s.drop p)).2, f) ⟨by simp only; omega, he⟩ (by simp only; omega) srA (Ga _ _)
   refine qs 12 ?_
   rw [hd] at c16 c19
   have hw := decS_pos (s.drop p)
   rw [if_neg Hs, if_neg (by first | (intro q; omega) | (rintro ⟨_, q⟩; simp [q] at c26)), List.drop_drop] at he
   rw [hd]
   exact GE (p + (decS (s.drop p)).2, f) ⟨by simp only; omega, he⟩ (by simp only; omega) srA (Ga _ _)
  refine Gc (AO.extract Hq Hq Hq ?_)
  refine qs 16 ?_
  have he2 : checkF s.length s 0 = none := by rw [he, List.drop_of_length_le hp]; cases f <;> simp [checkF]
  rw [he2] at h
  exact Hn (L' := L) (F' := F) Tryd.results33 rfl rfl (by repeat (first | exact Ga _ _ | exact Gb (fun x hx => by repeat (first | exact hx | refine List.mem_cons_of_mem _ ?_)) | refine Gd Ge ?_)) h
theorem check_ok {s : Bs} {u : Unit} (hc : checkB s = .ok u) (h : R (.tuple #[.int .i64 0, .int .i64 0]) L F) : ACalls Tryd.prog W0 33 #[S s] L F R := check_c s (by rw [hc]; exact h)
theorem check_err {s : Bs} {i : Nat} {e : Int} (hc : checkB s = .error (i, e)) (h : R (.tuple #[.int .i64 (i : Int), .int .i64 e]) L F) : ACalls Tryd.prog W0 33 #[S s] L F R := check_c s (by rw [hc]; exact h)
theorem skipped_cc (g : ScanG W0 F) (s : Bs) (h0 : s ≠ []) (hs : s.length ≤ 100000) (hN : skippedB s = none → R (.tuple #[.int .i64 (-1), .bool false]) L F) (hS : ∀ n b, skippedB s = some (n, b) → R (.tuple #[.int .i64 (n : Int), .bool b]) L F) : ACalls Tryd.prog W0 34 #[S s] L F R := by
  refine skipped_c g s h0 hs ?_
  cases h : skippedB s with
  | none => exact hN h
  | some p => obtain ⟨n, b⟩ := p; exact hS n b h
theorem token_cc (g : ScanG W0 F) (s : Bs) (h0 : s ≠ []) (hs : s.length ≤ 100000) (hO : ∀ k n, tokenB s = .ok (k, n) → R (.tuple #[.int .i64 k, .int .i64 (n : Int), .int .i64 0]) L F) (hE : ∀ e, tokenB s = .error e → R (.tuple #[.int .i64 0, .int .i64 0, .int .i64 e]) L F) : ACalls Tryd.prog W0 36 #[S s] L F R := by
  refine token_c g s h0 hs ?_
  cases h : tokenB s with
  | error e => exact hE e h
  | ok p => obtain ⟨k, n⟩ := p; exact hO k n h
theorem scan_c (g : ScanG W0 F) (s : Bs) (hs : s.length ≤ 100000) (h : match scanB s with
    | .ok T => ∀ a k c, R (.tuple #[.slice a k c, .int .i64 0, .int .i64 0]) L (.slc (.slice a k c) 3 (T.map eTok) :: F)
    | .error (i, e) => R (.tuple #[.slice none 0 0, .int .i64 (i : Int), .int .i64 e]) L F) : ACalls Tryd.prog W0 19 #[S s] L F R := by
  have hok := scanB_ok s
  unfold scanB at h hok
  cases hc : checkB s with
  | error p =>
    obtain ⟨i, e⟩ := p
    rw [hc] at h hok
    have he0 : e ≠ 0 := by have := hok.2; omega
    refine GC Tryd.func19 Hq Tryd.ntmps19 Hq ?_
    refine qs 7 ?_
    refine AC.scope ?_
    refine qs 4 ?_
    refine Gc (Gj Hq Hq (check_err hc ?_))
    refine qs 10 ?_
    refine Gc (GJ Hq Hq Hq (fun _ => ?_) (fun c => absurd c he0))
    refine qs 14 ?_
    refine AK.scpR ?_
    exact GG Tryd.results19 rfl rfl rfl (Ga _ _) h
  | ok u =>
    rw [hc] at h
    clear hok
    simp only at h
    refine GC Tryd.func19 Hq Tryd.ntmps19 Hq ?_
    refine qs 7 ?_
    refine AC.scope ?_
    refine qs 4 ?_
    refine Gc (Gj Hq Hq (check_ok hc ?_))
    refine qs 10 ?_
    refine Gc (GJ Hq Hq Hq (fun c => absurd Hq c) (fun _ => ?_))
    refine qs 7 ?_
    refine Gx (Sub.ownNil (e := 38) (sz := 3)) ?_
    refine Gc (AO.assign Hq Hq ?_)
    refine qs 8 ?_
    refine AC.label ?_
    refine qs 3 ?_
    refine GN (fun (q : (List Tok × Nat × Nat) × (Option Addr × Nat × Nat)) => q.1.2.1 ≤ s.length ∧ s.length < q.1.2.2 + q.1.2.1 ∧ q.1.1.length ≤ q.1.2.1 ∧ scanF (s.length + 1) s 0 [] = scanF q.1.2.2 (s.drop q.1.2.1) q.1.2.1 q.1.1)
     (fun q => [(0, S s), (7, .slice q.2.1 q.2.2.1 q.2.2.2), (8, .int .i64 (q.1.2.1 : Int))]) (fun q => Res.own (.slice q.2.1 q.2.2.1 q.2.2.2) 38 3 (q.1.1.map eTok) :: L) (fun _ => F) (fun q => q.1.2.2)
     (([], 0, s.length + 1), (none, 0, 0)) ⟨Nat.zero_le _, by simp only; omega, Nat.le_refl _, rfl⟩ srA (Ga _ _) ?_
    rintro ⟨⟨out, p, f⟩, ⟨a1, k1, c1⟩⟩ ⟨hp, hf, ho, he⟩
    simp only at hp hf ho he ⊢
    obtain ⟨f, rfl⟩ : ∃ f', f = f' + 1 := ⟨f - 1, by omega⟩
    refine qs 6 ?_
    refine Gc (GP Hq Hq Hq (fun c25 => ?_) (fun c25 => ?_))
    ·refine qs 10 ?_
     have hne : s.drop p ≠ [] := by rw [Ne, List.drop_eq_nil_iff]; omega
     have hdl : (s.drop p).length = s.length - p := List.length_drop ..
     refine Gc (AO.sliceSL (i' := p) Hq Hq Hq Hq Hs ?_)
     refine Gc (Gj Hq Hq (skipped_cc g (s.drop p) hne Hs (fun hsk => ?_) (fun n nl hsk => ?_)))
     ·refine qs 12 ?_
      refine Gc (GP Hq Hq Hq (fun _ => ?_) (fun c => absurd c (by decide)))
      refine qs 19 ?_
      refine AK.scpR ?_
      rw [he, scanF_err1 hne hsk] at h
      exact GG (L' := L) (F' := F) Tryd.results19 rfl rfl rfl (by repeat (first | exact Ga _ _ | exact Gb (fun x hx => by repeat (first | exact hx | refine List.mem_cons_of_mem _ ?_)) | refine Gd Ge ?_)) h
     refine qs 12 ?_
     have hnl := skippedB_le hne hsk
     refine Gc (GP Hq Hq Hq (fun c => absurd c Hs) (fun _ => ?_))
     refine qs 7 ?_
     refine Gc (GV Hq Hq Hq (fun c39 => ?_) (fun c39 => ?_))
     ·refine qs 8 ?_
      cases nl
      rotate_left
      all_goals refine Gc (AO.move rfl rfl ?_)
      ·refine qs 1 ?_
       refine Gk Hq Hq (Gj Hq Hq (ends_c out Hs (fun c43 => ?_) (fun c43 => ?_)))
       ·refine qs 8 ?_
        refine Gc (GF Hq Hq Hq Hq Hq (fun b48 => ?_))
        refine Gc (Ha (enc := eTok) (lst := out) [⟨6, [10], p⟩] Hq Hq Hq (i := 0) Hq (.val (.val (.val .nil))) Hq Hq (fun _ => rfl) (by unfold maxLen; omega) Hs (fun a2 k2 c2 => ?_))
        refine qs 15 ?_
        rw [scanF_skip hne hsk Hs, c43, List.drop_drop] at he
        refine GE ((out ++ [⟨6, [10], p⟩], p + n, f), (a2, k2, c2)) ⟨by simp only; omega, by simp only; omega, by simp only [List.length_append, List.length_cons, List.length_nil]; omega, he⟩ (by simp only; omega) srA (by simp only [List.map_append]; exact subF)
       refine qs 18 ?_
       rw [scanF_skip hne hsk Hs, c43, List.drop_drop] at he
       refine GE ((out, p + n, f), (a1, k1, c1)) ⟨by simp only; omega, by simp only; omega, by simp only; omega, he⟩ (by simp only; omega) srA subF
      refine qs 20 ?_
      rw [scanF_skip hne hsk Hs, List.drop_drop] at he
      refine GE ((out, p + n, f), (a1, k1, c1)) ⟨by simp only; omega, by simp only; omega, by simp only; omega, he⟩ (by simp only; omega) srA subF
     refine qs 11 ?_
     refine Gc (AO.sliceSL (i' := p) Hq Hq Hq Hq Hs ?_)
     refine Gc (Gj Hq Hq (token_cc g (s.drop p) hne Hs (fun kd m ht => ?_) (fun e ht => ?_)))
     ·refine qs 13 ?_
      have hm := tokenB_le hne ht
      refine Gc (GJ Hq Hq Hq (fun c => absurd Hq c) (fun _ => ?_))
      refine qs 14 ?_
      refine Gc (AO.sliceSLH (i' := p) (j' := p + m) Hq Hq Hq Hq Hq Hs Hs Hs ?_)
      rw [show p + m - p = m by omega]
      refine qs 2 ?_
      refine Gc (GF Hq Hq Hq Hq Hq (fun b75 => ?_))
      refine Gc (Ha (enc := eTok) (lst := out) [⟨kd, (s.drop p).take m, p⟩] Hq Hq Hq (i := 0) Hq (.val (.val (.val .nil))) Hq Hq (fun _ => rfl) (by unfold maxLen; omega) Hs (fun a2 k2 c2 => ?_))
      refine qs 10 ?_
      rw [scanF_tok hne hsk Hs ht, List.drop_drop] at he
      refine GE ((out ++ [⟨kd, (s.drop p).take m, p⟩], p + m, f), (a2, k2, c2)) ⟨by simp only; omega, by simp only; omega, by simp only [List.length_append, List.length_cons, List.length_nil]; omega, he⟩ (by simp only; omega) srA (by simp only [List.map_append]; exact subF)
     refine qs 13 ?_
     have hte := tokenB_err ht
     refine Gc (GJ Hq Hq Hq (fun _ => ?_) (fun c => absurd c Hs))
     refine qs 18 ?_
     refine AK.scpR ?_
     rw [he, scanF_err2 hne hsk Hs ht] at h
     exact GG (L' := L) (F' := F) Tryd.results19 rfl rfl rfl (by repeat (first | exact Ga _ _ | exact Gb (fun x hx => by repeat (first | exact hx | refine List.mem_cons_of_mem _ ?_)) | refine Gd Ge ?_)) h
    refine qs 12 ?_
    rw [he, scanF_end (by rw [List.drop_eq_nil_iff]; omega)] at h
    refine Gc (Gj Hq Hq (ends_c out Hs (fun c81 => ?_) (fun c81 => ?_)))
    ·refine qs 7 ?_
     refine Gc (GF Hq Hq Hq Hq Hq (fun b85 => ?_))
     refine Gc (Ha (enc := eTok) (lst := out) [⟨6, [10], p⟩] Hq Hq Hq (i := 0) Hq (.val (.val (.val .nil))) Hq Hq (fun _ => rfl) (by unfold maxLen; omega) Hs (fun a3 k3 c3 => ?_))
     refine qs 8 ?_
     refine Gc (GF Hq Hq Hq Hq Hq (fun b90 => ?_))
     have hcl : closeB out p = (out ++ [⟨6, [10], p⟩]) ++ [⟨0, [], p⟩] := by unfold closeB; rw [if_pos c81]
     refine Gc (Ha (enc := eTok) (lst := out ++ [⟨6, [10], p⟩]) [⟨0, [], p⟩] Hq Hq Hq (i := 0) Hq (.val (.val (.val .nil))) Hq Hq (fun _ => rfl) (by simp only [maxLen, List.length_append, List.length_cons, List.length_nil]; omega) (by simp only [List.length_append, List.length_cons, List.length_nil]; omega) (fun a4 k4 c4 => ?_))
     rw [← hcl]
     refine qs 7 ?_
     refine Gc (AO.lenO Hq Hq (i := 0) Hq (fun hk93 => ?_))
     rw [List.length_map]
     refine Gc (GV Hq Hq Hq (fun c94 => ?_) (fun c94 => ?_))
     ·refine qs 12 ?_
      refine AK.scpR ?_
      rw [if_pos Hs] at h
      exact GG (L' := L) (F' := F) Tryd.results19 rfl rfl rfl (by repeat (first | exact Ga _ _ | exact Gb (fun x hx => by repeat (first | exact hx | refine List.mem_cons_of_mem _ ?_)) | refine Gd Ge ?_)) h
     refine qs 14 ?_
     refine AK.scpR ?_
     rw [if_neg Hs] at h
     exact GG (L' := L) (F' := .slc (.slice a4 k4 c4) 3 ((closeB out p).map eTok) :: F) Tryd.results19 rfl rfl rfl ((Gz (i := 0) rfl).trans (Sub.drop.trans (Sub.headF (fun x hx => by repeat (first | exact hx | refine List.mem_cons_of_mem _ ?_))))) (h a4 k4 c4)
    refine qs 10 ?_
    refine Gc (GF Hq Hq Hq Hq Hq (fun b90 => ?_))
    have hcl : closeB out p = out ++ [⟨0, [], p⟩] := by unfold closeB; rw [if_neg (by rw [c81]; decide)]
    refine Gc (Ha (enc := eTok) (lst := out) [⟨0, [], p⟩] Hq Hq Hq (i := 0) Hq (.val (.val (.val .nil))) Hq Hq (fun _ => rfl) (by unfold maxLen; omega) Hs (fun a4 k4 c4 => ?_))
    rw [← hcl]
    refine qs 7 ?_
    refine Gc (AO.lenO Hq Hq (i := 0) Hq (fun hk93 => ?_))
    rw [List.length_map]
    refine Gc (GV Hq Hq Hq (fun c94 => ?_) (fun c94 => ?_))
    ·refine qs 12 ?_
     refine AK.scpR ?_
     rw [if_pos Hs] at h
     exact GG (L' := L) (F' := F) Tryd.results19 rfl rfl rfl (by repeat (first | exact Ga _ _ | exact Gb (fun x hx => by repeat (first | exact hx | refine List.mem_cons_of_mem _ ?_)) | refine Gd Ge ?_)) h
    refine qs 14 ?_
    refine AK.scpR ?_
    rw [if_neg Hs] at h
    exact GG (L' := L) (F' := .slc (.slice a4 k4 c4) 3 ((closeB out p).map eTok) :: F) Tryd.results19 rfl rfl rfl ((Gz (i := 0) rfl).trans (Sub.drop.trans (Sub.headF (fun x hx => by repeat (first | exact hx | refine List.mem_cons_of_mem _ ?_))))) (h a4 k4 c4)
end
end Go.Sy
namespace Go.Sy
open Go Go.RowKit
section
variable {P : Program} {W0 : World} {n : Nat} {Q Z : Po} {ρ : Rho} {L L' : List Res} {F F' : List Fact} {K : Act → World → Prop} {ro : Option Nat} {ds : List Deferred}
variable {d : Tmp} {ty : TypeId} {pos : String} {af : Array Edge} {g : Option (Nat × Bool)} {x : Operand}
theorem AO.eqlI {t u yt : TypeId} {ms : Array (String × TypeId)} {v : Value} (hu : P.underlying t = some (.interface ms)) (hx : ev ρ x = some (.iface u v)) (hd : Nat.blt d n = true) (h : AT W0 n K ((d, .bool false) :: ρ) L F) : AO P W0 n K ⟨some d, .binOp .eql t x (.const .nilIface) yt, ty, pos, af, g⟩ Q ρ L F :=
  AO.val hd (fun a w s => by
    have h1 : P.underlying t = some (.interface (P.methodsAt t)) := by simp [Program.methodsAt, hu]
    have hv := GW s.slots hx
    have hn : a.eval (.const .nilIface) = .nilIface := rfl
    have hg : (eqGuard .eql t x (.const .nilIface) (.iface u v) .nilIface).run P w = .ok () w := by simp [eqGuard]
    simp only [execOp, hv, hn, Sem.run_bind, hg, Result.andThen, run_eql_held_nil w t u v h1]
    simp) h
theorem AO.eqlIN {t yt : TypeId} {ms : Array (String × TypeId)} (hu : P.underlying t = some (.interface ms)) (hx : ev ρ x = some .nilIface) (hd : Nat.blt d n = true) (h : AT W0 n K ((d, .bool true) :: ρ) L F) : AO P W0 n K ⟨some d, .binOp .eql t x (.const .nilIface) yt, ty, pos, af, g⟩ Q ρ L F :=
  AO.val hd (fun a w s => by
    have h1 : P.underlying t = some (.interface (P.methodsAt t)) := by simp [Program.methodsAt, hu]
    have hv := GW s.slots hx
    have hn : a.eval (.const .nilIface) = .nilIface := rfl
    have hg : (eqGuard .eql t x (.const .nilIface) .nilIface .nilIface).run P w = .ok () w := by simp [eqGuard]
    simp only [execOp, hv, hn, Sem.run_bind, hg, Result.andThen, run_eql_nil_nil w t h1]
    simp) h
theorem AO.assertT {t xt : TypeId} {fs : Array Field} {v : Value} (hu : P.underlying t = some (.struct fs)) (hx : ev ρ x = some (.iface t v)) (hd : Nat.blt d n = true) (h : AT W0 n K ((d, .tuple #[v, .bool true]) :: ρ) L F) : AO P W0 n K ⟨some d, .typeAssert x xt t true, ty, pos, af, g⟩ Q ρ L F :=
  AO.val hd (fun a w s => by simp [execOp, GW s.slots hx, Instr.typeAssert, run_underlying hu]) h
end
end Go.Sy
namespace Go.Sy
open Go Go.Proofs Go.RowKit
abbrev nilS : Value := .slice none 0 0
def pwholeU (K : List Tk) (m : PM Unit) : Except (Nat × Int) (List Nd) := match m ⟨0, [], 0⟩ with
  | .ok (_, s) => if (s.tok K).1 = 0 then .ok s.nodes else .error (s.i, 5)
  | .error e => .error e
theorem whole_kon {K : List Tk} {m : PM Unit} {RO : List Nd → Prop} {RE : Nat → Int → Prop} (h : match pwholeU K m with | .ok l => RO l | .error (i, e) => RE i e) : Kon (m ⟨0, [], 0⟩) (fun _ s' => ((s'.tok K).1 = 0 → RO s'.nodes) ∧ ((s'.tok K).1 ≠ 0 → RE s'.i 5)) RE := by
  unfold pwholeU at h
  unfold Kon
  match m ⟨0, [], 0⟩, h with
  | .error (i, e), h => exact h
  | .ok (u, s), h =>
    simp only at h ⊢
    refine ⟨fun q => ?_, fun q => ?_⟩
    · rw [if_pos q] at h; exact h
    rw [if_neg q] at h; exact h
theorem tree_kon {rule : List Tk → PM Unit} {s : Bs} {T : List Tok} (hT : scanB s = .ok T) {RO : List Nod → Prop} {RE : Nat → Int → Prop} (h : match treeB (fun K => pwholeU K (rule K)) s with | .ok l => RO l | .error (i, e) => RE i e) :
    Kon (rule (T.map Tok.tk) ⟨0, [], 0⟩) (fun _ s' => ((s'.tok (T.map Tok.tk)).1 = 0 → RO (s'.nodes.map (toNod T))) ∧ ((s'.tok (T.map Tok.tk)).1 ≠ 0 → RE (posOf T s'.i) 5)) (fun i e => RE (posOf T i) e) := by
  refine whole_kon (RO := fun l => RO (l.map (toNod T))) (RE := fun i e => RE (posOf T i) e) ?_
  unfold treeB at h
  rw [hT] at h
  simp only at h
  cases hw : pwholeU (T.map Tok.tk) (rule (T.map Tok.tk)) with
  | ok l => rw [hw] at h; exact h
  | error p => obtain ⟨i, e⟩ := p; rw [hw] at h; exact h
attribute [local irreducible] AC AT AO AK AH ACalls ACallsX ACallsD Sub Res.cells Res.obj Res.nix Res.own Res.map Exit.then Exit.inBlock Exit.noGoto bodyPost bodyPostD Code.wp Code.wpIn WL Next Post PostX Kont
section
variable {W0 : World} {L : List Res} {F : List Fact} {R : Value → List Res → List Fact → Prop}
set_option maxRecDepth 100000
set_option maxHeartbeats 4000000
abbrev outs (bl ba be : Nat) (v : Value) (i e : Int) (L : List Res) : List Res := Res.cells be #[.int .i64 e] 23 :: Res.cells ba #[.int .i64 i] 3 :: Res.cells bl #[v] 22 :: L
theorem pdefer0_c {bl ba be : Nat} {S : List Res → List Fact → Prop} (h : S L F) : ACallsD Tryd.prog W0 20 #[pt bl, pt ba, pt be] .returning .returning L F S := by
  have key : ACallsD Tryd.prog W0 20 [pt bl, pt ba, pt be].toArray .returning (settle .returning) L F S := by
    refine ACallsD.recBody (rv := .nilIface) (um := .returning) Hq Tryd.func20 Hq Tryd.ntmps20 Hq Hq ?_
    refine qs 3 ?_
    refine Gc (AO.eqlIN Tryd.underlying20 Hq Hq ?_)
    refine qs 7 ?_
    exact AK.end0 Tryd.results20 (Ga _ _) h
  exact key
theorem pdefer_c {T : List Tok} {i : Nat} {e : Int} {bl ba be : Nat} {v : Value} {i0 e0 : Int} {S : List Res → List Fact → Prop} (h : S (outs bl ba be nilS (posOf T i : Int) e L) F) : ACallsD Tryd.prog W0 20 #[pt bl, pt ba, pt be] (.panicking (wrong T i e)) .returning (outs bl ba be v i0 e0 L) F S := by
  have key : ACallsD Tryd.prog W0 20 [pt bl, pt ba, pt be].toArray (.panicking (wrong T i e)) (settle (.panicking [{ v := .iface 54 (.agg #[.int .i64 (posOf T i : Int), .int .i64 e]), recovered := true }])) (outs bl ba be v i0 e0 L) F S := by
    refine ACallsD.recBody (rv := .iface 54 (.agg #[.int .i64 (posOf T i : Int), .int .i64 e])) (um := .panicking [{ v := .iface 54 (.agg #[.int .i64 (posOf T i : Int), .int .i64 e]), recovered := true }]) Hq Tryd.func20 Hq Tryd.ntmps20 Hq Hq ?_
    refine qs 3 ?_
    refine Gc (AO.eqlI Tryd.underlying20 Hq Hq ?_)
    refine qs 5 ?_
    refine Gc (AO.assertT Tryd.underlying54 Hq Hq ?_)
    refine Gc (AO.extract Hq Hq Hq ?_)
    refine qs 6 ?_
    refine Gc (GH Hq (fun b4 => ?_))
    refine qs 3 ?_
    refine Hk (fun _ => false) [(b4, _, _)] bxA Hq (fun hx hX => ?_)
    refine qt [0, 1, 2, 3] ?_
    refine GK (i := 4) Hr Hq Hq (fun _ => ?_)
    refine Hp Hq Hq Hq ?_
    refine GD bxA memB ?_
    refine GK (i := 5) Hr Hq Hq (fun _ => ?_)
    refine Hp Hq Hq Hq ?_
    refine GD bxA memB ?_
    refine GK (i := 6) Hr Hq Hq (fun _ => ?_)
    refine Hp Hq Hq Hq ?_
    refine GD bxA memB ?_
    refine Hf Hr ?_
    refine qs 1 ?_
    exact AK.end0 (L' := outs bl ba be nilS (posOf T i : Int) e L) (F' := F) Tryd.results20 (by repeat (first | exact Ga _ _ | exact Gb (fun x hx => by repeat (first | exact hx | refine List.mem_cons_of_mem _ ?_)) | refine Gd Ge ?_)) h
  exact key
theorem scan_cc (g : ScanG W0 F) (s : Bs) (hs : s.length ≤ 100000) (hO : ∀ T, scanB s = .ok T → ∀ a k c, R (.tuple #[.slice a k c, .int .i64 0, .int .i64 0]) L (fTk T (.slice a k c) :: F)) (hE : ∀ i e, scanB s = .error (i, e) → e ≠ 0 → R (.tuple #[nilS, .int .i64 (i : Int), .int .i64 e]) L F) : ACalls Tryd.prog W0 19 #[S s] L F R := by
  refine scan_c g s hs ?_
  have hok := scanB_ok s
  cases h : scanB s with
  | ok T => exact hO T h
  | error p =>
    obtain ⟨i, e⟩ := p
    rw [h] at hok
    exact hE i e h (by have := hok.2; omega)
theorem parsed_c (g : ScanG W0 F) (mN : fNo ∈ F) {fr : FuncId} [FnT Tryd.prog fr] (rule : List Tk → PM Unit) (hG : ∀ K, Wf K → Ahead K 40 ⟨0, [], 0⟩ 0 (rule K ⟨0, [], 0⟩)) (hr : ∀ (T : List Tok) (b : Nat) (tv : Value) (L : List Res), Wf (T.map Tok.tk) → PC W0 T b tv L fr #[pt b] ⟨0, [], 0⟩ (rule (T.map Tok.tk)) vUnit)
    (s : Bs) (hs : s.length ≤ 100000) (h : match treeB (fun K => pwholeU K (rule K)) s with
    | .ok l => ∀ a k c, R (.tuple #[.slice a k c, .int .i64 0, .int .i64 0]) L (.slc (.slice a k c) 4 (l.map eNod) :: F)
    | .error (i, e) => R (.tuple #[nilS, .int .i64 (i : Int), .int .i64 e]) L F) : ACalls Tryd.prog W0 10 #[S s, .func (.func fr) #[] #[]] L F R := by
  have hok := scanB_ok s
  refine ACalls.bodyD Tryd.func10 Hq Tryd.ntmps10 Hq ?_
  refine qs 2 ?_
  refine Gc (GH Hq (fun b4 => (Gc (GH Hq (fun b5 => (Gc (GH Hq (fun b6 => ?_))))))))
  refine qs 5 ?_
  refine Gc (Gj Hq Hq (scan_cc g s hs (fun T hT ta tk tc => ?_) (fun i e hT he0 => ?_)))
  ·refine qs 13 ?_
   refine Gc (GJ Hq Hq Hq (fun c => absurd Hq c) (fun _ => ?_))
   refine qs 7 ?_
   rw [hT] at hok
   have w := hok.wf
   replace h := tree_kon (RO := fun l => ∀ a k c, R (.tuple #[.slice a k c, .int .i64 0, .int .i64 0]) L (.slc (.slice a k c) 4 (l.map eNod) :: F)) (RE := fun i e => R (.tuple #[nilS, .int .i64 (i : Int), .int .i64 e]) L F) hT h
   refine Gc (Hc Hq Hq ?_)
   refine AL.deferC Hq ?_
   refine qs 6 ?_
   refine Gc (AO.box Hq Hq (fun b22 => ?_))
   refine Gx ((Sub.ownNil (e := 29) (sz := 4)).trans Sub.swap2) ?_
   refine Gc (AO.assign Hq Hq ?_)
   refine qs 6 ?_
   refine Gl (AO.callCX (cs := []) Hq Hq Hq (hr T b22 _ _ w memA memA (h.go (hG _ w) (fun _ s1 v1 _ _ h a1 k1 c1 => ?_) (fun i e hx => ?_))))
   rotate_left
   · exact Gm (Gf (AK.panicD (pdefer_c (AK.retV (rs := [.cell 4 _, .cell 5 _, .cell 6 _]) (L' := L) (F' := F) Tryd.results10 (.cell (j := 2) rfl rfl rfl (.cell (j := 1) rfl rfl rfl (.cell (j := 0) rfl rfl rfl .nil))) (by repeat (first | exact Ga _ _ | exact Gb (fun x hx => by repeat (first | exact hx | refine List.mem_cons_of_mem _ ?_)) | refine Gd Ge ?_)) hx))))
   refine qs 6 ?_
   refine Gc (Gj Hq Hq (GL memA v1 ?_))
   refine Gc (GM Hq Hq Hq (Gc (GJ Hq Hq Hq (fun c29 => ?_) (fun c29 => ?_))))
   ·refine qs 5 ?_
    refine Gl (Gi Hq Hq (pfail_c memA v1 5 ?_))
    exact Gm (Gf (AK.panicD (pdefer_c (AK.retV (rs := [.cell 4 _, .cell 5 _, .cell 6 _]) (L' := L) (F' := F) Tryd.results10 (.cell (j := 2) rfl rfl rfl (.cell (j := 1) rfl rfl rfl (.cell (j := 0) rfl rfl rfl .nil))) (by repeat (first | exact Ga _ _ | exact Gb (fun x hx => by repeat (first | exact hx | refine List.mem_cons_of_mem _ ?_)) | refine Gd Ge ?_)) (h.2 c29)))))
   refine qs 7 ?_
   refine Gx (Gz (i := 1) Hq) ?_
   refine Gc (AO.move Hq Hq ?_)
   refine Gc (Gu Hq Hq ?_)
   refine qs 8 ?_
   exact AK.retD (pdefer0_c (AK.retV (rs := [.cell 4 _, .cell 5 _, .cell 6 _]) (L' := L) (F' := .slc (.slice a1 k1 c1) 4 ((s1.nodes.map (toNod T)).map eNod) :: F) Tryd.results10 (.cell (j := 4) rfl rfl rfl (.cell (j := 3) rfl rfl rfl (.cell (j := 2) rfl rfl rfl .nil))) (by repeat (first | exact Sub.headF (fun x hx => by repeat (first | exact hx | refine List.mem_cons_of_mem _ ?_)) | refine Gd Ge ?_)) (h.1 c29 a1 k1 c1)))
  refine qs 13 ?_
  refine Gc (GJ Hq Hq Hq (fun _ => ?_) (fun c => absurd c he0))
  refine qs 4 ?_
  refine Hk (fun _ => false) [(b5, _, _), (b6, _, _)] bxA Hq (fun hx hX => ?_)
  refine qt [0, 1] ?_
  refine GK (i := 2) Hr Hq Hq (fun _ => ?_)
  refine Hp Hq Hq Hq ?_
  refine GD bxA memB ?_
  refine GK (i := 3) Hr Hq Hq (fun _ => ?_)
  refine Hp Hq Hq Hq ?_
  refine GD bxA memB ?_
  refine GK (i := 4) Hr Hq Hq (fun _ => ?_)
  refine Hp Hq Hq Hq ?_
  refine GD bxA memB ?_
  refine Hf Hr ?_
  refine qs 3 ?_
  unfold treeB at h
  rw [hT] at h
  exact AK.ret0D (AK.retV (rs := [.cell 4 _, .cell 5 _, .cell 6 _]) (L' := L) (F' := F) Tryd.results10 (.cell (j := 2) rfl rfl rfl (.cell (j := 1) rfl rfl rfl (.cell (j := 0) rfl rfl rfl .nil))) (by repeat (first | exact Ga _ _ | exact Gb (fun x hx => by repeat (first | exact hx | refine List.mem_cons_of_mem _ ?_)) | refine Gd Ge ?_)) h)
end
end Go.Sy
namespace Go.Sy
open Go Go.Proofs Go.RowKit
def exprRule (K : List Tk) : PM Unit := ((lev K 40).expr 1).bind fun _ s => if semiB (s.tok K) = true then .ok ((), s.next) else .ok ((), s)
def fileRule (K : List Tk) : PM Unit := (pfile K (lev K 40)).bind fun _ => PM.ret ()
theorem exprRule_eq (K : List Tk) : pwholeU K (exprRule K) = pexprAll K := by
  unfold pwholeU pexprAll pwhole exprRule PM.bind
  cases (lev K 40).expr 1 ⟨0, [], 0⟩ with
  | error e => rfl
  | ok p => obtain ⟨v, s⟩ := p; simp only; split <;> rename_i h <;> (split at h <;> simp_all)
theorem fileRule_eq (K : List Tk) : pwholeU K (fileRule K) = pfileAll K := by
  unfold pwholeU pfileAll pwhole fileRule PM.bind
  cases pfile K (lev K 40) ⟨0, [], 0⟩ with
  | error e => rfl
  | ok p => rfl
theorem exprRule_go (K : List Tk) (w : Wf K) : Ahead K 40 ⟨0, [], 0⟩ 0 (exprRule K ⟨0, [], 0⟩) := by
  intro a s' e
  obtain ⟨v, s1, h1, h2⟩ := bind_ok e
  have := (((lev_g w 40).expr 1 _ (inv0 w)).go _ _ h1).1
  split at h2
  · rename_i hc
    injection h2 with h2; injection h2 with _ h2; subst h2
    exact ⟨this.next w (GT hc), Nat.zero_le _⟩
  injection h2 with h2; injection h2 with _ h2; subst h2
  exact ⟨this, Nat.zero_le _⟩
theorem fileRule_go (K : List Tk) (w : Wf K) : Ahead K 40 ⟨0, [], 0⟩ 0 (fileRule K ⟨0, [], 0⟩) := by
  intro a s' e
  obtain ⟨v, s1, h1, h2⟩ := bind_ok e
  injection h2 with h2; injection h2 with _ h2; subst h2
  have := (pfile_g w (lev_g w 40) (inv0 w)).go _ _ h1
  exact ⟨this.1, by omega⟩
attribute [local irreducible] AC AT AO AK AH ACalls ACallsX ACallsD Sub Res.cells Res.obj Res.nix Res.own Res.map Exit.then Exit.inBlock Exit.noGoto bodyPost bodyPostD Code.wp Code.wpIn WL Next Post PostX Kont
attribute [local irreducible] pnamed psignature pfield pelem pliteral pbare punion pexpr poperand pprimary punary ptypes punless pbody pfunction pdecl pfile plist plines pnode pof pmust psemi pnone pnested pwhen pif PM.bind PM.ret lev
section
variable {W0 : World} {L : List Res} {F : List Fact} {R : Value → List Res → List Fact → Prop}
set_option maxRecDepth 100000
set_option maxHeartbeats 4000000
theorem exprR_c (T : List Tok) (b : Nat) (tv : Value) (L : List Res) (w : Wf (T.map Tok.tk)) : PC W0 T b tv L 11 #[pt b] ⟨0, [], 0⟩ (exprRule (T.map Tok.tk)) vUnit := by
  intro F R X a k c mT mN h
  have rc := lev_c (W0 := W0) (b := b) (tv := tv) w 40
  have hr := lev_g w 40
  have v := inv0 w
  have hw := w.len
  rw [List.length_map] at hw
  unfold exprRule at h
  replace h := Kon.bind h
  refine ACallsX.body Tryd.func11 Hq Tryd.ntmps11 Hq ?_
  refine qs 3 ?_
  refine Gl (Gi Hq Hq (rc.expr 1 (by decide) v memA memA (h.go (hr.expr _ _ v).go (fun x3 s11 v11 l11 e11 h a11 k11 c11 => ?_) (fun i e hx => Gm (Gf (Gh (by repeat (first | exact Ga _ _ | exact Gb (fun x hx => by repeat (first | exact hx | refine List.mem_cons_of_mem _ ?_)) | refine Gd Ge ?_)) (hx)))))))
  repeat (first | replace h := Kon.bind h | replace h := Kon.retE h | replace h := Kon.okE h)
  refine qs 5 ?_
  refine Gc (Gj Hq Hq (GL memA v11 ?_))
  refine Gc (Gj Hq Hq (psemiB_c (fun c6 => ?_) (fun c6 => ?_)))
  ·first | replace h := Kon.iteT c6 h | skip
   repeat (first | replace h := Kon.bind h | replace h := Kon.retE h | replace h := Kon.okE h)
   refine qs 3 ?_
   have hlt := (v11).lt
   refine qs 2 ?_
   refine Gc (Gu Hq Hq ?_)
   refine qs 3 ?_
   refine Gc (Gu Hq Hq ?_)
   refine qs 3 ?_
   exact Gr (AK.end0 (L' := PL T b tv s11.next a11 k11 c11 L) (F' := F) Tryd.results11 (by repeat (first | exact Ga _ _ | exact Gb (fun x hx => by repeat (first | exact hx | refine List.mem_cons_of_mem _ ?_)) | refine Gd Gn ?_)) (h _ _ _))
  first | replace h := Kon.iteF (nott c6) h | skip
  repeat (first | replace h := Kon.bind h | replace h := Kon.retE h | replace h := Kon.okE h)
  refine qs 4 ?_
  exact Gr (AK.end0 (L' := PL T b tv s11 a11 k11 c11 L) (F' := F) Tryd.results11 (by repeat (first | exact Ga _ _ | exact Gb (fun x hx => by repeat (first | exact hx | refine List.mem_cons_of_mem _ ?_)) | refine Gd Gn ?_)) (h _ _ _))
theorem fileR_c (T : List Tok) (b : Nat) (tv : Value) (L : List Res) (w : Wf (T.map Tok.tk)) : PC W0 T b tv L 15 #[pt b] ⟨0, [], 0⟩ (fileRule (T.map Tok.tk)) vUnit := by
  intro F R X a k c mT mN h
  have rc := lev_c (W0 := W0) (b := b) (tv := tv) w 40
  have hr := lev_g w 40
  have v := inv0 w
  unfold fileRule at h
  replace h := Kon.bind h
  refine ACallsX.body Tryd.func15 Hq Tryd.ntmps15 Hq ?_
  refine qs 2 ?_
  refine Gl (Gi Hq Hq (pfile_c w rc hr v memA memA (h.go (pfile_g w hr v).go (fun x3 s11 v11 l11 e11 h a11 k11 c11 => ?_) (fun i e hx => Gm (Gh (by repeat (first | exact Ga _ _ | exact Gb (fun x hx => by repeat (first | exact hx | refine List.mem_cons_of_mem _ ?_)) | refine Gd Ge ?_)) (hx))))))
  repeat (first | replace h := Kon.bind h | replace h := Kon.retE h | replace h := Kon.okE h)
  refine qs 1 ?_
  exact Gr (AK.end0 (L' := PL T b tv s11 a11 k11 c11 L) (F' := F) Tryd.results15 (by repeat (first | exact Ga _ _ | exact Gb (fun x hx => by repeat (first | exact hx | refine List.mem_cons_of_mem _ ?_)) | refine Gd Gn ?_)) (h _ _ _))
abbrev fNod (l : List Nod) (a : Option Addr) (k c : Nat) : Fact := .slc (.slice a k c) 4 (l.map eNod)
theorem parsed_cc (g : ScanG W0 F) (mN : fNo ∈ F) {fr : FuncId} [FnT Tryd.prog fr] (rule : List Tk → PM Unit) (hG : ∀ K, Wf K → Ahead K 40 ⟨0, [], 0⟩ 0 (rule K ⟨0, [], 0⟩)) (hr : ∀ (T : List Tok) (b : Nat) (tv : Value) (L : List Res), Wf (T.map Tok.tk) → PC W0 T b tv L fr #[pt b] ⟨0, [], 0⟩ (rule (T.map Tok.tk)) vUnit)
    (s : Bs) (hs : s.length ≤ 100000) {res : Except (Nat × Int) (List Nod)} (hB : treeB (fun K => pwholeU K (rule K)) s = res) (hO : ∀ l, res = .ok l → ∀ a k c, R (.tuple #[.slice a k c, .int .i64 0, .int .i64 0]) L (fNod l a k c :: F)) (hE : ∀ i e, res = .error (i, e) → R (.tuple #[nilS, .int .i64 (i : Int), .int .i64 e]) L F) :
    ACalls Tryd.prog W0 10 #[S s, .func (.func fr) #[] #[]] L F R := by
  refine parsed_c g mN rule hG hr s hs ?_
  rw [hB]
  cases h : res with
  | ok l => exact hO l h
  | error p => obtain ⟨i, e⟩ := p; exact hE i e h
theorem expr_c (g : ScanG W0 F) (mN : fNo ∈ F) (s : Bs) (hs : s.length ≤ 100000) (hO : ∀ l, exprB s = .ok l → ∀ a k c, R (.tuple #[.slice a k c, .int .i64 0, .int .i64 0]) L (fNod l a k c :: F)) (hE : ∀ i e, exprB s = .error (i, e) → R (.tuple #[nilS, .int .i64 (i : Int), .int .i64 e]) L F) :
    ACalls Tryd.prog W0 5 #[S s] L F R := by
  have hB : treeB (fun K => pwholeU K (exprRule K)) s = exprB s := by
    have : (fun K => pwholeU K (exprRule K)) = pexprAll := funext exprRule_eq
    rw [this]; rfl
  refine GC Tryd.func5 Hq Tryd.ntmps5 Hq ?_
  refine qs 10 ?_
  refine Gc (Gj Hq Hq (parsed_cc g mN exprRule exprRule_go exprR_c s hs hB (fun l hl a6 k6 c6 => ?_) (fun i e hl => ?_)))
  ·refine qs 9 ?_
   exact GG Tryd.results5 rfl rfl rfl (Ga _ _) (hO l hl _ _ _)
  refine qs 9 ?_
  exact GG Tryd.results5 rfl rfl rfl (Ga _ _) (hE i e hl)
theorem file_c (g : ScanG W0 F) (mN : fNo ∈ F) (s : Bs) (hs : s.length ≤ 100000) (hO : ∀ l, fileB s = .ok l → ∀ a k c, R (.tuple #[.slice a k c, .int .i64 0, .int .i64 0]) L (fNod l a k c :: F)) (hE : ∀ i e, fileB s = .error (i, e) → R (.tuple #[nilS, .int .i64 (i : Int), .int .i64 e]) L F) :
    ACalls Tryd.prog W0 8 #[S s] L F R := by
  have hB : treeB (fun K => pwholeU K (fileRule K)) s = fileB s := by
    have : (fun K => pwholeU K (fileRule K)) = pfileAll := funext fileRule_eq
    rw [this]; rfl
  refine GC Tryd.func8 Hq Tryd.ntmps8 Hq ?_
  refine qs 10 ?_
  refine Gc (Gj Hq Hq (parsed_cc g mN fileRule fileRule_go fileR_c s hs hB (fun l hl a6 k6 c6 => ?_) (fun i e hl => ?_)))
  ·refine qs 9 ?_
   exact GG Tryd.results8 rfl rfl rfl (Ga _ _) (hO l hl _ _ _)
  refine qs 9 ?_
  exact GG Tryd.results8 rfl rfl rfl (Ga _ _) (hE i e hl)
end
end Go.Sy
namespace Go.Sy
open Go Go.RowKit
class ArS (P : Program) (t : TypeId) (m sz : outParam Nat) : Prop where
  und : ∃ e, P.underlying t = some (.array m e) ∧ ∀ w, (sizeOf e).run P w = .ok sz w
theorem ArS.of {P : Program} {t e : TypeId} {m sz : Nat} (h : P.underlying t = some (.array m e)) (hs : (P.info? e).map (·.size) = some sz) : ArS P t m sz :=
  ⟨e, h, fun w => by
    cases hi : P.info? e with
    | none => simp [hi] at hs
    | some i => simp [hi] at hs; simp [sizeOf, typeInfo, hi, hs]⟩
theorem AgT.ofA {P : Program} {t e : TypeId} {m k : Nat} (h : P.underlying t = some (.array m e)) (hs : (P.info? t).map (·.size) = some k) : AgT P t k :=
  ⟨fun w => by simp [isAgg, run_underlying h], fun w => by
    cases hi : P.info? t with
    | none => simp [hi] at hs
    | some i => simp [hi] at hs; simp [sizeOf, typeInfo, hi, hs]⟩
section
variable {P : Program} {W0 : World} {n : Nat} {Q : Po} {ρ : Rho} {L : List Res} {F : List Fact} {K : Act → World → Prop}
variable {d : Tmp} {t ty : TypeId} {pos : String} {af : Array Edge} {g : Option (Nat × Bool)} {x y : Operand}
theorem AO.indexP {m sz b o j : Nat} {i : Int} {k : IntKind} [ht : ArS P t m sz] (hx : ev ρ x = some (.pointer (some ⟨b, o, none⟩))) (hy : ev ρ y = some (.int k i)) (hd : Nat.blt d n = true) (hi : i = (j : Int)) (hj : j < m) (h : AT W0 n K ((d, .pointer (some ⟨b, o + j * sz, none⟩)) :: ρ) L F) :
    AO P W0 n K ⟨some d, .indexAddr t x y, ty, pos, af, g⟩ Q ρ L F :=
  AO.val hd (fun a w s => by
    subst hi
    obtain ⟨e, hu, hsz⟩ := ht.und
    have he : P.elem t = e := by simp [Program.elem, hu]
    have hl : P.arrayLen t = m := by simp [Program.arrayLen, hu]
    have hlt : (0 : Int) ≤ (j : Int) ∧ (j : Int) < (m : Int) := by omega
    have := run_indexAt_array (P := P) w t ⟨b, o, none⟩ k (j : Int) (by rw [he, hl]; exact hu)
    rw [he, hl, if_pos hlt, hsz] at this
    simp only [execOp, GW s.slots hx, GW s.slots hy, Sem.run_bind, this]
    simp [Result.andThen, Addr.add_lit]) h
end
end Go.Sy
namespace Go.Sy
open Go Go.Proofs Go.RowKit
instance : ArS Tryd.prog 47 33 2 := ArS.of Tryd.underlying47 Hr
instance : AgT Tryd.prog 47 66 := AgT.ofA Tryd.underlying47 Hr
instance : ZeT Tryd.prog 47 (.agg (List.replicate 66 (Value.int .i64 0)).toArray) := ZeT.of Hr
abbrev vI (i : Int) : Value := .int .i64 i
def spanF (a b : Int) (ks : List Nat) (T : List Value) : List Value := ks.foldl (fun T k => putL T (0 + k * 2) [vI a, vI b]) T
theorem spanF_len {a b : Int} (ks : List Nat) : ∀ T : List Value, (spanF a b ks T).length = T.length := by
  induction ks with
  | nil => intro T; rfl
  | cons k ks ih => intro T; show (spanF a b ks _).length = _; rw [ih, putL_length]
theorem spanF_step {a b : Int} {ks : List Nat} {T : List Value} {q : Nat} (hq : q < ks.length) : putL (spanF a b (ks.take q) T) (0 + ks[q] * 2) [vI a, vI b] = spanF a b (ks.take (q + 1)) T := by
  rw [List.take_succ_eq_append_getElem hq]; simp only [spanF, List.foldl_append, List.foldl_cons, List.foldl_nil]
theorem spanF0 {a b : Int} {ks : List Nat} {T : List Value} : spanF a b (ks.take 0) T = T := rfl
def spanA : List Nat := [6, 9, 11, 12, 18, 19, 20, 22, 27, 29, 30]
def spanB : List Nat := [10, 13, 14, 23, 24, 25]
def spanC : List Nat := [7, 15, 21]
def spanD : List Nat := [16, 17, 26, 32]
abbrev span0 : List Value := List.replicate 66 (vI 0)
abbrev span1 : List Value := spanF 1 1 spanA span0
abbrev span2 : List Value := spanF 2 2 spanB span1
abbrev span3 : List Value := spanF 1 (-1) spanC span2
abbrev span4 : List Value := spanF 0 (-1) spanD span3
def spanT : List Value := putL (putL span4 (0 + 28 * 2) [vI 4, vI 4]) (0 + 8 * 2) [vI 2, vI (-1)]
theorem spanT_row {k : Nat} (h : k < 33) : (spanT.drop (0 + k * 2)).take 2 = [vI (leastK k), vI (mostK k)] := by
  match k, h with
  | 0, _ | 1, _ | 2, _ | 3, _ | 4, _ | 5, _ | 6, _ | 7, _ | 8, _ | 9, _ | 10, _ | 11, _ | 12, _ | 13, _ | 14, _ | 15, _ | 16, _ | 17, _ | 18, _ | 19, _ | 20, _ | 21, _ | 22, _ | 23, _ | 24, _ | 25, _ | 26, _ | 27, _ | 28, _ | 29, _ | 30, _ | 31, _ | 32, _ => rfl
  | k + 33, h => exact absurd h Hs
theorem spanT_all : (spanT.drop 0).take 66 = spanT := rfl
theorem spanT_one : spanT.all oneC = true := rfl
theorem spanT_put : putL span0 0 spanT = spanT := rfl
theorem spanT_len : spanT.length = 66 := rfl
abbrev eNatI (k : Nat) : List D := [.val (.int .i64 (k : Int))]
theorem ks33A : ∀ k ∈ spanA, k < 33 := by decide
theorem ks33B : ∀ k ∈ spanB, k < 33 := by decide
theorem ks33C : ∀ k ∈ spanC, k < 33 := by decide
theorem ks33D : ∀ k ∈ spanD, k < 33 := by decide
attribute [local irreducible] AC AT AO AK AH ACalls ACallsX ACallsD Sub Res.cells Res.obj Res.nix Res.own Res.map Exit.then Exit.inBlock Exit.noGoto bodyPost bodyPostD Code.wp Code.wpIn WL Next Post PostX Kont
attribute [local irreducible] spanF spanT
section
variable {W0 : World} {L : List Res} {F : List Fact} {R : Value → List Res → List Fact → Prop}
set_option maxRecDepth 100000
set_option maxHeartbeats 4000000
theorem spans_c (h : R (.agg spanT.toArray) L F) : ACalls Tryd.prog W0 17 #[] L F R := by
  refine GC Tryd.func17 Hq Tryd.ntmps17 Hq ?_
  refine qs 2 ?_
  refine Gc (GH Hq (fun b0 => ?_))
  refine qs 4 ?_
  refine Gc (GH Hq (fun b1 => ?_))
  refine qs 5 ?_
  refine Gc (Gt (cs := spanA.map fun k : Nat => vI k) Hq Hq Hq Hq Hq Hq (fun b10 => ?_))
  rw [show (spanA.map fun k : Nat => vI k).map eV = spanA.map eNatI from rfl]
  refine Gc (GS Hq Hq (fun hl11 => ?_) (hm := by repeat (first | exact mem0 | assumption | refine memS ?_)))
  refine qs 4 ?_
  refine GN (fun (q : Nat) => q ≤ 11) (fun q => [(0, .pointer (some ⟨b0, 0, none⟩)), (1, .pointer (some ⟨b1, 0, none⟩)), (10, .slice (some ⟨b10, 0, none⟩) 11 11), (11, .int .i64 11), (12, .int .i64 (q : Int))]) (fun q => Res.cells b1 (spanF 1 (1) (spanA.take q) span0).toArray 47 :: Res.cells b0 span0.toArray 47 :: L) (fun _ => _) (fun q => 11 - q) 0 (Nat.zero_le _) srA (Sub.ofEq (by simp only [spanF0]; rfl)) ?_
  rintro q hq
  refine qs 2 ?_
  refine Gc (GP Hq Hq Hq (fun c13 => ?_) (fun c13 => ?_))
  ·refine qs 10 ?_
   have hql : q < spanA.length := (show q < 11 by omega)
   have h33 := ks33A _ (List.getElem_mem hql)
   refine Gc (GA Hq Hq Hq Hq (enc := eNatI) (lst := spanA) memA hql (fun _ _ => ?_))
   refine Gc (Ho Hq Hq ?_)
   intros
   refine qs 6 ?_
   refine Gc (AO.indexP (j := spanA[q]) Hq Hq Hq Hq h33 ?_)
   refine Gc (Hi (vs := [vI 1, vI (1)]) Hq Hq Hq Hq ?_ (ho := by rw [Nat.ble_eq, spanF_len]; first | exact (show 0 + spanA[q] * 2 + 2 ≤ 66 by omega) | (simp only [spanF_len]; exact (show 0 + spanA[q] * 2 + 2 ≤ 66 by omega))))
   rw [spanF_step hql]
   refine qs 7 ?_
   refine GE (q + 1) Hs Hs srA subF
  refine qs 12 ?_
  have hq9 : q = 11 := by omega
  subst hq9
  refine Gc (Gt (cs := spanB.map fun k : Nat => vI k) Hq Hq Hq Hq Hq Hq (fun b20 => ?_))
  rw [show (spanB.map fun k : Nat => vI k).map eV = spanB.map eNatI from rfl]
  refine Gc (GS Hq Hq (fun hl21 => ?_) (hm := by repeat (first | exact mem0 | assumption | refine memS ?_)))
  refine qs 4 ?_
  refine GN (fun (q : Nat) => q ≤ 6) (fun q => [(0, .pointer (some ⟨b0, 0, none⟩)), (1, .pointer (some ⟨b1, 0, none⟩)), (20, .slice (some ⟨b20, 0, none⟩) 6 6), (21, .int .i64 6), (22, .int .i64 (q : Int))]) (fun q => Res.cells b1 (spanF 2 (2) (spanB.take q) span1).toArray 47 :: Res.cells b0 span0.toArray 47 :: L) (fun _ => _) (fun q => 6 - q) 0 (Nat.zero_le _) srA (Sub.ofEq (by simp only [spanF0]; rfl)) ?_
  rintro q hq
  refine qs 2 ?_
  refine Gc (GP Hq Hq Hq (fun c23 => ?_) (fun c23 => ?_))
  ·refine qs 10 ?_
   have hql : q < spanB.length := (show q < 6 by omega)
   have h33 := ks33B _ (List.getElem_mem hql)
   refine Gc (GA Hq Hq Hq Hq (enc := eNatI) (lst := spanB) memA hql (fun _ _ => ?_))
   refine Gc (Ho Hq Hq ?_)
   intros
   refine qs 6 ?_
   refine Gc (AO.indexP (j := spanB[q]) Hq Hq Hq Hq h33 ?_)
   refine Gc (Hi (vs := [vI 2, vI (2)]) Hq Hq Hq Hq ?_ (ho := by rw [Nat.ble_eq, spanF_len]; first | exact (show 0 + spanB[q] * 2 + 2 ≤ 66 by omega) | (simp only [spanF_len]; exact (show 0 + spanB[q] * 2 + 2 ≤ 66 by omega))))
   rw [spanF_step hql]
   refine qs 7 ?_
   refine GE (q + 1) Hs Hs srA subF
  refine qs 12 ?_
  have hq9 : q = 6 := by omega
  subst hq9
  refine Gc (Gt (cs := spanC.map fun k : Nat => vI k) Hq Hq Hq Hq Hq Hq (fun b30 => ?_))
  rw [show (spanC.map fun k : Nat => vI k).map eV = spanC.map eNatI from rfl]
  refine Gc (GS Hq Hq (fun hl31 => ?_) (hm := by repeat (first | exact mem0 | assumption | refine memS ?_)))
  refine qs 4 ?_
  refine GN (fun (q : Nat) => q ≤ 3) (fun q => [(0, .pointer (some ⟨b0, 0, none⟩)), (1, .pointer (some ⟨b1, 0, none⟩)), (30, .slice (some ⟨b30, 0, none⟩) 3 3), (31, .int .i64 3), (32, .int .i64 (q : Int))]) (fun q => Res.cells b1 (spanF 1 (-1) (spanC.take q) span2).toArray 47 :: Res.cells b0 span0.toArray 47 :: L) (fun _ => _) (fun q => 3 - q) 0 (Nat.zero_le _) srA (Sub.ofEq (by simp only [spanF0]; rfl)) ?_
  rintro q hq
  refine qs 2 ?_
  refine Gc (GP Hq Hq Hq (fun c33 => ?_) (fun c33 => ?_))
  ·refine qs 10 ?_
   have hql : q < spanC.length := (show q < 3 by omega)
   have h33 := ks33C _ (List.getElem_mem hql)
   refine Gc (GA Hq Hq Hq Hq (enc := eNatI) (lst := spanC) memA hql (fun _ _ => ?_))
   refine Gc (Ho Hq Hq ?_)
   intros
   refine qs 6 ?_
   refine Gc (AO.indexP (j := spanC[q]) Hq Hq Hq Hq h33 ?_)
   refine Gc (Hi (vs := [vI 1, vI (-1)]) Hq Hq Hq Hq ?_ (ho := by rw [Nat.ble_eq, spanF_len]; first | exact (show 0 + spanC[q] * 2 + 2 ≤ 66 by omega) | (simp only [spanF_len]; exact (show 0 + spanC[q] * 2 + 2 ≤ 66 by omega))))
   rw [spanF_step hql]
   refine qs 7 ?_
   refine GE (q + 1) Hs Hs srA subF
  refine qs 12 ?_
  have hq9 : q = 3 := by omega
  subst hq9
  refine Gc (Gt (cs := spanD.map fun k : Nat => vI k) Hq Hq Hq Hq Hq Hq (fun b40 => ?_))
  rw [show (spanD.map fun k : Nat => vI k).map eV = spanD.map eNatI from rfl]
  refine Gc (GS Hq Hq (fun hl41 => ?_) (hm := by repeat (first | exact mem0 | assumption | refine memS ?_)))
  refine qs 4 ?_
  refine GN (fun (q : Nat) => q ≤ 4) (fun q => [(0, .pointer (some ⟨b0, 0, none⟩)), (1, .pointer (some ⟨b1, 0, none⟩)), (40, .slice (some ⟨b40, 0, none⟩) 4 4), (41, .int .i64 4), (42, .int .i64 (q : Int))]) (fun q => Res.cells b1 (spanF 0 (-1) (spanD.take q) span3).toArray 47 :: Res.cells b0 span0.toArray 47 :: L) (fun _ => _) (fun q => 4 - q) 0 (Nat.zero_le _) srA (Sub.ofEq (by simp only [spanF0]; rfl)) ?_
  rintro q hq
  refine qs 2 ?_
  refine Gc (GP Hq Hq Hq (fun c43 => ?_) (fun c43 => ?_))
  ·refine qs 10 ?_
   have hql : q < spanD.length := (show q < 4 by omega)
   have h33 := ks33D _ (List.getElem_mem hql)
   refine Gc (GA Hq Hq Hq Hq (enc := eNatI) (lst := spanD) memA hql (fun _ _ => ?_))
   refine Gc (Ho Hq Hq ?_)
   intros
   refine qs 6 ?_
   refine Gc (AO.indexP (j := spanD[q]) Hq Hq Hq Hq h33 ?_)
   refine Gc (Hi (vs := [vI 0, vI (-1)]) Hq Hq Hq Hq ?_ (ho := by rw [Nat.ble_eq, spanF_len]; first | exact (show 0 + spanD[q] * 2 + 2 ≤ 66 by omega) | (simp only [spanF_len]; exact (show 0 + spanD[q] * 2 + 2 ≤ 66 by omega))))
   rw [spanF_step hql]
   refine qs 7 ?_
   refine GE (q + 1) Hs Hs srA subF
  refine qs 11 ?_
  have hq9 : q = 4 := by omega
  subst hq9
  refine Gc (AO.build Hq Hq Hq ?_)
  refine qs 1 ?_
  refine Gc (AO.indexP (j := 28) Hq Hq Hq Hq (show 28 < 33 by omega) ?_)
  refine Gc (Hi (vs := [vI 4, vI 4]) Hq Hq Hq Hq ?_ (ho := by rw [Nat.ble_eq, spanF_len, spanF_len, spanF_len, spanF_len]; exact (show 0 + 28 * 2 + 2 ≤ 66 by omega)))
  refine Gc (AO.indexP (j := 8) Hq Hq Hq Hq (show 8 < 33 by omega) ?_)
  refine Gc (Hi (vs := [vI 2, vI (-1)]) Hq Hq Hq Hq ?_ (ho := by rw [Nat.ble_eq, putL_length, spanF_len, spanF_len, spanF_len, spanF_len]; exact (show 0 + 8 * 2 + 2 ≤ 66 by omega)))
  refine qs 4 ?_
  refine Gx (Sub.ofEq (L' := Res.cells b1 spanT.toArray 47 :: Res.cells b0 span0.toArray 47 :: L) (by unfold spanT; rfl)) ?_
  refine Gc (AO.loadBA Hq Hq ?_ (hk := by rw [spanT_len]; rfl))
  rw [show (spanT.drop 0).take 66 = spanT from spanT_all]
  refine Gc (Hi (i := 1) (vs := spanT) Hq Hq spanT_one spanT_len ?_ (hi := Hq) (ho := by rw [spanT_len]; rfl))
  rw [show putL span0 0 spanT = spanT from spanT_put]
  refine qs 3 ?_
  exact AK.retV (rs := [.cell 0 _]) (L' := L) (F' := F) Tryd.results17 (.agg (j := 1) rfl rfl (by rw [spanT_len]; rfl) .nil) subA (by rw [show (spanT.drop 0).take 66 = spanT from spanT_all]; exact h)
end
end Go.Sy
namespace Go.Sy
open Go Go.Proofs Go.RowKit
abbrev eBl (b : Bool) : List D := [.val (.bool b)]
abbrev fB (l : List Bool) (a : Option Addr) (k c : Nat) : Fact := .slc (.slice a k c) 1 (l.map eBl)
theorem setMB {M : List Bool} {v : Bool} {q : Nat} : (M.map Value.bool).set (0 + q * 1) (.bool v) = (M.set q v).map Value.bool := by
  rw [Nat.zero_add, Nat.mul_one, ← List.map_set]
theorem getMB {M : List Bool} {q : Nat} (hq : q < M.length) : (M.map Value.bool)[0 + q * 1]? = some (.bool (M.getD q false)) := by
  rw [Nat.zero_add, Nat.mul_one, List.getElem?_map, List.getElem?_eq_getElem hq, List.getD_eq_getElem?_getD, List.getElem?_eq_getElem hq]; rfl
attribute [local irreducible] AC AT AO AK AH ACalls ACallsX ACallsD Sub Res.cells Res.obj Res.nix Res.own Res.map Exit.then Exit.inBlock Exit.noGoto bodyPost bodyPostD Code.wp Code.wpIn WL Next Post PostX Kont
attribute [local irreducible] spanF spanT
section
variable {W0 : World} {L : List Res} {F : List Fact} {R : Value → List Res → List Fact → Prop}
set_option maxRecDepth 100000
set_option maxHeartbeats 4000000
theorem indexF_c (l : List Bool) {a : Option Addr} {k c : Nat} (mB : fB l a k c ∈ F) (hY : ∀ i : Int, 0 ≤ i → (∃ b ∈ l, b = false) → R (.int .i64 i) L F) (hN : (∀ b ∈ l, b ≠ false) → R (.int .i64 (-1)) L F) : ACalls Tryd.prog W0 32 #[.slice a k c, .bool false] L F R := by
  refine GC Tryd.func32 Hq Tryd.ntmps32 Hq ?_
  refine qs 9 ?_
  refine Gc (GS Hq Hq (fun hl7 => ?_) (enc := eBl) (lst := l) (hm := memA))
  refine qs 4 ?_
  refine GN (fun (q : Nat) => q ≤ l.length ∧ ∀ j (hj : j < l.length), j < q → l[j] ≠ false) (fun q => [(0, .slice a k c), (1, .bool false), (7, .int .i64 l.length), (8, .int .i64 (q : Int))]) (fun _ => L) (fun _ => F) (fun q => l.length - q) 0 ⟨Nat.zero_le _, fun _ _ h => absurd h (Nat.not_lt_zero _)⟩ srA (Ga _ _) ?_
  rintro q ⟨hq, hno⟩
  refine qs 2 ?_
  refine Gc (GP Hq Hq Hq (fun c9 => ?_) (fun c9 => ?_))
  ·refine qs 19 ?_
   have hql : q < l.length := by omega
   refine Gc (GA Hq Hq Hq Hq (enc := eBl) (lst := l) memA hql (fun _ _ => ?_))
   refine Gc (Ho Hq Hq ?_)
   intros
   refine Gc (AO.eqlB Hq Hq Hq ?_)
   refine qs 2 ?_
   refine AC.cond Hq (fun c16 => ?_) (fun c16 => ?_)
   ·refine qs 12 ?_
    exact Gg Tryd.results32 rfl subF (hY _ Hs ⟨_, List.getElem_mem hql, (by simpa using c16)⟩)
   refine qs 7 ?_
   refine GE (q + 1) ⟨by omega, fun j hj hjq => ?_⟩ Hs srA subF
   rcases Nat.lt_succ_iff_lt_or_eq.1 hjq with h | rfl
   · exact hno j hj h
   simpa using c16
  refine qs 15 ?_
  exact Gg Tryd.results32 rfl (Ga _ _) (hN (fun b hb => by
  obtain ⟨j, hj, rfl⟩ := List.mem_iff_getElem.1 hb
  exact hno j hj Hs))
theorem hasF_c (l : List Bool) {a : Option Addr} {k c : Nat} (mB : fB l a k c ∈ F) (hY : (∃ b ∈ l, b = false) → R (.bool true) L F) (hN : (∀ b ∈ l, b ≠ false) → R (.bool false) L F) : ACalls Tryd.prog W0 18 #[.slice a k c, .bool false] L F R := by
  refine GC Tryd.func18 Hq Tryd.ntmps18 Hq ?_
  refine qs 9 ?_
  refine Gc (Gj Hq Hq (indexF_c l mB (fun i hi he => ?_) (fun he => ?_)))
  ·refine Gc (AO.geq Hq Hq Hq (fun c8 => ?_) (fun c8 => ?_))
   ·refine qs 4 ?_
    first | exact Gg Tryd.results18 rfl (Ga _ _) (hY he) | exact Gg Tryd.results18 rfl (Ga _ _) (hN he) | exact (show False by omega).elim
   refine qs 4 ?_
   first | exact Gg Tryd.results18 rfl (Ga _ _) (hY he) | exact Gg Tryd.results18 rfl (Ga _ _) (hN he) | exact (show False by omega).elim
  refine Gc (AO.geq Hq Hq Hq (fun c8 => ?_) (fun c8 => ?_))
  ·refine qs 4 ?_
   first | exact Gg Tryd.results18 rfl (Ga _ _) (hY he) | exact Gg Tryd.results18 rfl (Ga _ _) (hN he) | exact (show False by omega).elim
  refine qs 4 ?_
  first | exact Gg Tryd.results18 rfl (Ga _ _) (hY he) | exact Gg Tryd.results18 rfl (Ga _ _) (hN he) | exact (show False by omega).elim
theorem right_c (l : List Nod) {a : Option Addr} {k c : Nat} (mL : fNod l a k c ∈ F) (hT : RightN l → R (.bool true) L F) (hF : ¬RightN l → R (.bool false) L F) : ACalls Tryd.prog W0 9 #[.slice a k c] L F R := by
  refine GC Tryd.func9 Hq Tryd.ntmps9 Hq ?_
  refine qs 9 ?_
  refine Gc (GS Hq Hq (fun hl11 => ?_) (hm := by repeat (first | exact mem0 | assumption | refine memS ?_)))
  refine Gc (GP Hq Hq Hq (fun c12 => ?_) (fun c12 => ?_))
  ·refine qs 15 ?_
   exact Gg Tryd.results9 rfl (Ga _ _) (hF (fun hr => by have := hr.one; omega))
  refine qs 2 ?_
  refine Gk Hq Hq (GS Hq Hq (fun hl15 => ?_) (hm := by repeat (first | exact mem0 | assumption | refine memS ?_)))
  refine Gk Hq Hq (GV Hq Hq Hq (fun c16 => ?_) (fun c16 => ?_))
  ·refine qs 11 ?_
   exact Gg Tryd.results9 rfl (Ga _ _) (hF (fun hr => by have := hr.many; omega))
  refine qs 8 ?_
  refine Gc (Gj Hq Hq (spans_c ?_))
  refine Gc (GH Hq (fun b3 => ?_))
  refine Gx (Sub.ofEq (L' := Res.cells b3 span0.toArray 47 :: L) Hq) ?_
  refine Gc (Hi (vs := spanT) Hq Hq spanT_one spanT_len ?_ (ho := by rw [spanT_len]; rfl))
  rw [show putL span0 0 spanT = spanT from spanT_put]
  refine qs 5 ?_
  refine Gc (GS Hq Hq (fun hl20 => ?_) (hm := by repeat (first | exact mem0 | assumption | refine memS ?_)))
  refine Gc (AO.makeSlice1 (m := l.length) Hq Hq Hq Hs Hs Hs Hq (fun b21 => ?_))
  refine Gx (Sub.ofEq (L' := Res.cells b21 ((usedL l.length ((l.take 0).flatMap Nod.kids)).map Value.bool).toArray 4 :: Res.cells b3 spanT.toArray 47 :: L) (by simp [usedL_nil])) ?_
  refine qs 7 ?_
  refine Gc (GS Hq Hq (fun hl23 => ?_) (hm := by repeat (first | exact mem0 | assumption | refine memS ?_)))
  refine qs 4 ?_
  refine GN (fun (q : Nat) => q ≤ l.length ∧ PreR l q) (fun q => [(0, .slice a k c), (3, .pointer (some ⟨b3, 0, none⟩)), (4, .slice (some ⟨b21, 0, none⟩) l.length l.length), (22, .slice a k c), (23, .int .i64 l.length), (24, .int .i64 (q : Int))]) (fun q => Res.cells b21 ((usedL l.length ((l.take q).flatMap Nod.kids)).map Value.bool).toArray 4 :: Res.cells b3 spanT.toArray 47 :: L) (fun _ => F) (fun q => l.length - q) 0 ⟨Nat.zero_le _, pre0⟩ srA (Ga _ _) ?_
  rintro q ⟨hq, hpre⟩
  refine qs 2 ?_
  refine Gc (GP Hq Hq Hq (fun c25 => ?_) (fun c25 => ?_))
  ·refine qs 11 ?_
   have hql : q < l.length := by omega
   refine Gc (GA Hq Hq Hq Hq (enc := eNod) (lst := l) memA hql (fun _ _ => ?_))
   refine Gc (GY Hq Hq ?_)
   intro a28 k28 c28
   refine Gc (GH Hq (fun b6 => ?_))
   refine qs 9 ?_
   refine Gc (GP Hq Hq Hq (fun c31 => ?_) (fun c31 => ?_))
   ·refine qs 30 ?_
    exact Gg (L' := L) (F' := F) Tryd.results9 rfl subA (hF (fun hr => by have hn := hr.node q l[q] (List.getElem?_eq_getElem hql); omega))
   refine qs 3 ?_
   refine Gk Hq Hq (GV Hq Hq Hq (fun c35 => ?_) (fun c35 => ?_))
   ·refine qs 26 ?_
    exact Gg (L' := L) (F' := F) Tryd.results9 rfl subA (hF (fun hr => by have hn := hr.node q l[q] (List.getElem?_eq_getElem hql); omega))
   refine qs 4 ?_
   refine Gk Hq Hq (GP Hq Hq Hq (fun c40 => ?_) (fun c40 => ?_))
   ·refine qs 21 ?_
    exact Gg (L' := L) (F' := F) Tryd.results9 rfl subA (hF (fun hr => by have hn := hr.node q l[q] (List.getElem?_eq_getElem hql); omega))
   refine qs 4 ?_
   refine Gk Hq Hq (GV Hq Hq Hq (fun c45 => ?_) (fun c45 => ?_))
   ·refine qs 16 ?_
    exact Gg (L' := L) (F' := F) Tryd.results9 rfl subA (hF (fun hr => by have hn := hr.node q l[q] (List.getElem?_eq_getElem hql); omega))
   refine qs 10 ?_
   have hkn : l[q].kind = ((l[q].kind.toNat : Nat) : Int) := by omega
   have h33 : l[q].kind.toNat < 33 := by omega
   have hki := kidsOk_iff l[q].kind.toNat l[q].kids.length
   rw [← hkn] at hki
   refine Gc (AO.indexP (j := l[q].kind.toNat) Hq Hq Hq hkn h33 ?_)
   refine Gc (AO.loadBA Hq Hq ?_ (hk := by rw [spanT_len, Nat.ble_eq]; omega))
   rw [spanT_row h33]
   refine Gc (GH Hq (fun b7 => ?_))
   refine qs 8 ?_
   refine Gc (GS Hq Hq (fun hl53 => ?_) (enc := eInt) (lst := l[q].kids) (hm := memA))
   refine qs 2 ?_
   refine Gc (GP Hq Hq Hq (fun c56 => ?_) (fun c56 => ?_))
   ·refine qs 28 ?_
    exact Gg (L' := L) (F' := F) Tryd.results9 rfl subA (hF (fun hr => by have hn := hr.node q l[q] (List.getElem?_eq_getElem hql); have := hki.1 hn.2.2.1; omega))
   refine qs 3 ?_
   refine Gk Hq Hq (AO.geq Hq Hq Hq (fun c60 => ?_) (fun c60 => ?_))
   ·refine qs 3 ?_
    refine Gk Hq Hq (GS Hq Hq (fun hl64 => ?_) (enc := eInt) (lst := l[q].kids) (hm := memA))
    refine qs 2 ?_
    refine Gk Hq Hq (GV Hq Hq Hq (fun c67 => ?_) (fun c67 => ?_))
    ·refine qs 17 ?_
     exact Gg (L' := L) (F' := F) Tryd.results9 rfl subA (hF (fun hr => by have hn := hr.node q l[q] (List.getElem?_eq_getElem hql); have := hki.1 hn.2.2.1; omega))
    refine qs 11 ?_
    have hok := hki.2 ⟨by omega, by omega⟩
    refine Gc (GS Hq Hq (fun hl72 => ?_) (enc := eInt) (lst := l[q].kids) (hm := memA))
    refine qs 4 ?_
    refine GN (fun (v : Nat) => v ≤ l[q].kids.length ∧ PreK l q l[q] v) (fun v => [(0, .slice a k c), (3, .pointer (some ⟨b3, 0, none⟩)), (4, .slice (some ⟨b21, 0, none⟩) l.length l.length), (5, .int .i64 (q : Int)), (22, .slice a k c), (23, .int .i64 l.length), (24, .int .i64 (q : Int)), (71, .slice a28 k28 c28), (72, .int .i64 l[q].kids.length), (73, .int .i64 (v : Int))]) (fun v => Res.cells b21 ((usedL l.length ((l.take q).flatMap Nod.kids ++ l[q].kids.take v)).map Value.bool).toArray 4 :: Res.cells b3 spanT.toArray 47 :: L) (fun _ => _) (fun v => l[q].kids.length - v) 0 ⟨Nat.zero_le _, preK0 hpre⟩ srA (Sub.drop.trans (Sub.drop.trans (Sub.ofEq (by simp)))) ?_
    rintro v ⟨hv, hpk⟩
    refine qs 2 ?_
    refine Gc (GP Hq Hq Hq (fun c74 => ?_) (fun c74 => ?_))
    ·refine qs 10 ?_
     have hvl : v < l[q].kids.length := by omega
     refine Gc (GA Hq Hq Hq Hq (enc := eInt) (lst := l[q].kids) memA hvl (fun _ _ => ?_))
     refine Gc (Ho Hq Hq ?_)
     intros
     refine qs 7 ?_
     refine Gc (GP Hq Hq Hq (fun c78 => ?_) (fun c78 => ?_))
     ·refine qs 30 ?_
      exact Gg (L' := L) (F' := F) Tryd.results9 rfl subA (hF (fun hr => by have := hr.kid hql hvl; omega))
     refine qs 3 ?_
     refine Gk Hq Hq (AO.geq Hq Hq Hq (fun c82 => ?_) (fun c82 => ?_))
     ·refine qs 26 ?_
      exact Gg (L' := L) (F' := F) Tryd.results9 rfl subA (hF (fun hr => by have := hr.kid hql hvl; omega))
     refine qs 4 ?_
     have hul := usedL_len l.length ((l.take q).flatMap Nod.kids ++ l[q].kids.take v)
     have hkv : l[q].kids[v] = ((l[q].kids[v].toNat : Nat) : Int) := by omega
     refine Gk Hq Hq (AO.ofY (Y.indexAddr (k := l[q].kids[v].toNat) Hq Hq hkv Hs) Hq ?_)
     refine Gk Hq Hq (GI (v := .bool ((usedL l.length ((l.take q).flatMap Nod.kids ++ l[q].kids.take v)).getD l[q].kids[v].toNat false)) Hq Hq ?_ (hv := getMB Hs))
     rw [usedL_get _ (show l[q].kids[v].toNat < l.length by omega), ← hkv]
     refine qs 3 ?_
     refine AC.cond Hq (fun c89 => ?_) (fun c89 => ?_)
     ·refine qs 16 ?_
      exact Gg (L' := L) (F' := F) Tryd.results9 rfl subA (hF (fun hr => (hr.kid hql hvl).2 (by simpa using c89)))
     refine qs 5 ?_
     refine Gc (AO.ofY (Y.indexAddr (k := l[q].kids[v].toNat) Hq Hq hkv Hs) Hq ?_)
     refine Gc (Hp (v := .bool true) (cs := (usedL l.length ((l.take q).flatMap Nod.kids ++ l[q].kids.take v)).map Value.bool) Hq Hq Hq ?_ (ho := by show Nat.ble _ _ = true; rw [Nat.ble_eq, List.length_map, hul]; omega))
     rw [setMB, usedL_set, ← hkv, List.append_assoc, show l[q].kids.take v ++ [l[q].kids[v]] = l[q].kids.take (v + 1) from (List.take_succ_eq_append_getElem hvl).symm]
     refine qs 7 ?_
     refine GE (v + 1) ⟨by omega, hpk.step hvl ⟨by omega, by omega⟩ (by simpa using c89)⟩ Hs srA subF
    refine qs 14 ?_
    refine GE (q + 1) ⟨by omega, hpre.step hql ⟨by omega, by omega⟩ ⟨by omega, by omega⟩ hok hpk Hs⟩ Hs srA ?_
    rw [take_kids hql, show l[q].kids.take v = l[q].kids from List.take_of_length_le Hs]
    exact subF
   refine qs 18 ?_
   have hok := hki.2 ⟨by omega, by omega⟩
   refine Gc (GS Hq Hq (fun hl72 => ?_) (enc := eInt) (lst := l[q].kids) (hm := memA))
   refine qs 4 ?_
   refine GN (fun (v : Nat) => v ≤ l[q].kids.length ∧ PreK l q l[q] v) (fun v => [(0, .slice a k c), (3, .pointer (some ⟨b3, 0, none⟩)), (4, .slice (some ⟨b21, 0, none⟩) l.length l.length), (5, .int .i64 (q : Int)), (22, .slice a k c), (23, .int .i64 l.length), (24, .int .i64 (q : Int)), (71, .slice a28 k28 c28), (72, .int .i64 l[q].kids.length), (73, .int .i64 (v : Int))]) (fun v => Res.cells b21 ((usedL l.length ((l.take q).flatMap Nod.kids ++ l[q].kids.take v)).map Value.bool).toArray 4 :: Res.cells b3 spanT.toArray 47 :: L) (fun _ => _) (fun v => l[q].kids.length - v) 0 ⟨Nat.zero_le _, preK0 hpre⟩ srA (Sub.drop.trans (Sub.drop.trans (Sub.ofEq (by simp)))) ?_
   rintro v ⟨hv, hpk⟩
   refine qs 2 ?_
   refine Gc (GP Hq Hq Hq (fun c74 => ?_) (fun c74 => ?_))
   ·refine qs 10 ?_
    have hvl : v < l[q].kids.length := by omega
    refine Gc (GA Hq Hq Hq Hq (enc := eInt) (lst := l[q].kids) memA hvl (fun _ _ => ?_))
    refine Gc (Ho Hq Hq ?_)
    intros
    refine qs 7 ?_
    refine Gc (GP Hq Hq Hq (fun c78 => ?_) (fun c78 => ?_))
    ·refine qs 30 ?_
     exact Gg (L' := L) (F' := F) Tryd.results9 rfl subA (hF (fun hr => by have := hr.kid hql hvl; omega))
    refine qs 3 ?_
    refine Gk Hq Hq (AO.geq Hq Hq Hq (fun c82 => ?_) (fun c82 => ?_))
    ·refine qs 26 ?_
     exact Gg (L' := L) (F' := F) Tryd.results9 rfl subA (hF (fun hr => by have := hr.kid hql hvl; omega))
    refine qs 4 ?_
    have hul := usedL_len l.length ((l.take q).flatMap Nod.kids ++ l[q].kids.take v)
    have hkv : l[q].kids[v] = ((l[q].kids[v].toNat : Nat) : Int) := by omega
    refine Gk Hq Hq (AO.ofY (Y.indexAddr (k := l[q].kids[v].toNat) Hq Hq hkv Hs) Hq ?_)
    refine Gk Hq Hq (GI (v := .bool ((usedL l.length ((l.take q).flatMap Nod.kids ++ l[q].kids.take v)).getD l[q].kids[v].toNat false)) Hq Hq ?_ (hv := getMB Hs))
    rw [usedL_get _ (show l[q].kids[v].toNat < l.length by omega), ← hkv]
    refine qs 3 ?_
    refine AC.cond Hq (fun c89 => ?_) (fun c89 => ?_)
    ·refine qs 16 ?_
     exact Gg (L' := L) (F' := F) Tryd.results9 rfl subA (hF (fun hr => (hr.kid hql hvl).2 (by simpa using c89)))
    refine qs 5 ?_
    refine Gc (AO.ofY (Y.indexAddr (k := l[q].kids[v].toNat) Hq Hq hkv Hs) Hq ?_)
    refine Gc (Hp (v := .bool true) (cs := (usedL l.length ((l.take q).flatMap Nod.kids ++ l[q].kids.take v)).map Value.bool) Hq Hq Hq ?_ (ho := by show Nat.ble _ _ = true; rw [Nat.ble_eq, List.length_map, hul]; omega))
    rw [setMB, usedL_set, ← hkv, List.append_assoc, show l[q].kids.take v ++ [l[q].kids[v]] = l[q].kids.take (v + 1) from (List.take_succ_eq_append_getElem hvl).symm]
    refine qs 7 ?_
    refine GE (v + 1) ⟨by omega, hpk.step hvl ⟨by omega, by omega⟩ (by simpa using c89)⟩ Hs srA subF
   refine qs 14 ?_
   refine GE (q + 1) ⟨by omega, hpre.step hql ⟨by omega, by omega⟩ ⟨by omega, by omega⟩ hok hpk Hs⟩ Hs srA ?_
   rw [take_kids hql, show l[q].kids.take v = l[q].kids from List.take_of_length_le Hs]
   exact subF
  refine qs 11 ?_
  have hq9 : q = l.length := by omega
  subst hq9
  rw [show l.take l.length = l from List.take_of_length_le (Nat.le_refl _)]
  refine Gx ((Sub.lit (i := 0) (enc := eBl) (sz := 1) (k := l.length) (usedL l.length (l.flatMap Nod.kids)) Hq (cells_B _) (fun _ => rfl) (usedL_len _ _) (by simp only [maxLen]; omega)).trans Ge) ?_
  refine Gc (AO.move Hq Hq ?_)
  refine qs 1 ?_
  refine Gc (GS Hq Hq (fun hl97 => ?_) (hm := by repeat (first | exact mem0 | assumption | refine memS ?_)))
  refine qs 1 ?_
  refine Gc (AO.sliceH (j' := l.length - 1) Hq Hq Hq Hs (enc := eBl) (lst := usedL l.length (l.flatMap Nod.kids)) memA (by rw [usedL_len]; omega) (fun a99 k99 c99 => ?_))
  refine Gc (Gj Hq Hq (hasF_c _ mem0 (fun he => ?_) (fun he => ?_)))
  ·refine qs 5 ?_
   first | exact Gg (L' := L) (F' := F) Tryd.results9 rfl subA (hT (hpre.right Hs Hs he)) | exact Gg (L' := L) (F' := F) Tryd.results9 rfl subA (hF (fun hr => by obtain ⟨b, hb, e⟩ := he; exact hr.allU b hb e))
  refine qs 5 ?_
  first | exact Gg (L' := L) (F' := F) Tryd.results9 rfl subA (hT (hpre.right Hs Hs he)) | exact Gg (L' := L) (F' := F) Tryd.results9 rfl subA (hF (fun hr => by obtain ⟨b, hb, e⟩ := he; exact hr.allU b hb e))
end
end Go.Sy
namespace Go.Sy
open Go Go.Proofs Go.RowKit
structure TreeR (B : Except (Nat × Int) (List Nod)) (m : Nat) (l : List Nod) (i : Nat) (e : Int) : Prop where
  ok : e = 0 → B = .ok l ∧ RightN l ∧ ∀ n ∈ l, n.pos ≤ m
  bad : e ≠ 0 → l = [] ∧ i ≤ m ∧ ∃ x, B = .error x
theorem TreeR.many {B : Except (Nat × Int) (List Nod)} {m : Nat} {l : List Nod} {i : Nat} {e : Int} (h : TreeR B m l i e) : l.length ≤ 2000 := by
  by_cases he : e = 0
  · exact (h.ok he).2.1.many
  rw [(h.bad he).1]; exact Nat.zero_le _
theorem TreeR.at {B : Except (Nat × Int) (List Nod)} {m : Nat} {l : List Nod} {i : Nat} {e : Int} (h : TreeR B m l i e) : ∀ n ∈ l, n.pos ≤ m := by
  by_cases he : e = 0
  · exact (h.ok he).2.2
  rw [(h.bad he).1]; intro n hn; cases hn
theorem treeR_ok {rule : List Tk → Except (Nat × Int) (List Nd)} (hr : ∀ K, Wf K → match rule K with
    | .ok l => ∃ v, TreeP l v
    | .error (i, e) => i < K.length ∧ (e = 5 ∨ e = 6 ∨ e = 7)) {s : Bs} (hs : s.length ≤ 4000) {l : List Nod} (h : treeB rule s = .ok l) : TreeR (treeB rule s) s.length l 0 0 := by
  have := treeB_ok hr s hs
  rw [h] at this ⊢
  exact ⟨fun _ => ⟨rfl, this⟩, fun h => absurd rfl h⟩
theorem treeR_bad {rule : List Tk → Except (Nat × Int) (List Nd)} (hr : ∀ K, Wf K → match rule K with
    | .ok l => ∃ v, TreeP l v
    | .error (i, e) => i < K.length ∧ (e = 5 ∨ e = 6 ∨ e = 7)) {s : Bs} (hs : s.length ≤ 4000) {i : Nat} {e : Int} (h : treeB rule s = .error (i, e)) : TreeR (treeB rule s) s.length [] i e := by
  have := treeB_ok hr s hs
  rw [h] at this ⊢
  exact ⟨fun he => by rcases this.2 with q | q | q | q <;> (rw [he] at q; exact absurd q (by decide)), fun _ => ⟨rfl, this.1, _, rfl⟩⟩
theorem fileR_ok {s : Bs} (hs : s.length ≤ 4000) {l : List Nod} (h : fileB s = .ok l) : TreeR (fileB s) s.length l 0 0 := treeR_ok (rule := pfileAll) (fun _ w => fileAll_tree w) hs h
theorem fileR_bad {s : Bs} (hs : s.length ≤ 4000) {i : Nat} {e : Int} (h : fileB s = .error (i, e)) : TreeR (fileB s) s.length [] i e := treeR_bad (rule := pfileAll) (fun _ w => fileAll_tree w) hs h
theorem exprR_ok {s : Bs} (hs : s.length ≤ 4000) {l : List Nod} (h : exprB s = .ok l) : TreeR (exprB s) s.length l 0 0 := treeR_ok (rule := pexprAll) (fun _ w => exprAll_tree w) hs h
theorem exprR_bad {s : Bs} (hs : s.length ≤ 4000) {i : Nat} {e : Int} (h : exprB s = .error (i, e)) : TreeR (exprB s) s.length [] i e := treeR_bad (rule := pexprAll) (fun _ w => exprAll_tree w) hs h
theorem last32 {s : Bs} {l : List Nod} (h : fileB s = .ok l) (hl : l.length - 1 < l.length) : l[l.length - 1].kind = 32 := by
  obtain ⟨_, l', nd, rfl, e⟩ := Gq h
  simpa using e
def aliveL : List Nod := [⟨1, [97], [], 0⟩, ⟨1, [98], [], 2⟩, ⟨2, [50], [], 4⟩, ⟨10, [42], [1, 2], 2⟩, ⟨10, [43], [0, 3], 0⟩]
theorem alive_eq : exprB [97, 43, 98, 42, 50] = .ok aliveL := by kernel_rfl
theorem ScanG.more {W0 : World} {F F' : List Fact} (g : ScanG W0 F) (h : ∀ x ∈ F, x ∈ F') : ScanG W0 F' := ⟨g.big, h _ g.ops, h _ g.keys⟩
attribute [local irreducible] AC AT AO AK AH ACalls ACallsX ACallsD Sub Res.cells Res.obj Res.nix Res.own Res.map Exit.then Exit.inBlock Exit.noGoto bodyPost bodyPostD Code.wp Code.wpIn WL Next Post PostX Kont
attribute [local irreducible] exprB fileB
section
variable {W0 : World} {L : List Res} {F : List Fact} {R : Value → List Res → List Fact → Prop}
set_option maxRecDepth 100000
set_option maxHeartbeats 4000000
theorem eNod_one : ∀ (x : Nod) (d : D), d ∈ eNod x → ∀ v, d = .val v → oneC v = true := by
  intro x d hd v hv
  subst hv
  simp only [List.mem_cons, D.val.injEq, List.not_mem_nil, or_false, reduceCtorEq] at hd
  rcases hd with rfl | rfl | h | rfl
  · rfl
  · rfl
  · exact h.elim
  rfl
theorem file_s (g : ScanG W0 F) (mN : fNo ∈ F) (m4 : fNod [] none 0 0 ∈ F) (s : Bs) (hs : s.length ≤ 4000) (h : ∀ l i e a k c F', TreeR (fileB s) s.length l i e → fNod l a k c ∈ F' → (∀ x ∈ F, x ∈ F') → R (.tuple #[.slice a k c, .int .i64 (i : Nat), .int .i64 e]) L F') : ACalls Tryd.prog W0 8 #[S s] L F R :=
  file_c g mN s Hs (fun l hl a k c => h l 0 0 a k c _ (fileR_ok hs hl) mem0 (fun x hx => memS hx)) (fun i e hl => h [] i e none 0 0 _ (fileR_bad hs hl) m4 (fun x hx => hx))
theorem expr_s (g : ScanG W0 F) (mN : fNo ∈ F) (m4 : fNod [] none 0 0 ∈ F) (s : Bs) (hs : s.length ≤ 4000) (h : ∀ l i e a k c F', TreeR (exprB s) s.length l i e → fNod l a k c ∈ F' → (∀ x ∈ F, x ∈ F') → R (.tuple #[.slice a k c, .int .i64 (i : Nat), .int .i64 e]) L F') : ACalls Tryd.prog W0 5 #[S s] L F R :=
  expr_c g mN s Hs (fun l hl a k c => h l 0 0 a k c _ (exprR_ok hs hl) mem0 (fun x hx => memS hx)) (fun i e hl => h [] i e none 0 0 _ (exprR_bad hs hl) m4 (fun x hx => hx))
theorem alive_c (g : ScanG W0 F) (mN : fNo ∈ F) (h : R (.bool true) L F) : ACalls Tryd.prog W0 7 #[] L F R := by
  refine GC Tryd.func7 Hq Tryd.ntmps7 Hq ?_
  refine qs 7 ?_
  refine Gc (Gj Hq Hq (expr_c g mN [97, 43, 98, 42, 50] (by decide) (fun l hl a5 k5 c5 => ?_) (fun i e hl => by rw [alive_eq] at hl; cases hl)))
  obtain rfl : aliveL = l := by rw [alive_eq] at hl; injection hl
  refine qs 12 ?_
  refine Gc (Gv Hq Hq Hq (fun c10 => ?_) (fun c10 => ?_))
  ·refine qs 2 ?_
   refine Gk Hq Hq (GS Hq Hq (fun hl13 => ?_) (hm := by repeat (first | exact mem0 | assumption | refine memS ?_)))
   refine Gk Hq Hq (Gv Hq Hq Hq (fun c14 => ?_) (fun c14 => ?_))
   ·refine qs 3 ?_
    refine Gk Hq Hq (GA (k := 4) Hq Hq Hq Hq (enc := eNod) (lst := aliveL) memA (by decide) (fun _ _ => ?_))
    refine Gk Hq Hq (AO.fieldAt Hq Hq (fun _ => ?_))
    refine Gk Hq Hq (Ho Hq Hq ?_)
    intros
    refine Gk Hq Hq (AO.eqlS Hq Hq Hq (fun c21 => ?_) (fun c21 => ?_))
    ·refine qs 3 ?_
     refine Gk Hq Hq (GA (k := 3) Hq Hq Hq Hq (enc := eNod) (lst := aliveL) memA (by decide) (fun _ _ => ?_))
     refine Gk Hq Hq (AO.fieldAt Hq Hq (fun _ => ?_))
     refine Gk Hq Hq (Ho Hq Hq ?_)
     intros
     refine Gk Hq Hq (AO.eqlS Hq Hq Hq (fun c28 => ?_) (fun c28 => ?_))
     ·refine qs 5 ?_
      first | exact Gg (L' := L) (F' := F) Tryd.results7 rfl subF h | exact absurd rfl c10 | exact absurd c14 (by decide) | exact absurd c21 (by decide) | exact absurd c28 (by decide)
     refine qs 5 ?_
     first | exact Gg (L' := L) (F' := F) Tryd.results7 rfl subF h | exact absurd rfl c10 | exact absurd c14 (by decide) | exact absurd c21 (by decide) | exact absurd c28 (by decide)
    refine qs 12 ?_
    first | exact Gg (L' := L) (F' := F) Tryd.results7 rfl subF h | exact absurd rfl c10 | exact absurd c14 (by decide) | exact absurd c21 (by decide) | exact absurd c28 (by decide)
   refine qs 19 ?_
   first | exact Gg (L' := L) (F' := F) Tryd.results7 rfl subF h | exact absurd rfl c10 | exact absurd c14 (by decide) | exact absurd c21 (by decide) | exact absurd c28 (by decide)
  refine qs 23 ?_
  first | exact Gg (L' := L) (F' := F) Tryd.results7 rfl subF h | exact absurd rfl c10 | exact absurd c14 (by decide) | exact absurd c21 (by decide) | exact absurd c28 (by decide)
theorem parseTrees_c (g0 : ScanG W0 F) (s : Bs) (h : R (.bool true) L F) : ACalls Tryd.prog W0 4 #[S s] L F R := by
  have g : ScanG W0 (fNod [] none 0 0 :: fNo :: F) := g0.more (fun x hx => memS (memS hx))
  have m4 : fNod [] none 0 0 ∈ fNod [] none 0 0 :: fNo :: F := mem0
  have mN : fNo ∈ fNod [] none 0 0 :: fNo :: F := memS mem0
  have hF : ∀ x ∈ F, x ∈ fNod [] none 0 0 :: fNo :: F := fun x hx => memS (memS hx)
  have h3 : (s.take 3000).length ≤ 4000 := by simp; omega
  refine GC Tryd.func4 Hq Tryd.ntmps4 Hq ?_
  refine qs 10 ?_
  refine Gc (AO.min Hq Hq Hq ?_)
  refine Gc (AO.sliceSH (j' := min s.length 3000) Hq Hq Hq Hs Hs ?_)
  have hcut : s.take (min s.length 3000) = s.take 3000 := by
   rcases Nat.le_total s.length 3000 with q | q
   · rw [Nat.min_eq_left q, List.take_of_length_le (Nat.le_refl _), List.take_of_length_le q]
   rw [Nat.min_eq_right q]
  rw [hcut]
  generalize s.take 3000 = t at h3
  refine Gx ((Sub.nilF (sz := 1)).trans (Sub.nilF (sz := 4))) ?_
  refine qs 6 ?_
  refine Gc (Gj Hq Hq (file_s g mN m4 t h3 (fun l i e a18 k18 c18 F1 hr1 mL1 hs1 => ?_)))
  refine qs 13 ?_
  refine Gc (GJ Hq Hq Hq (fun c23 => ?_) (fun c23 => ?_))
  ·refine qs 2 ?_
   refine Gk Hq Hq (GS Hq Hq (fun hl26 => ?_) (hm := by repeat (first | exact mem0 | assumption | refine memS ?_)))
   refine Gk Hq Hq (GJ Hq Hq Hq (fun c27 => ?_) (fun c27 => ?_))
   ·refine qs 40 ?_
    exact absurd (by rw [(hr1.bad c23).1]; rfl) c27
   refine qs 2 ?_
   refine Gk Hq Hq (GP Hq Hq Hq (fun c30 => ?_) (fun c30 => ?_))
   ·refine qs 37 ?_
    exact (show False by omega).elim
   refine qs 5 ?_
   refine Gk Hq Hq (GV Hq Hq Hq (fun c36 => ?_) (fun c36 => ?_))
   ·refine qs 31 ?_
    exact (show False by have := (hr1.bad c23).2.1; omega).elim
   refine qs 4 ?_
   refine Gk Hq Hq (Gv Hq Hq Hq (fun c41 => ?_) (fun c41 => ?_))
   ·refine qs 2 ?_
    refine Gk Hq Hq (Gj Hq Hq (right_c l mL1 (fun hr => ?_) (fun hr => absurd (hr1.ok c41).2.1 hr)))
    refine qs 4 ?_
    refine Gk Hq Hq (GS Hq Hq (fun hl49 => ?_) (hm := by repeat (first | exact mem0 | assumption | refine memS ?_)))
    refine qs 1 ?_
    have hl1 := (hr1.ok c41).2.1.one
    have hk32 := last32 (hr1.ok c41).1 Hs
    refine Gk Hq Hq (GA (k := l.length - 1) Hq Hq Hq Hs (enc := eNod) (lst := l) memA Hs (fun _ _ => ?_))
    refine Gk Hq Hq (AO.fieldAt Hq Hq (fun _ => ?_))
    refine Gk Hq Hq (Ho Hq Hq ?_)
    intros
    refine Gk Hq Hq (GJ Hq Hq Hq (fun c54 => ?_) (fun c54 => ?_))
    ·refine qs 13 ?_
     exact absurd hk32 c54
    refine qs 11 ?_
    have g2 := g.more hs1
    refine Gx (L' := L) (F' := F1) subF ?_
    refine Gc (Gj Hq Hq (expr_s g2 (hs1 _ mN) (hs1 _ m4) t h3 (fun l2 i2 e2 a60 k60 c60 F2 hr2 mL2 hs2 => ?_)))
    have mL1' := hs2 _ mL1
    have hm1 := hr1.many
    have hm2 := hr2.many
    refine qs 13 ?_
    refine Gc (GJ Hq Hq Hq (fun c65 => ?_) (fun c65 => ?_))
    ·refine qs 2 ?_
     refine Gk Hq Hq (GS Hq Hq (fun hl68 => ?_) (hm := by repeat (first | exact mem0 | assumption | refine memS ?_)))
     refine Gk Hq Hq (GJ Hq Hq Hq (fun c69 => ?_) (fun c69 => ?_))
     ·refine qs 30 ?_
      exact absurd (by rw [(hr2.bad c65).1]; rfl) c69
     refine qs 2 ?_
     refine Gk Hq Hq (GP Hq Hq Hq (fun c72 => ?_) (fun c72 => ?_))
     ·refine qs 27 ?_
      exact (show False by omega).elim
     refine qs 5 ?_
     refine Gk Hq Hq (GV Hq Hq Hq (fun c78 => ?_) (fun c78 => ?_))
     ·refine qs 21 ?_
      exact (show False by have := (hr2.bad c65).2.1; omega).elim
     refine qs 4 ?_
     refine Gk Hq Hq (Gv Hq Hq Hq (fun c83 => ?_) (fun c83 => ?_))
     ·refine qs 2 ?_
      refine Gk Hq Hq (Gj Hq Hq (right_c l2 mL2 (fun hr => ?_) (fun hr => absurd (hr2.ok c83).2.1 hr)))
      refine qs 11 ?_
      refine Gc (GQ Hq (fun b90 => ?_))
      refine Gx (GX (i := 0) (k := 0) (sz := 4) (enc := eNod) [] Hq .nil (fun _ => rfl) Hq (by decide)) ?_
      refine qs 1 ?_
      refine Gc (GB (i := 0) (enc := eNod) (lst := []) (lst2 := l) Hq Hq Hq Hq memA eNod_one (fun _ => rfl) (by simp only [List.length_nil, maxLen]; omega) (by simp only [List.length_nil]; omega) (fun a92 k92 c92 => ?_))
      rw [List.nil_append]
      refine qs 1 ?_
      refine Gc (GB (i := 0) (enc := eNod) (lst := l) (lst2 := l2) Hq Hq Hq Hq memA eNod_one (fun _ => rfl) (by simp only [maxLen]; omega) Hs (fun a94 k94 c94 => ?_))
      refine Gx ((Gz (i := 0) Hq).trans Ge) ?_
      have hlen : (l ++ l2).length ≤ 4000 := by rw [List.length_append]; omega
      refine Gc (GS Hq Hq (fun hl95 => ?_) (enc := eNod) (lst := l ++ l2) (hm := memA))
      refine qs 4 ?_
      refine GN (fun (q : Nat) => q ≤ (l ++ l2).length) (fun q => [(0, S t), (5, .int .i64 e), (8, .int .i64 e2), (94, .slice a94 k94 c94), (95, .int .i64 (l ++ l2).length), (96, .int .i64 (q : Int))]) (fun _ => L) (fun _ => _) (fun q => (l ++ l2).length - q) 0 (Nat.zero_le _) srA (Ga _ _) ?_
      rintro q hq
      refine qs 2 ?_
      refine Gc (GP Hq Hq Hq (fun c97 => ?_) (fun c97 => ?_))
      ·refine qs 10 ?_
       have hql : q < (l ++ l2).length := by omega
       refine Gc (GA Hq Hq Hq Hq (enc := eNod) (lst := l ++ l2) memA hql (fun _ _ => ?_))
       refine Gc (GY Hq Hq ?_)
       intro a99 k99 c99
       refine Gc (GH Hq (fun b10 => ?_))
       refine qs 9 ?_
       refine Gc (GV Hq Hq Hq (fun c104 => ?_) (fun c104 => ?_))
       ·refine qs 14 ?_
        exact (show False by
         have hp : (l ++ l2)[q].pos ≤ t.length := by
           rcases List.mem_append.1 (List.getElem_mem hql) with hm | hm
           · exact hr1.at _ hm
           exact hr2.at _ hm
         omega).elim
       refine qs 10 ?_
       refine GE (q + 1) Hs Hs srA subA
      refine qs 11 ?_
      refine Gc (Gj Hq Hq (alive_c ((g2.more hs2).more (fun x hx => memS hx)) (memS (hs2 _ (hs1 _ mN))) ?_))
      refine qs 2 ?_
      refine Gk Hq Hq (GJ Hq Hq Hq (fun c109 => ?_) (fun c109 => ?_))
      ·refine qs 9 ?_
       first
       | exact Gg (L' := L) (F' := F) Tryd.results4 rfl (Gb (fun x hx => memS (hs2 _ (hs1 _ (hF x hx))))) h
       | exact (show False by
          have h1 := (hr1.ok Hs).1
          have h2 := (hr2.ok Hs).1
          obtain ⟨⟨x, hx⟩, _⟩ := Gq h1
          rw [h2] at hx
          cases hx).elim
      refine qs 2 ?_
      refine Gk Hq Hq (GJ Hq Hq Hq (fun c112 => ?_) (fun c112 => ?_))
      ·refine qs 6 ?_
       first
       | exact Gg (L' := L) (F' := F) Tryd.results4 rfl (Gb (fun x hx => memS (hs2 _ (hs1 _ (hF x hx))))) h
       | exact (show False by
          have h1 := (hr1.ok Hs).1
          have h2 := (hr2.ok Hs).1
          obtain ⟨⟨x, hx⟩, _⟩ := Gq h1
          rw [h2] at hx
          cases hx).elim
      refine qs 6 ?_
      first
      | exact Gg (L' := L) (F' := F) Tryd.results4 rfl (Gb (fun x hx => memS (hs2 _ (hs1 _ (hF x hx))))) h
      | exact (show False by
         have h1 := (hr1.ok Hs).1
         have h2 := (hr2.ok Hs).1
         obtain ⟨⟨x, hx⟩, _⟩ := Gq h1
         rw [h2] at hx
         cases hx).elim
     refine qs 14 ?_
     refine Gc (GQ Hq (fun b90 => ?_))
     refine Gx (GX (i := 0) (k := 0) (sz := 4) (enc := eNod) [] Hq .nil (fun _ => rfl) Hq (by decide)) ?_
     refine qs 1 ?_
     refine Gc (GB (i := 0) (enc := eNod) (lst := []) (lst2 := l) Hq Hq Hq Hq memA eNod_one (fun _ => rfl) (by simp only [List.length_nil, maxLen]; omega) (by simp only [List.length_nil]; omega) (fun a92 k92 c92 => ?_))
     rw [List.nil_append]
     refine qs 1 ?_
     refine Gc (GB (i := 0) (enc := eNod) (lst := l) (lst2 := l2) Hq Hq Hq Hq memA eNod_one (fun _ => rfl) (by simp only [maxLen]; omega) Hs (fun a94 k94 c94 => ?_))
     refine Gx ((Gz (i := 0) Hq).trans Ge) ?_
     have hlen : (l ++ l2).length ≤ 4000 := by rw [List.length_append]; omega
     refine Gc (GS Hq Hq (fun hl95 => ?_) (enc := eNod) (lst := l ++ l2) (hm := memA))
     refine qs 4 ?_
     refine GN (fun (q : Nat) => q ≤ (l ++ l2).length) (fun q => [(0, S t), (5, .int .i64 e), (8, .int .i64 e2), (94, .slice a94 k94 c94), (95, .int .i64 (l ++ l2).length), (96, .int .i64 (q : Int))]) (fun _ => L) (fun _ => _) (fun q => (l ++ l2).length - q) 0 (Nat.zero_le _) srA (Ga _ _) ?_
     rintro q hq
     refine qs 2 ?_
     refine Gc (GP Hq Hq Hq (fun c97 => ?_) (fun c97 => ?_))
     ·refine qs 10 ?_
      have hql : q < (l ++ l2).length := by omega
      refine Gc (GA Hq Hq Hq Hq (enc := eNod) (lst := l ++ l2) memA hql (fun _ _ => ?_))
      refine Gc (GY Hq Hq ?_)
      intro a99 k99 c99
      refine Gc (GH Hq (fun b10 => ?_))
      refine qs 9 ?_
      refine Gc (GV Hq Hq Hq (fun c104 => ?_) (fun c104 => ?_))
      ·refine qs 14 ?_
       exact (show False by
        have hp : (l ++ l2)[q].pos ≤ t.length := by
          rcases List.mem_append.1 (List.getElem_mem hql) with hm | hm
          · exact hr1.at _ hm
          exact hr2.at _ hm
        omega).elim
      refine qs 10 ?_
      refine GE (q + 1) Hs Hs srA subA
     refine qs 11 ?_
     refine Gc (Gj Hq Hq (alive_c ((g2.more hs2).more (fun x hx => memS hx)) (memS (hs2 _ (hs1 _ mN))) ?_))
     refine qs 2 ?_
     refine Gk Hq Hq (GJ Hq Hq Hq (fun c109 => ?_) (fun c109 => ?_))
     ·refine qs 9 ?_
      first
      | exact Gg (L' := L) (F' := F) Tryd.results4 rfl (Gb (fun x hx => memS (hs2 _ (hs1 _ (hF x hx))))) h
      | exact (show False by
         have h1 := (hr1.ok Hs).1
         have h2 := (hr2.ok Hs).1
         obtain ⟨⟨x, hx⟩, _⟩ := Gq h1
         rw [h2] at hx
         cases hx).elim
     refine qs 2 ?_
     refine Gk Hq Hq (GJ Hq Hq Hq (fun c112 => ?_) (fun c112 => ?_))
     ·refine qs 6 ?_
      first
      | exact Gg (L' := L) (F' := F) Tryd.results4 rfl (Gb (fun x hx => memS (hs2 _ (hs1 _ (hF x hx))))) h
      | exact (show False by
         have h1 := (hr1.ok Hs).1
         have h2 := (hr2.ok Hs).1
         obtain ⟨⟨x, hx⟩, _⟩ := Gq h1
         rw [h2] at hx
         cases hx).elim
     refine qs 6 ?_
     first
     | exact Gg (L' := L) (F' := F) Tryd.results4 rfl (Gb (fun x hx => memS (hs2 _ (hs1 _ (hF x hx))))) h
     | exact (show False by
        have h1 := (hr1.ok Hs).1
        have h2 := (hr2.ok Hs).1
        obtain ⟨⟨x, hx⟩, _⟩ := Gq h1
        rw [h2] at hx
        cases hx).elim
    refine qs 17 ?_
    refine Gk Hq Hq (Gv Hq Hq Hq (fun c83 => ?_) (fun c83 => ?_))
    ·refine qs 2 ?_
     refine Gk Hq Hq (Gj Hq Hq (right_c l2 mL2 (fun hr => ?_) (fun hr => absurd (hr2.ok c83).2.1 hr)))
     refine qs 11 ?_
     refine Gc (GQ Hq (fun b90 => ?_))
     refine Gx (GX (i := 0) (k := 0) (sz := 4) (enc := eNod) [] Hq .nil (fun _ => rfl) Hq (by decide)) ?_
     refine qs 1 ?_
     refine Gc (GB (i := 0) (enc := eNod) (lst := []) (lst2 := l) Hq Hq Hq Hq memA eNod_one (fun _ => rfl) (by simp only [List.length_nil, maxLen]; omega) (by simp only [List.length_nil]; omega) (fun a92 k92 c92 => ?_))
     rw [List.nil_append]
     refine qs 1 ?_
     refine Gc (GB (i := 0) (enc := eNod) (lst := l) (lst2 := l2) Hq Hq Hq Hq memA eNod_one (fun _ => rfl) (by simp only [maxLen]; omega) Hs (fun a94 k94 c94 => ?_))
     refine Gx ((Gz (i := 0) Hq).trans Ge) ?_
     have hlen : (l ++ l2).length ≤ 4000 := by rw [List.length_append]; omega
     refine Gc (GS Hq Hq (fun hl95 => ?_) (enc := eNod) (lst := l ++ l2) (hm := memA))
     refine qs 4 ?_
     refine GN (fun (q : Nat) => q ≤ (l ++ l2).length) (fun q => [(0, S t), (5, .int .i64 e), (8, .int .i64 e2), (94, .slice a94 k94 c94), (95, .int .i64 (l ++ l2).length), (96, .int .i64 (q : Int))]) (fun _ => L) (fun _ => _) (fun q => (l ++ l2).length - q) 0 (Nat.zero_le _) srA (Ga _ _) ?_
     rintro q hq
     refine qs 2 ?_
     refine Gc (GP Hq Hq Hq (fun c97 => ?_) (fun c97 => ?_))
     ·refine qs 10 ?_
      have hql : q < (l ++ l2).length := by omega
      refine Gc (GA Hq Hq Hq Hq (enc := eNod) (lst := l ++ l2) memA hql (fun _ _ => ?_))
      refine Gc (GY Hq Hq ?_)
      intro a99 k99 c99
      refine Gc (GH Hq (fun b10 => ?_))
      refine qs 9 ?_
      refine Gc (GV Hq Hq Hq (fun c104 => ?_) (fun c104 => ?_))
      ·refine qs 14 ?_
       exact (show False by
        have hp : (l ++ l2)[q].pos ≤ t.length := by
          rcases List.mem_append.1 (List.getElem_mem hql) with hm | hm
          · exact hr1.at _ hm
          exact hr2.at _ hm
        omega).elim
      refine qs 10 ?_
      refine GE (q + 1) Hs Hs srA subA
     refine qs 11 ?_
     refine Gc (Gj Hq Hq (alive_c ((g2.more hs2).more (fun x hx => memS hx)) (memS (hs2 _ (hs1 _ mN))) ?_))
     refine qs 2 ?_
     refine Gk Hq Hq (GJ Hq Hq Hq (fun c109 => ?_) (fun c109 => ?_))
     ·refine qs 9 ?_
      first
      | exact Gg (L' := L) (F' := F) Tryd.results4 rfl (Gb (fun x hx => memS (hs2 _ (hs1 _ (hF x hx))))) h
      | exact (show False by
         have h1 := (hr1.ok Hs).1
         have h2 := (hr2.ok Hs).1
         obtain ⟨⟨x, hx⟩, _⟩ := Gq h1
         rw [h2] at hx
         cases hx).elim
     refine qs 2 ?_
     refine Gk Hq Hq (GJ Hq Hq Hq (fun c112 => ?_) (fun c112 => ?_))
     ·refine qs 6 ?_
      first
      | exact Gg (L' := L) (F' := F) Tryd.results4 rfl (Gb (fun x hx => memS (hs2 _ (hs1 _ (hF x hx))))) h
      | exact (show False by
         have h1 := (hr1.ok Hs).1
         have h2 := (hr2.ok Hs).1
         obtain ⟨⟨x, hx⟩, _⟩ := Gq h1
         rw [h2] at hx
         cases hx).elim
     refine qs 6 ?_
     first
     | exact Gg (L' := L) (F' := F) Tryd.results4 rfl (Gb (fun x hx => memS (hs2 _ (hs1 _ (hF x hx))))) h
     | exact (show False by
        have h1 := (hr1.ok Hs).1
        have h2 := (hr2.ok Hs).1
        obtain ⟨⟨x, hx⟩, _⟩ := Gq h1
        rw [h2] at hx
        cases hx).elim
    refine qs 14 ?_
    refine Gc (GQ Hq (fun b90 => ?_))
    refine Gx (GX (i := 0) (k := 0) (sz := 4) (enc := eNod) [] Hq .nil (fun _ => rfl) Hq (by decide)) ?_
    refine qs 1 ?_
    refine Gc (GB (i := 0) (enc := eNod) (lst := []) (lst2 := l) Hq Hq Hq Hq memA eNod_one (fun _ => rfl) (by simp only [List.length_nil, maxLen]; omega) (by simp only [List.length_nil]; omega) (fun a92 k92 c92 => ?_))
    rw [List.nil_append]
    refine qs 1 ?_
    refine Gc (GB (i := 0) (enc := eNod) (lst := l) (lst2 := l2) Hq Hq Hq Hq memA eNod_one (fun _ => rfl) (by simp only [maxLen]; omega) Hs (fun a94 k94 c94 => ?_))
    refine Gx ((Gz (i := 0) Hq).trans Ge) ?_
    have hlen : (l ++ l2).length ≤ 4000 := by rw [List.length_append]; omega
    refine Gc (GS Hq Hq (fun hl95 => ?_) (enc := eNod) (lst := l ++ l2) (hm := memA))
    refine qs 4 ?_
    refine GN (fun (q : Nat) => q ≤ (l ++ l2).length) (fun q => [(0, S t), (5, .int .i64 e), (8, .int .i64 e2), (94, .slice a94 k94 c94), (95, .int .i64 (l ++ l2).length), (96, .int .i64 (q : Int))]) (fun _ => L) (fun _ => _) (fun q => (l ++ l2).length - q) 0 (Nat.zero_le _) srA (Ga _ _) ?_
    rintro q hq
    refine qs 2 ?_
    refine Gc (GP Hq Hq Hq (fun c97 => ?_) (fun c97 => ?_))
    ·refine qs 10 ?_
     have hql : q < (l ++ l2).length := by omega
     refine Gc (GA Hq Hq Hq Hq (enc := eNod) (lst := l ++ l2) memA hql (fun _ _ => ?_))
     refine Gc (GY Hq Hq ?_)
     intro a99 k99 c99
     refine Gc (GH Hq (fun b10 => ?_))
     refine qs 9 ?_
     refine Gc (GV Hq Hq Hq (fun c104 => ?_) (fun c104 => ?_))
     ·refine qs 14 ?_
      exact (show False by
       have hp : (l ++ l2)[q].pos ≤ t.length := by
         rcases List.mem_append.1 (List.getElem_mem hql) with hm | hm
         · exact hr1.at _ hm
         exact hr2.at _ hm
       omega).elim
     refine qs 10 ?_
     refine GE (q + 1) Hs Hs srA subA
    refine qs 11 ?_
    refine Gc (Gj Hq Hq (alive_c ((g2.more hs2).more (fun x hx => memS hx)) (memS (hs2 _ (hs1 _ mN))) ?_))
    refine qs 2 ?_
    refine Gk Hq Hq (GJ Hq Hq Hq (fun c109 => ?_) (fun c109 => ?_))
    ·refine qs 9 ?_
     first
     | exact Gg (L' := L) (F' := F) Tryd.results4 rfl (Gb (fun x hx => memS (hs2 _ (hs1 _ (hF x hx))))) h
     | exact (show False by
        have h1 := (hr1.ok Hs).1
        have h2 := (hr2.ok Hs).1
        obtain ⟨⟨x, hx⟩, _⟩ := Gq h1
        rw [h2] at hx
        cases hx).elim
    refine qs 2 ?_
    refine Gk Hq Hq (GJ Hq Hq Hq (fun c112 => ?_) (fun c112 => ?_))
    ·refine qs 6 ?_
     first
     | exact Gg (L' := L) (F' := F) Tryd.results4 rfl (Gb (fun x hx => memS (hs2 _ (hs1 _ (hF x hx))))) h
     | exact (show False by
        have h1 := (hr1.ok Hs).1
        have h2 := (hr2.ok Hs).1
        obtain ⟨⟨x, hx⟩, _⟩ := Gq h1
        rw [h2] at hx
        cases hx).elim
    refine qs 6 ?_
    first
    | exact Gg (L' := L) (F' := F) Tryd.results4 rfl (Gb (fun x hx => memS (hs2 _ (hs1 _ (hF x hx))))) h
    | exact (show False by
       have h1 := (hr1.ok Hs).1
       have h2 := (hr2.ok Hs).1
       obtain ⟨⟨x, hx⟩, _⟩ := Gq h1
       rw [h2] at hx
       cases hx).elim
   refine qs 24 ?_
   have g2 := g.more hs1
   refine Gx (L' := L) (F' := F1) subF ?_
   refine Gc (Gj Hq Hq (expr_s g2 (hs1 _ mN) (hs1 _ m4) t h3 (fun l2 i2 e2 a60 k60 c60 F2 hr2 mL2 hs2 => ?_)))
   have mL1' := hs2 _ mL1
   have hm1 := hr1.many
   have hm2 := hr2.many
   refine qs 13 ?_
   refine Gc (GJ Hq Hq Hq (fun c65 => ?_) (fun c65 => ?_))
   ·refine qs 2 ?_
    refine Gk Hq Hq (GS Hq Hq (fun hl68 => ?_) (hm := by repeat (first | exact mem0 | assumption | refine memS ?_)))
    refine Gk Hq Hq (GJ Hq Hq Hq (fun c69 => ?_) (fun c69 => ?_))
    ·refine qs 30 ?_
     exact absurd (by rw [(hr2.bad c65).1]; rfl) c69
    refine qs 2 ?_
    refine Gk Hq Hq (GP Hq Hq Hq (fun c72 => ?_) (fun c72 => ?_))
    ·refine qs 27 ?_
     exact (show False by omega).elim
    refine qs 5 ?_
    refine Gk Hq Hq (GV Hq Hq Hq (fun c78 => ?_) (fun c78 => ?_))
    ·refine qs 21 ?_
     exact (show False by have := (hr2.bad c65).2.1; omega).elim
    refine qs 4 ?_
    refine Gk Hq Hq (Gv Hq Hq Hq (fun c83 => ?_) (fun c83 => ?_))
    ·refine qs 2 ?_
     refine Gk Hq Hq (Gj Hq Hq (right_c l2 mL2 (fun hr => ?_) (fun hr => absurd (hr2.ok c83).2.1 hr)))
     refine qs 11 ?_
     refine Gc (GQ Hq (fun b90 => ?_))
     refine Gx (GX (i := 0) (k := 0) (sz := 4) (enc := eNod) [] Hq .nil (fun _ => rfl) Hq (by decide)) ?_
     refine qs 1 ?_
     refine Gc (GB (i := 0) (enc := eNod) (lst := []) (lst2 := l) Hq Hq Hq Hq memA eNod_one (fun _ => rfl) (by simp only [List.length_nil, maxLen]; omega) (by simp only [List.length_nil]; omega) (fun a92 k92 c92 => ?_))
     rw [List.nil_append]
     refine qs 1 ?_
     refine Gc (GB (i := 0) (enc := eNod) (lst := l) (lst2 := l2) Hq Hq Hq Hq memA eNod_one (fun _ => rfl) (by simp only [maxLen]; omega) Hs (fun a94 k94 c94 => ?_))
     refine Gx ((Gz (i := 0) Hq).trans Ge) ?_
     have hlen : (l ++ l2).length ≤ 4000 := by rw [List.length_append]; omega
     refine Gc (GS Hq Hq (fun hl95 => ?_) (enc := eNod) (lst := l ++ l2) (hm := memA))
     refine qs 4 ?_
     refine GN (fun (q : Nat) => q ≤ (l ++ l2).length) (fun q => [(0, S t), (5, .int .i64 e), (8, .int .i64 e2), (94, .slice a94 k94 c94), (95, .int .i64 (l ++ l2).length), (96, .int .i64 (q : Int))]) (fun _ => L) (fun _ => _) (fun q => (l ++ l2).length - q) 0 (Nat.zero_le _) srA (Ga _ _) ?_
     rintro q hq
     refine qs 2 ?_
     refine Gc (GP Hq Hq Hq (fun c97 => ?_) (fun c97 => ?_))
     ·refine qs 10 ?_
      have hql : q < (l ++ l2).length := by omega
      refine Gc (GA Hq Hq Hq Hq (enc := eNod) (lst := l ++ l2) memA hql (fun _ _ => ?_))
      refine Gc (GY Hq Hq ?_)
      intro a99 k99 c99
      refine Gc (GH Hq (fun b10 => ?_))
      refine qs 9 ?_
      refine Gc (GV Hq Hq Hq (fun c104 => ?_) (fun c104 => ?_))
      ·refine qs 14 ?_
       exact (show False by
        have hp : (l ++ l2)[q].pos ≤ t.length := by
          rcases List.mem_append.1 (List.getElem_mem hql) with hm | hm
          · exact hr1.at _ hm
          exact hr2.at _ hm
        omega).elim
      refine qs 10 ?_
      refine GE (q + 1) Hs Hs srA subA
     refine qs 11 ?_
     refine Gc (Gj Hq Hq (alive_c ((g2.more hs2).more (fun x hx => memS hx)) (memS (hs2 _ (hs1 _ mN))) ?_))
     refine qs 2 ?_
     refine Gk Hq Hq (GJ Hq Hq Hq (fun c109 => ?_) (fun c109 => ?_))
     ·refine qs 9 ?_
      first
      | exact Gg (L' := L) (F' := F) Tryd.results4 rfl (Gb (fun x hx => memS (hs2 _ (hs1 _ (hF x hx))))) h
      | exact (show False by
         have h1 := (hr1.ok Hs).1
         have h2 := (hr2.ok Hs).1
         obtain ⟨⟨x, hx⟩, _⟩ := Gq h1
         rw [h2] at hx
         cases hx).elim
     refine qs 2 ?_
     refine Gk Hq Hq (GJ Hq Hq Hq (fun c112 => ?_) (fun c112 => ?_))
     ·refine qs 6 ?_
      first
      | exact Gg (L' := L) (F' := F) Tryd.results4 rfl (Gb (fun x hx => memS (hs2 _ (hs1 _ (hF x hx))))) h
      | exact (show False by
         have h1 := (hr1.ok Hs).1
         have h2 := (hr2.ok Hs).1
         obtain ⟨⟨x, hx⟩, _⟩ := Gq h1
         rw [h2] at hx
         cases hx).elim
     refine qs 6 ?_
     first
     | exact Gg (L' := L) (F' := F) Tryd.results4 rfl (Gb (fun x hx => memS (hs2 _ (hs1 _ (hF x hx))))) h
     | exact (show False by
        have h1 := (hr1.ok Hs).1
        have h2 := (hr2.ok Hs).1
        obtain ⟨⟨x, hx⟩, _⟩ := Gq h1
        rw [h2] at hx
        cases hx).elim
    refine qs 14 ?_
    refine Gc (GQ Hq (fun b90 => ?_))
    refine Gx (GX (i := 0) (k := 0) (sz := 4) (enc := eNod) [] Hq .nil (fun _ => rfl) Hq (by decide)) ?_
    refine qs 1 ?_
    refine Gc (GB (i := 0) (enc := eNod) (lst := []) (lst2 := l) Hq Hq Hq Hq memA eNod_one (fun _ => rfl) (by simp only [List.length_nil, maxLen]; omega) (by simp only [List.length_nil]; omega) (fun a92 k92 c92 => ?_))
    rw [List.nil_append]
    refine qs 1 ?_
    refine Gc (GB (i := 0) (enc := eNod) (lst := l) (lst2 := l2) Hq Hq Hq Hq memA eNod_one (fun _ => rfl) (by simp only [maxLen]; omega) Hs (fun a94 k94 c94 => ?_))
    refine Gx ((Gz (i := 0) Hq).trans Ge) ?_
    have hlen : (l ++ l2).length ≤ 4000 := by rw [List.length_append]; omega
    refine Gc (GS Hq Hq (fun hl95 => ?_) (enc := eNod) (lst := l ++ l2) (hm := memA))
    refine qs 4 ?_
    refine GN (fun (q : Nat) => q ≤ (l ++ l2).length) (fun q => [(0, S t), (5, .int .i64 e), (8, .int .i64 e2), (94, .slice a94 k94 c94), (95, .int .i64 (l ++ l2).length), (96, .int .i64 (q : Int))]) (fun _ => L) (fun _ => _) (fun q => (l ++ l2).length - q) 0 (Nat.zero_le _) srA (Ga _ _) ?_
    rintro q hq
    refine qs 2 ?_
    refine Gc (GP Hq Hq Hq (fun c97 => ?_) (fun c97 => ?_))
    ·refine qs 10 ?_
     have hql : q < (l ++ l2).length := by omega
     refine Gc (GA Hq Hq Hq Hq (enc := eNod) (lst := l ++ l2) memA hql (fun _ _ => ?_))
     refine Gc (GY Hq Hq ?_)
     intro a99 k99 c99
     refine Gc (GH Hq (fun b10 => ?_))
     refine qs 9 ?_
     refine Gc (GV Hq Hq Hq (fun c104 => ?_) (fun c104 => ?_))
     ·refine qs 14 ?_
      exact (show False by
       have hp : (l ++ l2)[q].pos ≤ t.length := by
         rcases List.mem_append.1 (List.getElem_mem hql) with hm | hm
         · exact hr1.at _ hm
         exact hr2.at _ hm
       omega).elim
     refine qs 10 ?_
     refine GE (q + 1) Hs Hs srA subA
    refine qs 11 ?_
    refine Gc (Gj Hq Hq (alive_c ((g2.more hs2).more (fun x hx => memS hx)) (memS (hs2 _ (hs1 _ mN))) ?_))
    refine qs 2 ?_
    refine Gk Hq Hq (GJ Hq Hq Hq (fun c109 => ?_) (fun c109 => ?_))
    ·refine qs 9 ?_
     first
     | exact Gg (L' := L) (F' := F) Tryd.results4 rfl (Gb (fun x hx => memS (hs2 _ (hs1 _ (hF x hx))))) h
     | exact (show False by
        have h1 := (hr1.ok Hs).1
        have h2 := (hr2.ok Hs).1
        obtain ⟨⟨x, hx⟩, _⟩ := Gq h1
        rw [h2] at hx
        cases hx).elim
    refine qs 2 ?_
    refine Gk Hq Hq (GJ Hq Hq Hq (fun c112 => ?_) (fun c112 => ?_))
    ·refine qs 6 ?_
     first
     | exact Gg (L' := L) (F' := F) Tryd.results4 rfl (Gb (fun x hx => memS (hs2 _ (hs1 _ (hF x hx))))) h
     | exact (show False by
        have h1 := (hr1.ok Hs).1
        have h2 := (hr2.ok Hs).1
        obtain ⟨⟨x, hx⟩, _⟩ := Gq h1
        rw [h2] at hx
        cases hx).elim
    refine qs 6 ?_
    first
    | exact Gg (L' := L) (F' := F) Tryd.results4 rfl (Gb (fun x hx => memS (hs2 _ (hs1 _ (hF x hx))))) h
    | exact (show False by
       have h1 := (hr1.ok Hs).1
       have h2 := (hr2.ok Hs).1
       obtain ⟨⟨x, hx⟩, _⟩ := Gq h1
       rw [h2] at hx
       cases hx).elim
   refine qs 17 ?_
   refine Gk Hq Hq (Gv Hq Hq Hq (fun c83 => ?_) (fun c83 => ?_))
   ·refine qs 2 ?_
    refine Gk Hq Hq (Gj Hq Hq (right_c l2 mL2 (fun hr => ?_) (fun hr => absurd (hr2.ok c83).2.1 hr)))
    refine qs 11 ?_
    refine Gc (GQ Hq (fun b90 => ?_))
    refine Gx (GX (i := 0) (k := 0) (sz := 4) (enc := eNod) [] Hq .nil (fun _ => rfl) Hq (by decide)) ?_
    refine qs 1 ?_
    refine Gc (GB (i := 0) (enc := eNod) (lst := []) (lst2 := l) Hq Hq Hq Hq memA eNod_one (fun _ => rfl) (by simp only [List.length_nil, maxLen]; omega) (by simp only [List.length_nil]; omega) (fun a92 k92 c92 => ?_))
    rw [List.nil_append]
    refine qs 1 ?_
    refine Gc (GB (i := 0) (enc := eNod) (lst := l) (lst2 := l2) Hq Hq Hq Hq memA eNod_one (fun _ => rfl) (by simp only [maxLen]; omega) Hs (fun a94 k94 c94 => ?_))
    refine Gx ((Gz (i := 0) Hq).trans Ge) ?_
    have hlen : (l ++ l2).length ≤ 4000 := by rw [List.length_append]; omega
    refine Gc (GS Hq Hq (fun hl95 => ?_) (enc := eNod) (lst := l ++ l2) (hm := memA))
    refine qs 4 ?_
    refine GN (fun (q : Nat) => q ≤ (l ++ l2).length) (fun q => [(0, S t), (5, .int .i64 e), (8, .int .i64 e2), (94, .slice a94 k94 c94), (95, .int .i64 (l ++ l2).length), (96, .int .i64 (q : Int))]) (fun _ => L) (fun _ => _) (fun q => (l ++ l2).length - q) 0 (Nat.zero_le _) srA (Ga _ _) ?_
    rintro q hq
    refine qs 2 ?_
    refine Gc (GP Hq Hq Hq (fun c97 => ?_) (fun c97 => ?_))
    ·refine qs 10 ?_
     have hql : q < (l ++ l2).length := by omega
     refine Gc (GA Hq Hq Hq Hq (enc := eNod) (lst := l ++ l2) memA hql (fun _ _ => ?_))
     refine Gc (GY Hq Hq ?_)
     intro a99 k99 c99
     refine Gc (GH Hq (fun b10 => ?_))
     refine qs 9 ?_
     refine Gc (GV Hq Hq Hq (fun c104 => ?_) (fun c104 => ?_))
     ·refine qs 14 ?_
      exact (show False by
       have hp : (l ++ l2)[q].pos ≤ t.length := by
         rcases List.mem_append.1 (List.getElem_mem hql) with hm | hm
         · exact hr1.at _ hm
         exact hr2.at _ hm
       omega).elim
     refine qs 10 ?_
     refine GE (q + 1) Hs Hs srA subA
    refine qs 11 ?_
    refine Gc (Gj Hq Hq (alive_c ((g2.more hs2).more (fun x hx => memS hx)) (memS (hs2 _ (hs1 _ mN))) ?_))
    refine qs 2 ?_
    refine Gk Hq Hq (GJ Hq Hq Hq (fun c109 => ?_) (fun c109 => ?_))
    ·refine qs 9 ?_
     first
     | exact Gg (L' := L) (F' := F) Tryd.results4 rfl (Gb (fun x hx => memS (hs2 _ (hs1 _ (hF x hx))))) h
     | exact (show False by
        have h1 := (hr1.ok Hs).1
        have h2 := (hr2.ok Hs).1
        obtain ⟨⟨x, hx⟩, _⟩ := Gq h1
        rw [h2] at hx
        cases hx).elim
    refine qs 2 ?_
    refine Gk Hq Hq (GJ Hq Hq Hq (fun c112 => ?_) (fun c112 => ?_))
    ·refine qs 6 ?_
     first
     | exact Gg (L' := L) (F' := F) Tryd.results4 rfl (Gb (fun x hx => memS (hs2 _ (hs1 _ (hF x hx))))) h
     | exact (show False by
        have h1 := (hr1.ok Hs).1
        have h2 := (hr2.ok Hs).1
        obtain ⟨⟨x, hx⟩, _⟩ := Gq h1
        rw [h2] at hx
        cases hx).elim
    refine qs 6 ?_
    first
    | exact Gg (L' := L) (F' := F) Tryd.results4 rfl (Gb (fun x hx => memS (hs2 _ (hs1 _ (hF x hx))))) h
    | exact (show False by
       have h1 := (hr1.ok Hs).1
       have h2 := (hr2.ok Hs).1
       obtain ⟨⟨x, hx⟩, _⟩ := Gq h1
       rw [h2] at hx
       cases hx).elim
   refine qs 14 ?_
   refine Gc (GQ Hq (fun b90 => ?_))
   refine Gx (GX (i := 0) (k := 0) (sz := 4) (enc := eNod) [] Hq .nil (fun _ => rfl) Hq (by decide)) ?_
   refine qs 1 ?_
   refine Gc (GB (i := 0) (enc := eNod) (lst := []) (lst2 := l) Hq Hq Hq Hq memA eNod_one (fun _ => rfl) (by simp only [List.length_nil, maxLen]; omega) (by simp only [List.length_nil]; omega) (fun a92 k92 c92 => ?_))
   rw [List.nil_append]
   refine qs 1 ?_
   refine Gc (GB (i := 0) (enc := eNod) (lst := l) (lst2 := l2) Hq Hq Hq Hq memA eNod_one (fun _ => rfl) (by simp only [maxLen]; omega) Hs (fun a94 k94 c94 => ?_))
   refine Gx ((Gz (i := 0) Hq).trans Ge) ?_
   have hlen : (l ++ l2).length ≤ 4000 := by rw [List.length_append]; omega
   refine Gc (GS Hq Hq (fun hl95 => ?_) (enc := eNod) (lst := l ++ l2) (hm := memA))
   refine qs 4 ?_
   refine GN (fun (q : Nat) => q ≤ (l ++ l2).length) (fun q => [(0, S t), (5, .int .i64 e), (8, .int .i64 e2), (94, .slice a94 k94 c94), (95, .int .i64 (l ++ l2).length), (96, .int .i64 (q : Int))]) (fun _ => L) (fun _ => _) (fun q => (l ++ l2).length - q) 0 (Nat.zero_le _) srA (Ga _ _) ?_
   rintro q hq
   refine qs 2 ?_
   refine Gc (GP Hq Hq Hq (fun c97 => ?_) (fun c97 => ?_))
   ·refine qs 10 ?_
    have hql : q < (l ++ l2).length := by omega
    refine Gc (GA Hq Hq Hq Hq (enc := eNod) (lst := l ++ l2) memA hql (fun _ _ => ?_))
    refine Gc (GY Hq Hq ?_)
    intro a99 k99 c99
    refine Gc (GH Hq (fun b10 => ?_))
    refine qs 9 ?_
    refine Gc (GV Hq Hq Hq (fun c104 => ?_) (fun c104 => ?_))
    ·refine qs 14 ?_
     exact (show False by
      have hp : (l ++ l2)[q].pos ≤ t.length := by
        rcases List.mem_append.1 (List.getElem_mem hql) with hm | hm
        · exact hr1.at _ hm
        exact hr2.at _ hm
      omega).elim
    refine qs 10 ?_
    refine GE (q + 1) Hs Hs srA subA
   refine qs 11 ?_
   refine Gc (Gj Hq Hq (alive_c ((g2.more hs2).more (fun x hx => memS hx)) (memS (hs2 _ (hs1 _ mN))) ?_))
   refine qs 2 ?_
   refine Gk Hq Hq (GJ Hq Hq Hq (fun c109 => ?_) (fun c109 => ?_))
   ·refine qs 9 ?_
    first
    | exact Gg (L' := L) (F' := F) Tryd.results4 rfl (Gb (fun x hx => memS (hs2 _ (hs1 _ (hF x hx))))) h
    | exact (show False by
       have h1 := (hr1.ok Hs).1
       have h2 := (hr2.ok Hs).1
       obtain ⟨⟨x, hx⟩, _⟩ := Gq h1
       rw [h2] at hx
       cases hx).elim
   refine qs 2 ?_
   refine Gk Hq Hq (GJ Hq Hq Hq (fun c112 => ?_) (fun c112 => ?_))
   ·refine qs 6 ?_
    first
    | exact Gg (L' := L) (F' := F) Tryd.results4 rfl (Gb (fun x hx => memS (hs2 _ (hs1 _ (hF x hx))))) h
    | exact (show False by
       have h1 := (hr1.ok Hs).1
       have h2 := (hr2.ok Hs).1
       obtain ⟨⟨x, hx⟩, _⟩ := Gq h1
       rw [h2] at hx
       cases hx).elim
   refine qs 6 ?_
   first
   | exact Gg (L' := L) (F' := F) Tryd.results4 rfl (Gb (fun x hx => memS (hs2 _ (hs1 _ (hF x hx))))) h
   | exact (show False by
      have h1 := (hr1.ok Hs).1
      have h2 := (hr2.ok Hs).1
      obtain ⟨⟨x, hx⟩, _⟩ := Gq h1
      rw [h2] at hx
      cases hx).elim
  refine qs 17 ?_
  refine Gk Hq Hq (Gv Hq Hq Hq (fun c41 => ?_) (fun c41 => ?_))
  ·refine qs 2 ?_
   refine Gk Hq Hq (Gj Hq Hq (right_c l mL1 (fun hr => ?_) (fun hr => absurd (hr1.ok c41).2.1 hr)))
   refine qs 4 ?_
   refine Gk Hq Hq (GS Hq Hq (fun hl49 => ?_) (hm := by repeat (first | exact mem0 | assumption | refine memS ?_)))
   refine qs 1 ?_
   have hl1 := (hr1.ok c41).2.1.one
   have hk32 := last32 (hr1.ok c41).1 Hs
   refine Gk Hq Hq (GA (k := l.length - 1) Hq Hq Hq Hs (enc := eNod) (lst := l) memA Hs (fun _ _ => ?_))
   refine Gk Hq Hq (AO.fieldAt Hq Hq (fun _ => ?_))
   refine Gk Hq Hq (Ho Hq Hq ?_)
   intros
   refine Gk Hq Hq (GJ Hq Hq Hq (fun c54 => ?_) (fun c54 => ?_))
   ·refine qs 13 ?_
    exact absurd hk32 c54
   refine qs 11 ?_
   have g2 := g.more hs1
   refine Gx (L' := L) (F' := F1) subF ?_
   refine Gc (Gj Hq Hq (expr_s g2 (hs1 _ mN) (hs1 _ m4) t h3 (fun l2 i2 e2 a60 k60 c60 F2 hr2 mL2 hs2 => ?_)))
   have mL1' := hs2 _ mL1
   have hm1 := hr1.many
   have hm2 := hr2.many
   refine qs 13 ?_
   refine Gc (GJ Hq Hq Hq (fun c65 => ?_) (fun c65 => ?_))
   ·refine qs 2 ?_
    refine Gk Hq Hq (GS Hq Hq (fun hl68 => ?_) (hm := by repeat (first | exact mem0 | assumption | refine memS ?_)))
    refine Gk Hq Hq (GJ Hq Hq Hq (fun c69 => ?_) (fun c69 => ?_))
    ·refine qs 30 ?_
     exact absurd (by rw [(hr2.bad c65).1]; rfl) c69
    refine qs 2 ?_
    refine Gk Hq Hq (GP Hq Hq Hq (fun c72 => ?_) (fun c72 => ?_))
    ·refine qs 27 ?_
     exact (show False by omega).elim
    refine qs 5 ?_
    refine Gk Hq Hq (GV Hq Hq Hq (fun c78 => ?_) (fun c78 => ?_))
    ·refine qs 21 ?_
     exact (show False by have := (hr2.bad c65).2.1; omega).elim
    refine qs 4 ?_
    refine Gk Hq Hq (Gv Hq Hq Hq (fun c83 => ?_) (fun c83 => ?_))
    ·refine qs 2 ?_
     refine Gk Hq Hq (Gj Hq Hq (right_c l2 mL2 (fun hr => ?_) (fun hr => absurd (hr2.ok c83).2.1 hr)))
     refine qs 11 ?_
     refine Gc (GQ Hq (fun b90 => ?_))
     refine Gx (GX (i := 0) (k := 0) (sz := 4) (enc := eNod) [] Hq .nil (fun _ => rfl) Hq (by decide)) ?_
     refine qs 1 ?_
     refine Gc (GB (i := 0) (enc := eNod) (lst := []) (lst2 := l) Hq Hq Hq Hq memA eNod_one (fun _ => rfl) (by simp only [List.length_nil, maxLen]; omega) (by simp only [List.length_nil]; omega) (fun a92 k92 c92 => ?_))
     rw [List.nil_append]
     refine qs 1 ?_
     refine Gc (GB (i := 0) (enc := eNod) (lst := l) (lst2 := l2) Hq Hq Hq Hq memA eNod_one (fun _ => rfl) (by simp only [maxLen]; omega) Hs (fun a94 k94 c94 => ?_))
     refine Gx ((Gz (i := 0) Hq).trans Ge) ?_
     have hlen : (l ++ l2).length ≤ 4000 := by rw [List.length_append]; omega
     refine Gc (GS Hq Hq (fun hl95 => ?_) (enc := eNod) (lst := l ++ l2) (hm := memA))
     refine qs 4 ?_
     refine GN (fun (q : Nat) => q ≤ (l ++ l2).length) (fun q => [(0, S t), (5, .int .i64 e), (8, .int .i64 e2), (94, .slice a94 k94 c94), (95, .int .i64 (l ++ l2).length), (96, .int .i64 (q : Int))]) (fun _ => L) (fun _ => _) (fun q => (l ++ l2).length - q) 0 (Nat.zero_le _) srA (Ga _ _) ?_
     rintro q hq
     refine qs 2 ?_
     refine Gc (GP Hq Hq Hq (fun c97 => ?_) (fun c97 => ?_))
     ·refine qs 10 ?_
      have hql : q < (l ++ l2).length := by omega
      refine Gc (GA Hq Hq Hq Hq (enc := eNod) (lst := l ++ l2) memA hql (fun _ _ => ?_))
      refine Gc (GY Hq Hq ?_)
      intro a99 k99 c99
      refine Gc (GH Hq (fun b10 => ?_))
      refine qs 9 ?_
      refine Gc (GV Hq Hq Hq (fun c104 => ?_) (fun c104 => ?_))
      ·refine qs 14 ?_
       exact (show False by
        have hp : (l ++ l2)[q].pos ≤ t.length := by
          rcases List.mem_append.1 (List.getElem_mem hql) with hm | hm
          · exact hr1.at _ hm
          exact hr2.at _ hm
        omega).elim
      refine qs 10 ?_
      refine GE (q + 1) Hs Hs srA subA
     refine qs 11 ?_
     refine Gc (Gj Hq Hq (alive_c ((g2.more hs2).more (fun x hx => memS hx)) (memS (hs2 _ (hs1 _ mN))) ?_))
     refine qs 2 ?_
     refine Gk Hq Hq (GJ Hq Hq Hq (fun c109 => ?_) (fun c109 => ?_))
     ·refine qs 9 ?_
      first
      | exact Gg (L' := L) (F' := F) Tryd.results4 rfl (Gb (fun x hx => memS (hs2 _ (hs1 _ (hF x hx))))) h
      | exact (show False by
         have h1 := (hr1.ok Hs).1
         have h2 := (hr2.ok Hs).1
         obtain ⟨⟨x, hx⟩, _⟩ := Gq h1
         rw [h2] at hx
         cases hx).elim
     refine qs 2 ?_
     refine Gk Hq Hq (GJ Hq Hq Hq (fun c112 => ?_) (fun c112 => ?_))
     ·refine qs 6 ?_
      first
      | exact Gg (L' := L) (F' := F) Tryd.results4 rfl (Gb (fun x hx => memS (hs2 _ (hs1 _ (hF x hx))))) h
      | exact (show False by
         have h1 := (hr1.ok Hs).1
         have h2 := (hr2.ok Hs).1
         obtain ⟨⟨x, hx⟩, _⟩ := Gq h1
         rw [h2] at hx
         cases hx).elim
     refine qs 6 ?_
     first
     | exact Gg (L' := L) (F' := F) Tryd.results4 rfl (Gb (fun x hx => memS (hs2 _ (hs1 _ (hF x hx))))) h
     | exact (show False by
        have h1 := (hr1.ok Hs).1
        have h2 := (hr2.ok Hs).1
        obtain ⟨⟨x, hx⟩, _⟩ := Gq h1
        rw [h2] at hx
        cases hx).elim
    refine qs 14 ?_
    refine Gc (GQ Hq (fun b90 => ?_))
    refine Gx (GX (i := 0) (k := 0) (sz := 4) (enc := eNod) [] Hq .nil (fun _ => rfl) Hq (by decide)) ?_
    refine qs 1 ?_
    refine Gc (GB (i := 0) (enc := eNod) (lst := []) (lst2 := l) Hq Hq Hq Hq memA eNod_one (fun _ => rfl) (by simp only [List.length_nil, maxLen]; omega) (by simp only [List.length_nil]; omega) (fun a92 k92 c92 => ?_))
    rw [List.nil_append]
    refine qs 1 ?_
    refine Gc (GB (i := 0) (enc := eNod) (lst := l) (lst2 := l2) Hq Hq Hq Hq memA eNod_one (fun _ => rfl) (by simp only [maxLen]; omega) Hs (fun a94 k94 c94 => ?_))
    refine Gx ((Gz (i := 0) Hq).trans Ge) ?_
    have hlen : (l ++ l2).length ≤ 4000 := by rw [List.length_append]; omega
    refine Gc (GS Hq Hq (fun hl95 => ?_) (enc := eNod) (lst := l ++ l2) (hm := memA))
    refine qs 4 ?_
    refine GN (fun (q : Nat) => q ≤ (l ++ l2).length) (fun q => [(0, S t), (5, .int .i64 e), (8, .int .i64 e2), (94, .slice a94 k94 c94), (95, .int .i64 (l ++ l2).length), (96, .int .i64 (q : Int))]) (fun _ => L) (fun _ => _) (fun q => (l ++ l2).length - q) 0 (Nat.zero_le _) srA (Ga _ _) ?_
    rintro q hq
    refine qs 2 ?_
    refine Gc (GP Hq Hq Hq (fun c97 => ?_) (fun c97 => ?_))
    ·refine qs 10 ?_
     have hql : q < (l ++ l2).length := by omega
     refine Gc (GA Hq Hq Hq Hq (enc := eNod) (lst := l ++ l2) memA hql (fun _ _ => ?_))
     refine Gc (GY Hq Hq ?_)
     intro a99 k99 c99
     refine Gc (GH Hq (fun b10 => ?_))
     refine qs 9 ?_
     refine Gc (GV Hq Hq Hq (fun c104 => ?_) (fun c104 => ?_))
     ·refine qs 14 ?_
      exact (show False by
       have hp : (l ++ l2)[q].pos ≤ t.length := by
         rcases List.mem_append.1 (List.getElem_mem hql) with hm | hm
         · exact hr1.at _ hm
         exact hr2.at _ hm
       omega).elim
     refine qs 10 ?_
     refine GE (q + 1) Hs Hs srA subA
    refine qs 11 ?_
    refine Gc (Gj Hq Hq (alive_c ((g2.more hs2).more (fun x hx => memS hx)) (memS (hs2 _ (hs1 _ mN))) ?_))
    refine qs 2 ?_
    refine Gk Hq Hq (GJ Hq Hq Hq (fun c109 => ?_) (fun c109 => ?_))
    ·refine qs 9 ?_
     first
     | exact Gg (L' := L) (F' := F) Tryd.results4 rfl (Gb (fun x hx => memS (hs2 _ (hs1 _ (hF x hx))))) h
     | exact (show False by
        have h1 := (hr1.ok Hs).1
        have h2 := (hr2.ok Hs).1
        obtain ⟨⟨x, hx⟩, _⟩ := Gq h1
        rw [h2] at hx
        cases hx).elim
    refine qs 2 ?_
    refine Gk Hq Hq (GJ Hq Hq Hq (fun c112 => ?_) (fun c112 => ?_))
    ·refine qs 6 ?_
     first
     | exact Gg (L' := L) (F' := F) Tryd.results4 rfl (Gb (fun x hx => memS (hs2 _ (hs1 _ (hF x hx))))) h
     | exact (show False by
        have h1 := (hr1.ok Hs).1
        have h2 := (hr2.ok Hs).1
        obtain ⟨⟨x, hx⟩, _⟩ := Gq h1
        rw [h2] at hx
        cases hx).elim
    refine qs 6 ?_
    first
    | exact Gg (L' := L) (F' := F) Tryd.results4 rfl (Gb (fun x hx => memS (hs2 _ (hs1 _ (hF x hx))))) h
    | exact (show False by
       have h1 := (hr1.ok Hs).1
       have h2 := (hr2.ok Hs).1
       obtain ⟨⟨x, hx⟩, _⟩ := Gq h1
       rw [h2] at hx
       cases hx).elim
   refine qs 17 ?_
   refine Gk Hq Hq (Gv Hq Hq Hq (fun c83 => ?_) (fun c83 => ?_))
   ·refine qs 2 ?_
    refine Gk Hq Hq (Gj Hq Hq (right_c l2 mL2 (fun hr => ?_) (fun hr => absurd (hr2.ok c83).2.1 hr)))
    refine qs 11 ?_
    refine Gc (GQ Hq (fun b90 => ?_))
    refine Gx (GX (i := 0) (k := 0) (sz := 4) (enc := eNod) [] Hq .nil (fun _ => rfl) Hq (by decide)) ?_
    refine qs 1 ?_
    refine Gc (GB (i := 0) (enc := eNod) (lst := []) (lst2 := l) Hq Hq Hq Hq memA eNod_one (fun _ => rfl) (by simp only [List.length_nil, maxLen]; omega) (by simp only [List.length_nil]; omega) (fun a92 k92 c92 => ?_))
    rw [List.nil_append]
    refine qs 1 ?_
    refine Gc (GB (i := 0) (enc := eNod) (lst := l) (lst2 := l2) Hq Hq Hq Hq memA eNod_one (fun _ => rfl) (by simp only [maxLen]; omega) Hs (fun a94 k94 c94 => ?_))
    refine Gx ((Gz (i := 0) Hq).trans Ge) ?_
    have hlen : (l ++ l2).length ≤ 4000 := by rw [List.length_append]; omega
    refine Gc (GS Hq Hq (fun hl95 => ?_) (enc := eNod) (lst := l ++ l2) (hm := memA))
    refine qs 4 ?_
    refine GN (fun (q : Nat) => q ≤ (l ++ l2).length) (fun q => [(0, S t), (5, .int .i64 e), (8, .int .i64 e2), (94, .slice a94 k94 c94), (95, .int .i64 (l ++ l2).length), (96, .int .i64 (q : Int))]) (fun _ => L) (fun _ => _) (fun q => (l ++ l2).length - q) 0 (Nat.zero_le _) srA (Ga _ _) ?_
    rintro q hq
    refine qs 2 ?_
    refine Gc (GP Hq Hq Hq (fun c97 => ?_) (fun c97 => ?_))
    ·refine qs 10 ?_
     have hql : q < (l ++ l2).length := by omega
     refine Gc (GA Hq Hq Hq Hq (enc := eNod) (lst := l ++ l2) memA hql (fun _ _ => ?_))
     refine Gc (GY Hq Hq ?_)
     intro a99 k99 c99
     refine Gc (GH Hq (fun b10 => ?_))
     refine qs 9 ?_
     refine Gc (GV Hq Hq Hq (fun c104 => ?_) (fun c104 => ?_))
     ·refine qs 14 ?_
      exact (show False by
       have hp : (l ++ l2)[q].pos ≤ t.length := by
         rcases List.mem_append.1 (List.getElem_mem hql) with hm | hm
         · exact hr1.at _ hm
         exact hr2.at _ hm
       omega).elim
     refine qs 10 ?_
     refine GE (q + 1) Hs Hs srA subA
    refine qs 11 ?_
    refine Gc (Gj Hq Hq (alive_c ((g2.more hs2).more (fun x hx => memS hx)) (memS (hs2 _ (hs1 _ mN))) ?_))
    refine qs 2 ?_
    refine Gk Hq Hq (GJ Hq Hq Hq (fun c109 => ?_) (fun c109 => ?_))
    ·refine qs 9 ?_
     first
     | exact Gg (L' := L) (F' := F) Tryd.results4 rfl (Gb (fun x hx => memS (hs2 _ (hs1 _ (hF x hx))))) h
     | exact (show False by
        have h1 := (hr1.ok Hs).1
        have h2 := (hr2.ok Hs).1
        obtain ⟨⟨x, hx⟩, _⟩ := Gq h1
        rw [h2] at hx
        cases hx).elim
    refine qs 2 ?_
    refine Gk Hq Hq (GJ Hq Hq Hq (fun c112 => ?_) (fun c112 => ?_))
    ·refine qs 6 ?_
     first
     | exact Gg (L' := L) (F' := F) Tryd.results4 rfl (Gb (fun x hx => memS (hs2 _ (hs1 _ (hF x hx))))) h
     | exact (show False by
        have h1 := (hr1.ok Hs).1
        have h2 := (hr2.ok Hs).1
        obtain ⟨⟨x, hx⟩, _⟩ := Gq h1
        rw [h2] at hx
        cases hx).elim
    refine qs 6 ?_
    first
    | exact Gg (L' := L) (F' := F) Tryd.results4 rfl (Gb (fun x hx => memS (hs2 _ (hs1 _ (hF x hx))))) h
    | exact (show False by
       have h1 := (hr1.ok Hs).1
       have h2 := (hr2.ok Hs).1
       obtain ⟨⟨x, hx⟩, _⟩ := Gq h1
       rw [h2] at hx
       cases hx).elim
   refine qs 14 ?_
   refine Gc (GQ Hq (fun b90 => ?_))
   refine Gx (GX (i := 0) (k := 0) (sz := 4) (enc := eNod) [] Hq .nil (fun _ => rfl) Hq (by decide)) ?_
   refine qs 1 ?_
   refine Gc (GB (i := 0) (enc := eNod) (lst := []) (lst2 := l) Hq Hq Hq Hq memA eNod_one (fun _ => rfl) (by simp only [List.length_nil, maxLen]; omega) (by simp only [List.length_nil]; omega) (fun a92 k92 c92 => ?_))
   rw [List.nil_append]
   refine qs 1 ?_
   refine Gc (GB (i := 0) (enc := eNod) (lst := l) (lst2 := l2) Hq Hq Hq Hq memA eNod_one (fun _ => rfl) (by simp only [maxLen]; omega) Hs (fun a94 k94 c94 => ?_))
   refine Gx ((Gz (i := 0) Hq).trans Ge) ?_
   have hlen : (l ++ l2).length ≤ 4000 := by rw [List.length_append]; omega
   refine Gc (GS Hq Hq (fun hl95 => ?_) (enc := eNod) (lst := l ++ l2) (hm := memA))
   refine qs 4 ?_
   refine GN (fun (q : Nat) => q ≤ (l ++ l2).length) (fun q => [(0, S t), (5, .int .i64 e), (8, .int .i64 e2), (94, .slice a94 k94 c94), (95, .int .i64 (l ++ l2).length), (96, .int .i64 (q : Int))]) (fun _ => L) (fun _ => _) (fun q => (l ++ l2).length - q) 0 (Nat.zero_le _) srA (Ga _ _) ?_
   rintro q hq
   refine qs 2 ?_
   refine Gc (GP Hq Hq Hq (fun c97 => ?_) (fun c97 => ?_))
   ·refine qs 10 ?_
    have hql : q < (l ++ l2).length := by omega
    refine Gc (GA Hq Hq Hq Hq (enc := eNod) (lst := l ++ l2) memA hql (fun _ _ => ?_))
    refine Gc (GY Hq Hq ?_)
    intro a99 k99 c99
    refine Gc (GH Hq (fun b10 => ?_))
    refine qs 9 ?_
    refine Gc (GV Hq Hq Hq (fun c104 => ?_) (fun c104 => ?_))
    ·refine qs 14 ?_
     exact (show False by
      have hp : (l ++ l2)[q].pos ≤ t.length := by
        rcases List.mem_append.1 (List.getElem_mem hql) with hm | hm
        · exact hr1.at _ hm
        exact hr2.at _ hm
      omega).elim
    refine qs 10 ?_
    refine GE (q + 1) Hs Hs srA subA
   refine qs 11 ?_
   refine Gc (Gj Hq Hq (alive_c ((g2.more hs2).more (fun x hx => memS hx)) (memS (hs2 _ (hs1 _ mN))) ?_))
   refine qs 2 ?_
   refine Gk Hq Hq (GJ Hq Hq Hq (fun c109 => ?_) (fun c109 => ?_))
   ·refine qs 9 ?_
    first
    | exact Gg (L' := L) (F' := F) Tryd.results4 rfl (Gb (fun x hx => memS (hs2 _ (hs1 _ (hF x hx))))) h
    | exact (show False by
       have h1 := (hr1.ok Hs).1
       have h2 := (hr2.ok Hs).1
       obtain ⟨⟨x, hx⟩, _⟩ := Gq h1
       rw [h2] at hx
       cases hx).elim
   refine qs 2 ?_
   refine Gk Hq Hq (GJ Hq Hq Hq (fun c112 => ?_) (fun c112 => ?_))
   ·refine qs 6 ?_
    first
    | exact Gg (L' := L) (F' := F) Tryd.results4 rfl (Gb (fun x hx => memS (hs2 _ (hs1 _ (hF x hx))))) h
    | exact (show False by
       have h1 := (hr1.ok Hs).1
       have h2 := (hr2.ok Hs).1
       obtain ⟨⟨x, hx⟩, _⟩ := Gq h1
       rw [h2] at hx
       cases hx).elim
   refine qs 6 ?_
   first
   | exact Gg (L' := L) (F' := F) Tryd.results4 rfl (Gb (fun x hx => memS (hs2 _ (hs1 _ (hF x hx))))) h
   | exact (show False by
      have h1 := (hr1.ok Hs).1
      have h2 := (hr2.ok Hs).1
      obtain ⟨⟨x, hx⟩, _⟩ := Gq h1
      rw [h2] at hx
      cases hx).elim
  refine qs 24 ?_
  have g2 := g.more hs1
  refine Gx (L' := L) (F' := F1) subF ?_
  refine Gc (Gj Hq Hq (expr_s g2 (hs1 _ mN) (hs1 _ m4) t h3 (fun l2 i2 e2 a60 k60 c60 F2 hr2 mL2 hs2 => ?_)))
  have mL1' := hs2 _ mL1
  have hm1 := hr1.many
  have hm2 := hr2.many
  refine qs 13 ?_
  refine Gc (GJ Hq Hq Hq (fun c65 => ?_) (fun c65 => ?_))
  ·refine qs 2 ?_
   refine Gk Hq Hq (GS Hq Hq (fun hl68 => ?_) (hm := by repeat (first | exact mem0 | assumption | refine memS ?_)))
   refine Gk Hq Hq (GJ Hq Hq Hq (fun c69 => ?_) (fun c69 => ?_))
   ·refine qs 30 ?_
    exact absurd (by rw [(hr2.bad c65).1]; rfl) c69
   refine qs 2 ?_
   refine Gk Hq Hq (GP Hq Hq Hq (fun c72 => ?_) (fun c72 => ?_))
   ·refine qs 27 ?_
    exact (show False by omega).elim
   refine qs 5 ?_
   refine Gk Hq Hq (GV Hq Hq Hq (fun c78 => ?_) (fun c78 => ?_))
   ·refine qs 21 ?_
    exact (show False by have := (hr2.bad c65).2.1; omega).elim
   refine qs 4 ?_
   refine Gk Hq Hq (Gv Hq Hq Hq (fun c83 => ?_) (fun c83 => ?_))
   ·refine qs 2 ?_
    refine Gk Hq Hq (Gj Hq Hq (right_c l2 mL2 (fun hr => ?_) (fun hr => absurd (hr2.ok c83).2.1 hr)))
    refine qs 11 ?_
    refine Gc (GQ Hq (fun b90 => ?_))
    refine Gx (GX (i := 0) (k := 0) (sz := 4) (enc := eNod) [] Hq .nil (fun _ => rfl) Hq (by decide)) ?_
    refine qs 1 ?_
    refine Gc (GB (i := 0) (enc := eNod) (lst := []) (lst2 := l) Hq Hq Hq Hq memA eNod_one (fun _ => rfl) (by simp only [List.length_nil, maxLen]; omega) (by simp only [List.length_nil]; omega) (fun a92 k92 c92 => ?_))
    rw [List.nil_append]
    refine qs 1 ?_
    refine Gc (GB (i := 0) (enc := eNod) (lst := l) (lst2 := l2) Hq Hq Hq Hq memA eNod_one (fun _ => rfl) (by simp only [maxLen]; omega) Hs (fun a94 k94 c94 => ?_))
    refine Gx ((Gz (i := 0) Hq).trans Ge) ?_
    have hlen : (l ++ l2).length ≤ 4000 := by rw [List.length_append]; omega
    refine Gc (GS Hq Hq (fun hl95 => ?_) (enc := eNod) (lst := l ++ l2) (hm := memA))
    refine qs 4 ?_
    refine GN (fun (q : Nat) => q ≤ (l ++ l2).length) (fun q => [(0, S t), (5, .int .i64 e), (8, .int .i64 e2), (94, .slice a94 k94 c94), (95, .int .i64 (l ++ l2).length), (96, .int .i64 (q : Int))]) (fun _ => L) (fun _ => _) (fun q => (l ++ l2).length - q) 0 (Nat.zero_le _) srA (Ga _ _) ?_
    rintro q hq
    refine qs 2 ?_
    refine Gc (GP Hq Hq Hq (fun c97 => ?_) (fun c97 => ?_))
    ·refine qs 10 ?_
     have hql : q < (l ++ l2).length := by omega
     refine Gc (GA Hq Hq Hq Hq (enc := eNod) (lst := l ++ l2) memA hql (fun _ _ => ?_))
     refine Gc (GY Hq Hq ?_)
     intro a99 k99 c99
     refine Gc (GH Hq (fun b10 => ?_))
     refine qs 9 ?_
     refine Gc (GV Hq Hq Hq (fun c104 => ?_) (fun c104 => ?_))
     ·refine qs 14 ?_
      exact (show False by
       have hp : (l ++ l2)[q].pos ≤ t.length := by
         rcases List.mem_append.1 (List.getElem_mem hql) with hm | hm
         · exact hr1.at _ hm
         exact hr2.at _ hm
       omega).elim
     refine qs 10 ?_
     refine GE (q + 1) Hs Hs srA subA
    refine qs 11 ?_
    refine Gc (Gj Hq Hq (alive_c ((g2.more hs2).more (fun x hx => memS hx)) (memS (hs2 _ (hs1 _ mN))) ?_))
    refine qs 2 ?_
    refine Gk Hq Hq (GJ Hq Hq Hq (fun c109 => ?_) (fun c109 => ?_))
    ·refine qs 9 ?_
     first
     | exact Gg (L' := L) (F' := F) Tryd.results4 rfl (Gb (fun x hx => memS (hs2 _ (hs1 _ (hF x hx))))) h
     | exact (show False by
        have h1 := (hr1.ok Hs).1
        have h2 := (hr2.ok Hs).1
        obtain ⟨⟨x, hx⟩, _⟩ := Gq h1
        rw [h2] at hx
        cases hx).elim
    refine qs 2 ?_
    refine Gk Hq Hq (GJ Hq Hq Hq (fun c112 => ?_) (fun c112 => ?_))
    ·refine qs 6 ?_
     first
     | exact Gg (L' := L) (F' := F) Tryd.results4 rfl (Gb (fun x hx => memS (hs2 _ (hs1 _ (hF x hx))))) h
     | exact (show False by
        have h1 := (hr1.ok Hs).1
        have h2 := (hr2.ok Hs).1
        obtain ⟨⟨x, hx⟩, _⟩ := Gq h1
        rw [h2] at hx
        cases hx).elim
    refine qs 6 ?_
    first
    | exact Gg (L' := L) (F' := F) Tryd.results4 rfl (Gb (fun x hx => memS (hs2 _ (hs1 _ (hF x hx))))) h
    | exact (show False by
       have h1 := (hr1.ok Hs).1
       have h2 := (hr2.ok Hs).1
       obtain ⟨⟨x, hx⟩, _⟩ := Gq h1
       rw [h2] at hx
       cases hx).elim
   refine qs 14 ?_
   refine Gc (GQ Hq (fun b90 => ?_))
   refine Gx (GX (i := 0) (k := 0) (sz := 4) (enc := eNod) [] Hq .nil (fun _ => rfl) Hq (by decide)) ?_
   refine qs 1 ?_
   refine Gc (GB (i := 0) (enc := eNod) (lst := []) (lst2 := l) Hq Hq Hq Hq memA eNod_one (fun _ => rfl) (by simp only [List.length_nil, maxLen]; omega) (by simp only [List.length_nil]; omega) (fun a92 k92 c92 => ?_))
   rw [List.nil_append]
   refine qs 1 ?_
   refine Gc (GB (i := 0) (enc := eNod) (lst := l) (lst2 := l2) Hq Hq Hq Hq memA eNod_one (fun _ => rfl) (by simp only [maxLen]; omega) Hs (fun a94 k94 c94 => ?_))
   refine Gx ((Gz (i := 0) Hq).trans Ge) ?_
   have hlen : (l ++ l2).length ≤ 4000 := by rw [List.length_append]; omega
   refine Gc (GS Hq Hq (fun hl95 => ?_) (enc := eNod) (lst := l ++ l2) (hm := memA))
   refine qs 4 ?_
   refine GN (fun (q : Nat) => q ≤ (l ++ l2).length) (fun q => [(0, S t), (5, .int .i64 e), (8, .int .i64 e2), (94, .slice a94 k94 c94), (95, .int .i64 (l ++ l2).length), (96, .int .i64 (q : Int))]) (fun _ => L) (fun _ => _) (fun q => (l ++ l2).length - q) 0 (Nat.zero_le _) srA (Ga _ _) ?_
   rintro q hq
   refine qs 2 ?_
   refine Gc (GP Hq Hq Hq (fun c97 => ?_) (fun c97 => ?_))
   ·refine qs 10 ?_
    have hql : q < (l ++ l2).length := by omega
    refine Gc (GA Hq Hq Hq Hq (enc := eNod) (lst := l ++ l2) memA hql (fun _ _ => ?_))
    refine Gc (GY Hq Hq ?_)
    intro a99 k99 c99
    refine Gc (GH Hq (fun b10 => ?_))
    refine qs 9 ?_
    refine Gc (GV Hq Hq Hq (fun c104 => ?_) (fun c104 => ?_))
    ·refine qs 14 ?_
     exact (show False by
      have hp : (l ++ l2)[q].pos ≤ t.length := by
        rcases List.mem_append.1 (List.getElem_mem hql) with hm | hm
        · exact hr1.at _ hm
        exact hr2.at _ hm
      omega).elim
    refine qs 10 ?_
    refine GE (q + 1) Hs Hs srA subA
   refine qs 11 ?_
   refine Gc (Gj Hq Hq (alive_c ((g2.more hs2).more (fun x hx => memS hx)) (memS (hs2 _ (hs1 _ mN))) ?_))
   refine qs 2 ?_
   refine Gk Hq Hq (GJ Hq Hq Hq (fun c109 => ?_) (fun c109 => ?_))
   ·refine qs 9 ?_
    first
    | exact Gg (L' := L) (F' := F) Tryd.results4 rfl (Gb (fun x hx => memS (hs2 _ (hs1 _ (hF x hx))))) h
    | exact (show False by
       have h1 := (hr1.ok Hs).1
       have h2 := (hr2.ok Hs).1
       obtain ⟨⟨x, hx⟩, _⟩ := Gq h1
       rw [h2] at hx
       cases hx).elim
   refine qs 2 ?_
   refine Gk Hq Hq (GJ Hq Hq Hq (fun c112 => ?_) (fun c112 => ?_))
   ·refine qs 6 ?_
    first
    | exact Gg (L' := L) (F' := F) Tryd.results4 rfl (Gb (fun x hx => memS (hs2 _ (hs1 _ (hF x hx))))) h
    | exact (show False by
       have h1 := (hr1.ok Hs).1
       have h2 := (hr2.ok Hs).1
       obtain ⟨⟨x, hx⟩, _⟩ := Gq h1
       rw [h2] at hx
       cases hx).elim
   refine qs 6 ?_
   first
   | exact Gg (L' := L) (F' := F) Tryd.results4 rfl (Gb (fun x hx => memS (hs2 _ (hs1 _ (hF x hx))))) h
   | exact (show False by
      have h1 := (hr1.ok Hs).1
      have h2 := (hr2.ok Hs).1
      obtain ⟨⟨x, hx⟩, _⟩ := Gq h1
      rw [h2] at hx
      cases hx).elim
  refine qs 17 ?_
  refine Gk Hq Hq (Gv Hq Hq Hq (fun c83 => ?_) (fun c83 => ?_))
  ·refine qs 2 ?_
   refine Gk Hq Hq (Gj Hq Hq (right_c l2 mL2 (fun hr => ?_) (fun hr => absurd (hr2.ok c83).2.1 hr)))
   refine qs 11 ?_
   refine Gc (GQ Hq (fun b90 => ?_))
   refine Gx (GX (i := 0) (k := 0) (sz := 4) (enc := eNod) [] Hq .nil (fun _ => rfl) Hq (by decide)) ?_
   refine qs 1 ?_
   refine Gc (GB (i := 0) (enc := eNod) (lst := []) (lst2 := l) Hq Hq Hq Hq memA eNod_one (fun _ => rfl) (by simp only [List.length_nil, maxLen]; omega) (by simp only [List.length_nil]; omega) (fun a92 k92 c92 => ?_))
   rw [List.nil_append]
   refine qs 1 ?_
   refine Gc (GB (i := 0) (enc := eNod) (lst := l) (lst2 := l2) Hq Hq Hq Hq memA eNod_one (fun _ => rfl) (by simp only [maxLen]; omega) Hs (fun a94 k94 c94 => ?_))
   refine Gx ((Gz (i := 0) Hq).trans Ge) ?_
   have hlen : (l ++ l2).length ≤ 4000 := by rw [List.length_append]; omega
   refine Gc (GS Hq Hq (fun hl95 => ?_) (enc := eNod) (lst := l ++ l2) (hm := memA))
   refine qs 4 ?_
   refine GN (fun (q : Nat) => q ≤ (l ++ l2).length) (fun q => [(0, S t), (5, .int .i64 e), (8, .int .i64 e2), (94, .slice a94 k94 c94), (95, .int .i64 (l ++ l2).length), (96, .int .i64 (q : Int))]) (fun _ => L) (fun _ => _) (fun q => (l ++ l2).length - q) 0 (Nat.zero_le _) srA (Ga _ _) ?_
   rintro q hq
   refine qs 2 ?_
   refine Gc (GP Hq Hq Hq (fun c97 => ?_) (fun c97 => ?_))
   ·refine qs 10 ?_
    have hql : q < (l ++ l2).length := by omega
    refine Gc (GA Hq Hq Hq Hq (enc := eNod) (lst := l ++ l2) memA hql (fun _ _ => ?_))
    refine Gc (GY Hq Hq ?_)
    intro a99 k99 c99
    refine Gc (GH Hq (fun b10 => ?_))
    refine qs 9 ?_
    refine Gc (GV Hq Hq Hq (fun c104 => ?_) (fun c104 => ?_))
    ·refine qs 14 ?_
     exact (show False by
      have hp : (l ++ l2)[q].pos ≤ t.length := by
        rcases List.mem_append.1 (List.getElem_mem hql) with hm | hm
        · exact hr1.at _ hm
        exact hr2.at _ hm
      omega).elim
    refine qs 10 ?_
    refine GE (q + 1) Hs Hs srA subA
   refine qs 11 ?_
   refine Gc (Gj Hq Hq (alive_c ((g2.more hs2).more (fun x hx => memS hx)) (memS (hs2 _ (hs1 _ mN))) ?_))
   refine qs 2 ?_
   refine Gk Hq Hq (GJ Hq Hq Hq (fun c109 => ?_) (fun c109 => ?_))
   ·refine qs 9 ?_
    first
    | exact Gg (L' := L) (F' := F) Tryd.results4 rfl (Gb (fun x hx => memS (hs2 _ (hs1 _ (hF x hx))))) h
    | exact (show False by
       have h1 := (hr1.ok Hs).1
       have h2 := (hr2.ok Hs).1
       obtain ⟨⟨x, hx⟩, _⟩ := Gq h1
       rw [h2] at hx
       cases hx).elim
   refine qs 2 ?_
   refine Gk Hq Hq (GJ Hq Hq Hq (fun c112 => ?_) (fun c112 => ?_))
   ·refine qs 6 ?_
    first
    | exact Gg (L' := L) (F' := F) Tryd.results4 rfl (Gb (fun x hx => memS (hs2 _ (hs1 _ (hF x hx))))) h
    | exact (show False by
       have h1 := (hr1.ok Hs).1
       have h2 := (hr2.ok Hs).1
       obtain ⟨⟨x, hx⟩, _⟩ := Gq h1
       rw [h2] at hx
       cases hx).elim
   refine qs 6 ?_
   first
   | exact Gg (L' := L) (F' := F) Tryd.results4 rfl (Gb (fun x hx => memS (hs2 _ (hs1 _ (hF x hx))))) h
   | exact (show False by
      have h1 := (hr1.ok Hs).1
      have h2 := (hr2.ok Hs).1
      obtain ⟨⟨x, hx⟩, _⟩ := Gq h1
      rw [h2] at hx
      cases hx).elim
  refine qs 14 ?_
  refine Gc (GQ Hq (fun b90 => ?_))
  refine Gx (GX (i := 0) (k := 0) (sz := 4) (enc := eNod) [] Hq .nil (fun _ => rfl) Hq (by decide)) ?_
  refine qs 1 ?_
  refine Gc (GB (i := 0) (enc := eNod) (lst := []) (lst2 := l) Hq Hq Hq Hq memA eNod_one (fun _ => rfl) (by simp only [List.length_nil, maxLen]; omega) (by simp only [List.length_nil]; omega) (fun a92 k92 c92 => ?_))
  rw [List.nil_append]
  refine qs 1 ?_
  refine Gc (GB (i := 0) (enc := eNod) (lst := l) (lst2 := l2) Hq Hq Hq Hq memA eNod_one (fun _ => rfl) (by simp only [maxLen]; omega) Hs (fun a94 k94 c94 => ?_))
  refine Gx ((Gz (i := 0) Hq).trans Ge) ?_
  have hlen : (l ++ l2).length ≤ 4000 := by rw [List.length_append]; omega
  refine Gc (GS Hq Hq (fun hl95 => ?_) (enc := eNod) (lst := l ++ l2) (hm := memA))
  refine qs 4 ?_
  refine GN (fun (q : Nat) => q ≤ (l ++ l2).length) (fun q => [(0, S t), (5, .int .i64 e), (8, .int .i64 e2), (94, .slice a94 k94 c94), (95, .int .i64 (l ++ l2).length), (96, .int .i64 (q : Int))]) (fun _ => L) (fun _ => _) (fun q => (l ++ l2).length - q) 0 (Nat.zero_le _) srA (Ga _ _) ?_
  rintro q hq
  refine qs 2 ?_
  refine Gc (GP Hq Hq Hq (fun c97 => ?_) (fun c97 => ?_))
  ·refine qs 10 ?_
   have hql : q < (l ++ l2).length := by omega
   refine Gc (GA Hq Hq Hq Hq (enc := eNod) (lst := l ++ l2) memA hql (fun _ _ => ?_))
   refine Gc (GY Hq Hq ?_)
   intro a99 k99 c99
   refine Gc (GH Hq (fun b10 => ?_))
   refine qs 9 ?_
   refine Gc (GV Hq Hq Hq (fun c104 => ?_) (fun c104 => ?_))
   ·refine qs 14 ?_
    exact (show False by
     have hp : (l ++ l2)[q].pos ≤ t.length := by
       rcases List.mem_append.1 (List.getElem_mem hql) with hm | hm
       · exact hr1.at _ hm
       exact hr2.at _ hm
     omega).elim
   refine qs 10 ?_
   refine GE (q + 1) Hs Hs srA subA
  refine qs 11 ?_
  refine Gc (Gj Hq Hq (alive_c ((g2.more hs2).more (fun x hx => memS hx)) (memS (hs2 _ (hs1 _ mN))) ?_))
  refine qs 2 ?_
  refine Gk Hq Hq (GJ Hq Hq Hq (fun c109 => ?_) (fun c109 => ?_))
  ·refine qs 9 ?_
   first
   | exact Gg (L' := L) (F' := F) Tryd.results4 rfl (Gb (fun x hx => memS (hs2 _ (hs1 _ (hF x hx))))) h
   | exact (show False by
      have h1 := (hr1.ok Hs).1
      have h2 := (hr2.ok Hs).1
      obtain ⟨⟨x, hx⟩, _⟩ := Gq h1
      rw [h2] at hx
      cases hx).elim
  refine qs 2 ?_
  refine Gk Hq Hq (GJ Hq Hq Hq (fun c112 => ?_) (fun c112 => ?_))
  ·refine qs 6 ?_
   first
   | exact Gg (L' := L) (F' := F) Tryd.results4 rfl (Gb (fun x hx => memS (hs2 _ (hs1 _ (hF x hx))))) h
   | exact (show False by
      have h1 := (hr1.ok Hs).1
      have h2 := (hr2.ok Hs).1
      obtain ⟨⟨x, hx⟩, _⟩ := Gq h1
      rw [h2] at hx
      cases hx).elim
  refine qs 6 ?_
  first
  | exact Gg (L' := L) (F' := F) Tryd.results4 rfl (Gb (fun x hx => memS (hs2 _ (hs1 _ (hF x hx))))) h
  | exact (show False by
     have h1 := (hr1.ok Hs).1
     have h2 := (hr2.ok Hs).1
     obtain ⟨⟨x, hx⟩, _⟩ := Gq h1
     rw [h2] at hx
     cases hx).elim
end
end Go.Sy
