/- Joined of my own texts: BkI, BkJ, BkS, BkT, BkK, BkL, BkN, WbP, WbA. -/
import Derived.Test.YtodaafgpfjcpgaaGreatDoorX22
namespace Go.Sy
open Go
def kwConst : Bs := [99, 111, 110, 115, 116]
def kwVar : Bs := [118, 97, 114]
def kwType : Bs := [116, 121, 112, 101]
def kwReturn : Bs := [114, 101, 116, 117, 114, 110]
def kwImport : Bs := [105, 109, 112, 111, 114, 116]
def kwPkg : Bs := [112, 97, 99, 107, 97, 103, 101]
theorem kw2_mem : ∀ x ∈ [kwConst, kwVar, kwType, kwReturn, kwImport, kwPkg, kwFunc], x ∈ keysB ∧ x ∉ opsB ∧ x ≠ [10] := by rw [GR, opsB_eq]; decide
section
variable {K : List Tk} {r : List Tk → Rec}
def pofA (K : List Tk) (r : Rec) (a : Nat) : PM Int := (pof K 1).bind fun nm => r.union.bind fun u => pnode 27 nm a [u]
def pofT (K : List Tk) (r : Rec) : PM Int := fun s => pofA K r s.i s
theorem pofT_s (ko : KO K) (hr : RecS K r) : ∀ s v s', pofT K (r K) s = .ok (v, s') → ∃ p, Gd K (fun K => pofT K (r K)) s v s' p ∧ ∃ p', p = some (s.tok K) :: none :: some (s.next.tok K) :: p' := fun s v s' h => by
  obtain ⟨nm, s1, h1, h⟩ := Gt h
  obtain ⟨k1, e1, e2⟩ := pof_ok h1
  subst e1 e2
  obtain ⟨t, s2, h2, h3⟩ := Gt h
  obtain ⟨p, g⟩ := hr.union _ _ _ h2
  obtain ⟨e3, e4⟩ := GI h3
  have tS := ko.at (i := s.i) (show (s.tok K).1 ≠ 0 by rw [k1]; decide)
  obtain ⟨p', hp'⟩ := g.hd
  refine ⟨some (s.tok K) :: none :: p, ⟨?_, ⟨_, rfl⟩, tS.fb (by have : (tkAt K s.i).1 = 1 := k1; omega), fun K2 => ?_⟩, p', by rw [hp']⟩
  · subst e3 e4; exact Pt.named (.inr (.inr (.inl rfl))) tS k1 g.pt
  exact Sim.cast (by simp) (Sim.at (F := fun i => pofA K2 (r K2) i) fun a => Sim.bind (Sim.of k1 (by decide)) (Sim.bind (g.sim K2) (Sim.node h3)))
structure PtT (nodes : List Nd) (v : Int) (T : Pcs) : Prop where
  w : W nodes v T
  sg : Sg C0 T
  bl : T.length ≤ 2 * (toks T).length
  c0 : ∀ s, C0 s → C0 (render T ++ s)
theorem PtT.more {a : List Nd} (b : List Nd) {v : Int} {T : Pcs} (h : PtT a v T) : PtT (a ++ b) v T := ⟨h.w.more b, h.sg, h.bl, h.c0⟩
def ptypesA (K : List Tk) (r : Rec) (has : Bool) (a : Nat) : PM Int := fun s =>
  if has then ((pmust K [91]).bind fun _ => (plist K [93] (pofT K r)).bind fun l => pnode 26 [] a l) s
  else pnode 26 [] a [] s
theorem ptypes_s (ko : KO K) (hr : RecS K r) {has : Bool} {s s' : PS} {v : Int} (h : ptypes K (r K) has s = .ok (v, s')) :
    ∃ T, PtT s'.nodes v T ∧ (∀ K2, Sim K K2 (ptypes K2 (r K2) has) s v s' (toks T)) ∧ (has = false → T = [] ∧ s'.i = s.i) ∧ (has = true → s.tok K = (6, [91]) ∧ ∃ T', T = some (6, [91]) :: some (s.next.tok K) :: none :: some (s.next.next.tok K) :: T') := by
  cases has with
  | false =>
    replace h : pnode 26 [] s.i [] s = .ok (v, s') := h
    obtain ⟨e3, e4⟩ := GI h
    refine ⟨[], ⟨?_, Sg.nil.all, by simp, fun _ h => h⟩, fun K2 => Sim.at (F := fun i => ptypesA K2 (r K2) false i) fun a => Sim.node h, fun _ => ⟨rfl, by rw [e4]⟩, fun q => (by cases q)⟩
    subst e3 e4
    refine W.mk fun L n hL hR k1 _ k3 => ?_
    rw [nB26 k1, if_pos (by rw [k3]; rfl)]; rfl
  | true =>
    replace h : ((pmust K [91]).bind fun _ => (plist K [93] (pofT K (r K))).bind fun l => pnode 26 [] s.i l) s = .ok (v, s') := h
    obtain ⟨u, s1, h1, h⟩ := Gt h
    obtain ⟨hb, e1⟩ := HJ h1
    subst e1
    have t0 := ko.op hb (by rw [GR]; decide)
    obtain ⟨l, s2, h2, h3⟩ := Gt h
    obtain ⟨P, hn, pl, ⟨_, p1, P1, eP, p', ep⟩, sm⟩ := plist_sQ (one := fun K => pofT K (r K)) (Q := fun s p => ∃ p', p = some (s.tok K) :: none :: some (s.next.tok K) :: p') ko (.inl rfl) (pofT_s ko hr) h2
    obtain ⟨e3, e4⟩ := GI h3
    have hs : Sg CT (some (6, [91]) :: (P ++ [some (6, [93])])) := Sg.consO (by decide) (Sg.close pl.sg (by decide) rfl)
    refine ⟨some (6, [91]) :: (P ++ [some (6, [93])]), ⟨?_, hs.all, ?_, fun _ _ => rfl⟩, fun K2 => Sim.at (F := fun i => ptypesA K2 (r K2) true i) fun a => ?_, fun q => (by cases q), fun _ => ⟨t0, p' ++ P1 ++ [some (6, [93])], by rw [eP, ep]; simp⟩⟩
    · subst e3 e4
      refine W.mk fun L n hL hR k1 _ k3 => ?_
      have hw := pl.w L hL hR
      simp only at k3
      rw [nB26 k1, if_neg (by rw [k3]; exact fun q => hn (List.length_eq_zero_iff.1 q)), k3, show ([44, 32] : Bs) = render sepC from rfl, hw]; simp
    · have := pl.bl
      simp only [GU, GY, toks_nil, List.length_append, List.length_cons, List.length_nil]; omega
    show Sim K K2 ((pmust K2 [91]).bind fun _ => (plist K2 [93] (pofT K2 (r K2))).bind fun l => pnode 26 [] a l) s v s' _
    exact Sim.cast (by rw [t0]; simp) (Sim.bind (Sim.must hb) (Sim.bind (sm K2) (Sim.node h3)))
def pvalA (K : List Tk) (r : Rec) : PM Int := fun s1 => if semiB (s1.tok K) = true ∨ isB (s1.tok K) [[125]] = true then pnone s1 else r.expr 1 s1
def poptA (K : List Tk) : PM Unit := fun s2 => if semiB (s2.tok K) then .ok ((), s2.next) else .ok ((), s2)
def pbodyA (K : List Tk) (r : Rec) (a : Nat) : PM Int := (pmust K [123]).bind fun _ =>
    pwhen K [114, 101, 116, 117, 114, 110]
      ((pvalA K r).bind fun v => (poptA K).bind fun (_ : Unit) => (pmust K [125]).bind fun _ => pnode 30 [] a [v])
      (pnone.bind fun v => (pmust K [125]).bind fun _ => pnode 30 [] a [v])
theorem body_none {a : List Nd} {x : Int} {tn : Nat} (hx : Kd a x 0) : Pt (mkd a 30 [] [x] tn) (a.length : Int) [some (6, [123]), some (6, [125])] := by
  have hs : Sg CT [some (6, [123]), some (6, [125])] := Sg.consO (by decide) (Sg.op (by decide))
  refine ⟨W.mk fun L n hL hR k1 _ k3 => ?_, hs.all, En.cons (En.one HQ), by simp, kd_new (by decide)⟩
  rw [nB30 k1, kid0 k3, if_pos (hx.at hL)]; rfl
theorem body_some {a : List Nd} {x : Int} {px : Pcs} {tn : Nat} (hx : Pt a x px) : Pt (mkd a 30 [] [x] tn) (a.length : Int) (some (6, [123]) :: none :: some (7, kwReturn) :: none :: (px ++ (none :: [some (6, [125])]))) := by
  have hs : Sg CT (some (6, [123]) :: none :: some (7, kwReturn) :: none :: (px ++ (none :: [some (6, [125])]))) :=
    Sg.consO (by decide) (Sg.consB (Sg.consW (Sg.key (kw2_mem kwReturn (by simp)).1) (Sg.consB (Sg.blankAfter hx.sg (Sg.op (by decide)))) fun _ _ => rfl))
  obtain ⟨k, hk0, hk⟩ := hx.kd
  refine ⟨W.mk fun L n hL hR k1 _ k3 => ?_, hs.all, En.cons (En.cons (En.cons (En.cons (En.app (En.cons (En.one HQ)))))), ?_, kd_new (by decide)⟩
  · rw [nB30 k1, kid0 k3, if_neg (by rw [hk.at hL]; exact hk0.1), hx.w L hL hR]; simp [kwReturn]
  have := hx.bl
  simp only [GU, GY, HK, toks_nil, List.length_append, List.length_cons, List.length_nil]; omega
theorem Src.gap {s s3 s' : PS} {ts : List Tk} (h1 : (s.tok K).1 ≠ 0) (hi : s.i + 1 ≤ s3.i) (hn : ∃ new, s3.nodes = s.nodes ++ new) (h3 : Src K s3 s' ts) : Src K s s' (s.tok K :: ts) := by
  refine ⟨?_, fun rest _ => Nx.same, ?_, ?_⟩
  · obtain ⟨n1, e1⟩ := hn
    obtain ⟨n2, e2⟩ := h3.pre
    exact ⟨n1 ++ n2, by rw [e2, e1, List.append_assoc]⟩
  · have a1 := h3.cost
    have a2 := cum_mono (K := K) hi
    have a3 := cum_next (tk_lt h1)
    have e : s.tok K = tkAt K s.i := rfl
    rw [cost_cons, e]; omega
  have := h3.cnt
  rw [List.length_cons]; omega
theorem must_run {K2 : List Tk} {x : Bs} {σ : PS} (h : isB (σ.tok K2) [x] = true) : pmust K2 x σ = .ok ((), σ.next) := by unfold pmust pwhen; rw [if_pos h]; rfl
theorem when_runF {K2 : List Tk} {α : Type} {x : Bs} {m1 m2 : PM α} {σ : PS} (h : isB (σ.tok K2) [x] = false) : pwhen K2 x m1 m2 σ = m2 σ := by unfold pwhen; rw [h]; rfl
theorem when_runT {K2 : List Tk} {α : Type} {x : Bs} {m1 m2 : PM α} {σ : PS} (h : isB (σ.tok K2) [x] = true) : pwhen K2 x m1 m2 σ = m1 σ.next := by unfold pwhen; rw [if_pos h]
theorem bind_run {α β : Type} {m : PM α} {f : α → PM β} {σ σ1 : PS} {a : α} (h : m σ = .ok (a, σ1)) : m.bind f σ = f a σ1 := by unfold PM.bind; rw [h]
theorem pbody_s (ko : KO K) (hr : RecS K r) {s s' : PS} {v : Int} (h : pbody K (r K) s = .ok (v, s')) : ∃ p, Pt s'.nodes v p ∧ (∃ p', p = some (6, [123]) :: p') ∧ ∀ K2, Sim K K2 (pbody K2 (r K2)) s v s' (toks p) := by
  replace h : pbodyA K (r K) s.i s = .ok (v, s') := h
  obtain ⟨u, s1, h1, h⟩ := Gt h
  obtain ⟨hb, e1⟩ := HJ h1
  subst e1
  have t0 := ko.op hb (by rw [GR]; decide)
  rcases GV h with ⟨hb2, h⟩ | ⟨hb2, h⟩
  · have t1 := ko.key hb2 (kw2_mem kwReturn (by simp)).2
    obtain ⟨x, s2, h2, h⟩ := Gt h
    obtain ⟨u2, s3, h3, h⟩ := Gt h
    obtain ⟨u3, s4, h4, h5⟩ := Gt h
    obtain ⟨hb5, e5⟩ := HJ h4
    subst e5
    obtain ⟨e3, e4⟩ := GI h5
    have t2 := ko.op hb5 (by rw [GR]; decide)
    have hst := is_stop hb5 (by decide)
    -- what the optional SEMI does
    have hopt : (semiB (s2.tok K) = true ∧ s3 = s2.next) ∨ s3 = s2 := by
      unfold poptA at h3
      split at h3
      · rename_i hc; injection h3 with h3; injection h3 with _ h3; exact .inl ⟨hc, h3.symm⟩
      injection h3 with h3; injection h3 with _ h3; exact .inr h3.symm
    have hs2 : stopT (s2.tok K) = true := by
      rcases hopt with ⟨q, _⟩ | q
      · exact (semi_stop q).1
      rw [← q]; exact hst
    have hnod : s3.nodes = s2.nodes ∧ s3.deep = s2.deep ∧ s2.i ≤ s3.i := by
      rcases hopt with ⟨_, q⟩ | q
      · rw [q]; exact ⟨rfl, rfl, Nat.le_succ _⟩
      rw [q]; exact ⟨rfl, rfl, Nat.le_refl _⟩
    have a3 : Src K s3 s' [(6, [125])] := by
      rw [← t2, e4]; exact (Src.tok (GS hb5)).trans (Src.node _)
    have e6 : isB (6, [125]) [[125]] = true := rfl
    unfold pvalA at h2
    split at h2
    · -- nothing is returned: nothing is written
      rename_i hc
      obtain ⟨e6', e7⟩ := GI h2
      have hs1 : stopT (s2.tok K) = true := hs2
      have pt : Pt s'.nodes v [some (6, [123]), some (6, [125])] := by
        subst e3 e4
        have : Kd s3.nodes x 0 := by rw [hnod.1, e6', e7]; exact Kd.new _ ⟨0, [], [], s.next.next.i⟩
        exact body_none this
      have i2 : s2.i = s.i + 2 := by rw [e7]
      have hS : Src K s s' [(6, [123]), (6, [125])] := by
        rw [← t0]
        exact Src.gap (GS hb) HS ⟨[⟨0, [], [], s.next.next.i⟩], by rw [hnod.1, e7]⟩ a3
      refine ⟨_, pt, ⟨_, rfl⟩, fun K2 => ⟨hS, fun rest σ hd hn he => ?_⟩⟩
      obtain ⟨d1, d2, _⟩ := GJ hd
      obtain ⟨σ2, r2, dd2, q2⟩ := (Sim.none (K := K) (K2 := K2) h2).run ((6, [125]) :: rest) σ.next d2 ⟨_, _, rfl, .inr ⟨hs2, rfl⟩⟩ ⟨he.nodes, he.deep⟩
      obtain ⟨d3, d4, _⟩ := GJ dd2
      obtain ⟨σ3, r3, dd3, q3⟩ := (Sim.node (K := K) (K2 := K2) (tn2 := σ.i) h5).run rest σ2.next d4 hn ⟨by rw [show s3.next.nodes = s2.nodes from hnod.1]; exact q2.nodes, by rw [show s3.next.deep = s2.deep from hnod.2.1]; exact q2.deep⟩
      refine ⟨σ3, ?_, dd3, q3⟩
      show pbodyA K2 (r K2) σ.i σ = _
      unfold pbodyA
      have f1 : σ.tok K2 = (6, [123]) := d1
      have f2 : σ.next.tok K2 = (6, [125]) := (GJ d2).1
      have f3 : σ2.tok K2 = (6, [125]) := d3
      rw [bind_run (must_run (by rw [f1]; rfl)), when_runF (by rw [f2]; rfl), bind_run r2, bind_run (must_run (by rw [f3]; rfl))]
      exact r3
    rename_i hc
    obtain ⟨pe, g⟩ := hr.expr 1 _ _ _ h2
    obtain ⟨p', hp'⟩ := g.hd
    have pt : Pt s'.nodes v (some (6, [123]) :: none :: some (7, kwReturn) :: none :: (pe ++ (none :: [some (6, [125])]))) := by
      subst e3 e4
      exact body_some (show Pt s3.nodes x pe by rw [hnod.1]; exact g.pt)
    have sk : Src K s2 s3 [] := Src.skip hnod.2.2 ⟨[], by simp [hnod.1]⟩ fun rest hn => Nx.stop hs2 hst hn
    have et : toks (some (6, [123]) :: none :: some (7, kwReturn) :: none :: (pe ++ (none :: [some (6, [125])]))) = [(6, [123])] ++ ([(7, kwReturn)] ++ (toks pe ++ ([] ++ [(6, [125])]))) := by simp
    have hS : Src K s s' ([(6, [123])] ++ ([(7, kwReturn)] ++ (toks pe ++ ([] ++ [(6, [125])])))) := by
      have b1 : Src K s s.next [(6, [123])] := by rw [← t0]; exact Src.tok (GS hb)
      have b2 : Src K s.next s.next.next [(7, kwReturn)] := by rw [show (7, kwReturn) = s.next.tok K from t1.symm]; exact Src.tok (GS hb2)
      exact b1.trans (b2.trans ((g.sim []).src.trans (sk.trans a3)))
    refine ⟨_, pt, ⟨_, rfl⟩, fun K2 => ⟨by rw [et]; exact hS, fun rest σ hd hn he => ?_⟩⟩
    rw [et] at hd
    obtain ⟨d1, d2, _⟩ := GJ hd
    obtain ⟨d3, d4, _⟩ := GJ d2
    have d5 : K2.drop σ.next.next.i = toks pe ++ ((6, [125]) :: rest) := by rw [show σ.next.next.i = σ.i + 1 + 1 from rfl, d4]; simp
    obtain ⟨σ2, r2, dd2, q2⟩ := (g.sim K2).run ((6, [125]) :: rest) σ.next.next d5 ⟨_, _, rfl, .inr ⟨hs2, rfl⟩⟩ ⟨he.nodes, he.deep⟩
    obtain ⟨d6, d7, _⟩ := GJ dd2
    obtain ⟨σ3, r3, dd3, q3⟩ := (Sim.node (K := K) (K2 := K2) (tn2 := σ.i) h5).run rest σ2.next d7 hn ⟨by rw [show s3.next.nodes = s2.nodes from hnod.1]; exact q2.nodes, by rw [show s3.next.deep = s2.deep from hnod.2.1]; exact q2.deep⟩
    refine ⟨σ3, ?_, dd3, q3⟩
    show pbodyA K2 (r K2) σ.i σ = _
    unfold pbodyA
    have f1 : σ.tok K2 = (6, [123]) := d1
    have f2 : σ.next.tok K2 = (7, kwReturn) := d3
    have f3 : σ2.tok K2 = (6, [125]) := d6
    have f4 : σ.next.next.tok K2 = s.next.next.tok K := (GJ (show K2.drop σ.next.next.i = s.next.next.tok K :: (toks p' ++ ((6, [125]) :: rest)) by rw [d5, hp']; rfl)).1
    have rv : pvalA K2 (r K2) σ.next.next = .ok (x, σ2) := by unfold pvalA; rw [f4, if_neg hc]; exact r2
    have ro : poptA K2 σ2 = .ok ((), σ2) := by
      unfold poptA; rw [f3, if_neg (by decide)]
    rw [bind_run (must_run (by rw [f1]; rfl)), when_runT (by rw [f2]; rfl), bind_run rv, bind_run ro, bind_run (must_run (by rw [f3]; rfl))]
    exact r3
  obtain ⟨x, s2, h2, h⟩ := Gt h
  obtain ⟨u3, s3, h3, h4⟩ := Gt h
  obtain ⟨hb5, e5⟩ := HJ h3
  subst e5
  obtain ⟨e3, e4⟩ := GI h4
  obtain ⟨e6, e7⟩ := GI h2
  have t2 := ko.op hb5 (by rw [GR]; decide)
  have pt : Pt s'.nodes v [some (6, [123]), some (6, [125])] := by
    subst e3 e4
    have : Kd s2.nodes x 0 := by rw [e6, e7]; exact Kd.new _ ⟨0, [], [], s.next.i⟩
    exact body_none this
  refine ⟨_, pt, ⟨_, rfl⟩, fun K2 => Sim.at (F := fun i => pbodyA K2 (r K2) i) fun a => ?_⟩
  unfold pbodyA
  exact Sim.cast (by rw [t0, t2]; rfl) (Sim.bind (Sim.must hb) (Sim.whenF hb2 (by decide) (Sim.bind (Sim.none h2) (Sim.bind (Sim.must hb5) (Sim.node h4)))))
end
end Go.Sy
namespace Go.Sy
open Go
section
variable {a : List Nd} {x y z u : Int} {px py T B pb : Pcs} {tn : Nat}
def PtX (nodes : List Nd) (x : Int) (q : Pcs) : Prop := (Kd nodes x 0 ∧ q = []) ∨ ∃ px, Pt nodes x px ∧ q = none :: px
def PtY (nodes : List Nd) (y : Int) (q : Pcs) : Prop := (Kd nodes y 0 ∧ q = []) ∨ ∃ py, Pt nodes y py ∧ q = none :: some (6, [61]) :: none :: py
theorem PtX.more (b : List Nd) {q : Pcs} (h : PtX a x q) : PtX (a ++ b) x q := by
  rcases h with ⟨h1, h2⟩ | ⟨p, h1, h2⟩
  · exact .inl ⟨h1.more b, h2⟩
  exact .inr ⟨p, h1.more b, h2⟩
theorem sg_eq : Sg C0 [some (6, [61])] := Sg.ops (by rw [opsB_eq]; decide) (by decide)
theorem PtX.sg {q : Pcs} (h : PtX a x q) : Sg C0 q ∧ (∀ s, C0 s → C0 (render q ++ s)) ∧ q.length ≤ 2 * (toks q).length ∧ (q = [] ∨ En q) := by
  rcases h with ⟨_, e⟩ | ⟨p, h, e⟩
  · subst e; exact ⟨Sg.nil.all, fun _ h => h, by simp, .inl rfl⟩
  subst e
  have := h.bl
  exact ⟨Sg.consB h.sg, fun _ _ => rfl, by simp; omega, .inr (En.cons h.en)⟩
theorem PtY.sg {q : Pcs} (h : PtY a x q) : Sg C0 q ∧ (∀ s, C0 s → C0 (render q ++ s)) ∧ q.length ≤ 2 * (toks q).length ∧ (q = [] ∨ En q) := by
  rcases h with ⟨_, e⟩ | ⟨p, h, e⟩
  · subst e; exact ⟨Sg.nil.all, fun _ h => h, by simp, .inl rfl⟩
  subst e
  have := h.bl
  exact ⟨Sg.consB (Sg.cons0 sg_eq (Sg.consB h.sg) fun _ _ => rfl), fun _ _ => rfl, by simp; omega, .inr (En.cons (En.cons (En.cons h.en)))⟩
theorem en_app {p q : Pcs} (hp : En p) (hq : q = [] ∨ En q) : En (p ++ q) := by
  rcases hq with e | e
  · subst e; simpa using hp
  exact En.app e
theorem Pt.value {k : Int} {kw : Bs} {t : Tk} {qx qy : Pcs} (hk : (k = 23 ∧ kw = kwConst) ∨ (k = 24 ∧ kw = kwVar)) (ht : TokS t) (h1 : t.1 = 1) (hx : PtX a x qx) (hy : PtY a y qy) : Pt (mkd a k t.2 [x, y] tn) (a.length : Int) (some (7, kw) :: none :: some t :: (qx ++ qy)) := by
  have hkw : kw ∈ keysB := by rcases hk with ⟨_, e⟩ | ⟨_, e⟩ <;> subst e; exact (kw2_mem kwConst (by simp)).1; exact (kw2_mem kwVar (by simp)).1
  have hnb : ∀ L (n : Nod), n.kind = k → nodeB L (txtB L) n = valueB L (txtB L) kw n := fun L n h => by
    rcases hk with ⟨e1, e2⟩ | ⟨e1, e2⟩ <;> subst e1 e2
    · exact nB23 h
    exact nB24 h
  have hk0 : k ≠ 0 ∧ k ≠ 32 := by rcases hk with ⟨e, _⟩ | ⟨e, _⟩ <;> omega
  obtain ⟨x1, x2, x3, x4⟩ := hx.sg
  obtain ⟨y1, y2, y3, y4⟩ := hy.sg
  refine ⟨W.mk fun L n hL hR k1 k2 k3 => ?_, Sg.consW (Sg.key hkw) (Sg.consB (Sg.cons0 (Sg.tok ht (ht.nl HS)) (Sg.app x1 y1 fun s hs => y2 s hs) fun s hs => ?_)) fun _ _ => rfl, ?_, ?_, kd_new hk0⟩
  · rw [hnb L n k1]
    unfold valueB
    rw [kid0 k3, kid1 k3, k2]
    rcases hx with ⟨g1, g2⟩ | ⟨p1, g1, g2⟩ <;> rcases hy with ⟨g3, g4⟩ | ⟨p2, g3, g4⟩ <;> subst g2 g4
    · simp only; rw [if_pos (g1.at hL), if_pos (g3.at hL)]; simp
    · obtain ⟨k', hk', hk''⟩ := g3.kd
      simp only; rw [if_pos (g1.at hL), if_neg (show ¬ kindAt L y = 0 by rw [hk''.at hL]; exact hk'.1), g3.w L hL hR]; simp
    · obtain ⟨k', hk', hk''⟩ := g1.kd
      simp only; rw [if_neg (show ¬ kindAt L x = 0 by rw [hk''.at hL]; exact hk'.1), if_pos (g3.at hL), g1.w L hL hR]; simp
    obtain ⟨k', hk', hk''⟩ := g1.kd
    obtain ⟨k4, hk4, hk5⟩ := g3.kd
    simp only; rw [if_neg (show ¬ kindAt L x = 0 by rw [hk''.at hL]; exact hk'.1), if_neg (show ¬ kindAt L y = 0 by rw [hk5.at hL]; exact hk4.1), g1.w L hL hR, g3.w L hL hR]; simp
  · rw [render_app, List.append_assoc]; exact x2 _ (y2 s hs)
  · exact en_app (p := [some (7, kw), none, some t] ++ qx) (en_app (En.cons (En.cons (En.tok HS))) x4) y4
  simp only [GU, GY, HK, List.length_append, List.length_cons]; omega
theorem Pt.typeD {t : Tk} (ht : TokS t) (h1 : t.1 = 1) (hT : PtT a x T) (hy : Pt a y py) : Pt (mkd a 25 t.2 [x, y] tn) (a.length : Int) (some (7, kwType) :: none :: some t :: (T ++ (none :: py))) := by
  refine ⟨W.mk fun L n hL hR k1 k2 k3 => ?_, Sg.consW (Sg.key (kw2_mem kwType (by simp)).1) (Sg.consB (Sg.cons0 (Sg.tok ht (ht.nl HS)) (Sg.blankAfter hT.sg hy.sg) fun s _ => ?_)) fun _ _ => rfl, En.cons (En.cons (En.cons (En.app (En.cons hy.en)))), ?_, kd_new (by decide)⟩
  · rw [nB25 k1, kid0 k3, kid1 k3, k2, hT.w L hL hR, hy.w L hL hR]; simp [kwType]
  · rw [render_app, List.append_assoc]; exact hT.c0 _ rfl
  have := hT.bl; have := hy.bl
  simp only [GU, GY, HK, List.length_append, List.length_cons]; omega
def PtR (nodes : List Nd) (x : Int) (q : Pcs) : Prop := (Kd nodes x 0 ∧ q = []) ∨ ∃ px, Pt nodes x px ∧ q = some (6, [40]) :: (px ++ [some (6, [41]), none])
theorem PtR.more (b : List Nd) {q : Pcs} (h : PtR a x q) : PtR (a ++ b) x q := by
  rcases h with ⟨h1, h2⟩ | ⟨p, h1, h2⟩
  · exact .inl ⟨h1.more b, h2⟩
  exact .inr ⟨p, h1.more b, h2⟩
theorem PtR.sg {q : Pcs} (h : PtR a x q) : Sg CT q ∧ q.length ≤ 2 * (toks q).length := by
  rcases h with ⟨_, e⟩ | ⟨p, h, e⟩
  · subst e; exact ⟨Sg.nil, by simp⟩
  subst e
  have := h.bl
  exact ⟨Sg.consO (by decide) (Sg.app h.sg (Sg.consO (by decide) Sg.blank) fun _ _ => rfl), by simp; omega⟩
theorem Pt.decl {t : Tk} {qr : Pcs} (ht : TokS t) (h1 : t.1 = 1) (hr : PtR a x qr) (hT : PtT a y T) (hB : PtS a z B) (hb : Pt a u pb) : Pt (mkd a 28 t.2 [x, y, z, u] tn) (a.length : Int) (some (7, kwFunc) :: none :: (qr ++ (some t :: (T ++ (B ++ (none :: pb)))))) := by
  obtain ⟨r1, r2⟩ := hr.sg
  have hTB : Sg C0 (T ++ (B ++ (none :: pb))) := Sg.app hT.sg (Sg.blankAfter hB.sg.d hb.sg) fun s _ => by rw [render_app, List.append_assoc]; exact hB.c0 _
  have hs : Sg C0 (some t :: (T ++ (B ++ (none :: pb)))) := Sg.cons0 (Sg.tok ht (ht.nl HS)) hTB fun s _ => by
    rw [render_app, render_app, List.append_assoc, List.append_assoc]
    exact hT.c0 _ (hB.c0 _)
  refine ⟨W.mk fun L n hL hR k1 k2 k3 => ?_, Sg.consW (Sg.key kw_mem.2.1) (Sg.consB (Sg.app r1 hs fun _ _ => trivial)) fun _ _ => rfl, En.cons (En.cons (En.app (En.cons (En.app (En.app (En.cons hb.en)))))), ?_, kd_new (by decide)⟩
  · rw [nB28 k1, kid0 k3, kid1 k3, kid2 k3, kid3 k3, k2, hT.w L hL hR, hb.w L hL hR, hB.sign hL hR]
    rcases hr with ⟨g1, g2⟩ | ⟨p1, g1, g2⟩ <;> subst g2
    · rw [if_pos (g1.at hL)]; simp [kwFunc]
    obtain ⟨k', hk', hk''⟩ := g1.kd
    rw [if_neg (by rw [hk''.at hL]; exact hk'.1), g1.w L hL hR]; simp [kwFunc]
  have := hT.bl; have := hB.bl; have := hb.bl
  simp only [GU, GY, HK, List.length_append, List.length_cons]; omega
end
section
variable {K : List Tk} {r : List Tk → Rec} {α β : Type}
theorem Sim.peek {K2 : List Tk} {c : Tk → β} {F : β → PM α} {s s' : PS} {a : α} {ts ts' : List Tk} (ht : ts = s.tok K :: ts') (h : Sim K K2 (F (c (s.tok K))) s a s' ts) : Sim K K2 (fun σ => F (c (σ.tok K2)) σ) s a s' ts := by
  refine ⟨h.src, fun rest σ hd hn he => ?_⟩
  have d1 : σ.tok K2 = s.tok K := (GJ (by rw [hd, ht]; rfl)).1
  obtain ⟨σ', e1, d, q⟩ := h.run rest σ hd hn he
  exact ⟨σ', by rw [d1]; exact e1, d, q⟩
theorem punless_s (hr : RecS K r) {s s' : PS} {v : Int} (h : punless K (r K) [61] s = .ok (v, s')) : ∃ q, PtX s'.nodes v q ∧ ∀ K2, Sim K K2 (punless K2 (r K2) [61]) s v s' (toks q) := by
  unfold punless at h
  split at h
  · rename_i hc
    obtain ⟨e3, e4⟩ := GI h
    have S : ∀ K2, Sim K K2 pnone s v s' [] := fun K2 => Sim.none h
    refine ⟨[], .inl ⟨by subst e3 e4; exact Kd.new _ ⟨0, [], [], s.i⟩, rfl⟩, fun K2 => ⟨(S []).src, fun rest σ hd hn he => ?_⟩⟩
    have e5 : s'.tok K = s.tok K := by rw [e4]
    have d1 : isB (σ.tok K2) [[61]] = isB (s.tok K) [[61]] := by
      rw [e5] at hn
      exact hn.is hd (by decide)
    obtain ⟨σ', e6, d, q⟩ := (S K2).run rest σ hd hn he
    exact ⟨σ', by unfold punless; rw [d1, if_pos hc]; exact e6, d, q⟩
  rename_i hc
  obtain ⟨p, g, _⟩ := hr.typ _ _ _ h
  obtain ⟨p', hp'⟩ := g.hd
  refine ⟨none :: p, .inr ⟨p, g.pt, rfl⟩, fun K2 => ⟨(g.sim K2).src, fun rest σ hd hn he => ?_⟩⟩
  have d1 : σ.tok K2 = s.tok K := (GJ (by rw [hd, hp']; rfl)).1
  obtain ⟨σ', e5, d, q⟩ := (g.sim K2).run rest σ hd hn he
  exact ⟨σ', by unfold punless; rw [d1, if_neg hc]; exact e5, d, q⟩
def pconstA (K : List Tk) (r : Rec) (a : Nat) : PM Int := (pof K 1).bind fun nm => (punless K r [61]).bind fun t => (pmust K [61]).bind fun _ => (r.expr 1).bind fun v => pnode 23 nm a [t, v]
def pvarA (K : List Tk) (r : Rec) (a : Nat) : PM Int := (pof K 1).bind fun nm => (punless K r [61]).bind fun t => pwhen K [61] ((r.expr 1).bind fun v => pnode 24 nm a [t, v]) (pnone.bind fun v => pnode 24 nm a [t, v])
def ptyA (K : List Tk) (r : Rec) (nm : Bs) (a : Nat) (has : Bool) : PM Int := (ptypes K r has).bind fun ts => r.typ.bind fun t => pnode 25 nm a [ts, t]
def ptypeA (K : List Tk) (r : Rec) (a : Nat) : PM Int := (pof K 1).bind fun nm => fun s1 => ptyA K r nm a (phas K s1) s1
def precvA (K : List Tk) (r : Rec) (a : Nat) : PM Int := pwhen K [40] ((pof K 1).bind fun nm => r.typ.bind fun t => (pmust K [41]).bind fun _ => pnode 29 nm a [t]) pnone
def psigB (K : List Tk) (r : Rec) (nm : Bs) (a : Nat) (recv ty : Int) (b : Nat) : PM Int := (psignature K r b).bind fun sig => (pbody K r).bind fun bd => pnode 28 nm a [recv, ty, sig, bd]
def ptysB (K : List Tk) (r : Rec) (nm : Bs) (a : Nat) (recv : Int) (has : Bool) : PM Int := (ptypes K r has).bind fun ty => fun s2 => psigB K r nm a recv ty s2.i s2
def pfunB (K : List Tk) (r : Rec) (a : Nat) (recv : Int) : PM Int := (pof K 1).bind fun nm => fun s1 => ptysB K r nm a recv (isB (s1.tok K) [[91]]) s1
def pfunA (K : List Tk) (r : Rec) (a b : Nat) : PM Int := (precvA K r b).bind fun recv => pfunB K r a recv
def NoHas (r : List Tk → Rec) : Prop := ∀ K s v s', (r K).typ s = .ok (v, s') → phas K s = false
theorem phas_i {K : List Tk} {s t : PS} (h : s.i = t.i) : phas K s = phas K t := by
  unfold phas
  have : s.tok K = t.tok K := by show tkAt K s.i = tkAt K t.i; rw [h]
  rw [this, h]
theorem ptype_s (ko : KO K) (w : Wf K) (hr : RecS K r) (hn : NoHas r) {a0 : Nat} {s s' : PS} {v : Int} (h : ptypeA K (r K) a0 s = .ok (v, s')) : ∃ p, Pt s'.nodes v (some (7, kwType) :: none :: p) ∧ ∀ K2 a, Sim K K2 (ptypeA K2 (r K2) a) s v s' (toks p) := by
  obtain ⟨nm, s1, h1, h⟩ := Gt h
  obtain ⟨k1, e1, e2⟩ := pof_ok h1
  subst e1 e2
  have tS := ko.at (i := s.i) (show (s.tok K).1 ≠ 0 by rw [k1]; decide)
  obtain ⟨ts, s2, h2, h⟩ := Gt h
  obtain ⟨t, s3, h3, h4⟩ := Gt h
  obtain ⟨T, pT, sT, tF, tT⟩ := ptypes_s ko hr h2
  obtain ⟨p, g, _⟩ := hr.typ _ _ _ h3
  obtain ⟨p', hp'⟩ := g.hd
  obtain ⟨e3, e4⟩ := GI h4
  obtain ⟨new, en⟩ := (g.sim []).src.pre
  have S : ∀ K2 a, Sim K K2 (ptyA K2 (r K2) (s.tok K).2 a (phas K s.next)) s.next v s' (toks (T ++ (none :: p))) := fun K2 a =>
    Sim.cast (by simp) (Sim.bind (sT K2) (Sim.bind (g.sim K2) (Sim.node h4)))
  refine ⟨some (s.tok K) :: (T ++ (none :: p)), ?_, fun K2 a => Sim.cast (by rw [GY]; rfl) (Sim.bind (f := fun nm => fun s1 => ptyA K2 (r K2) nm a (phas K2 s1) s1) (Sim.of k1 (by decide)) ⟨(S [] 0).src, fun rest σ hd hnx he => ?_⟩)⟩
  · subst e3 e4
    exact Pt.typeD tS k1 (show PtT s3.nodes ts T by rw [en]; exact pT.more new) g.pt
  obtain ⟨σ', r1, d, q⟩ := (S K2 a).run rest σ hd hnx he
  have hh : phas K2 σ = phas K s.next := by
    cases hb : phas K s.next with
    | true =>
      obtain ⟨t0, T', eT⟩ := tT hb
      rw [eT] at hd
      have d0 : K2.drop σ.i = (6, [91]) :: s.next.next.tok K :: s.next.next.next.tok K :: (toks T' ++ (toks p ++ rest)) := by rw [hd]; simp
      obtain ⟨a1, a2, _⟩ := GJ d0
      obtain ⟨b1, b2, _⟩ := GJ a2
      obtain ⟨c1, _, c3⟩ := GJ b2
      unfold phas at hb ⊢
      simp only [Bool.and_eq_true, Bool.or_eq_true, beq_iff_eq] at hb
      have l1 : (s.next.tok K).1 ≠ 0 := by rw [t0]; decide
      have m1 := behind_eq w l1
      rw [m1] at hb
      have l2 : (tkAt K (s.next.i + 1)).1 ≠ 0 := by rw [hb.2.1]; decide
      have m2 := behind_eq w (s := s.next.next) l2
      have m3 : min (s.next.i + 2) (K.length - 1) = s.next.i + 2 := m2
      rw [m3] at hb
      have n1 : min (σ.i + 1) (K2.length - 1) = σ.i + 1 := by omega
      have n2 : min (σ.i + 2) (K2.length - 1) = σ.i + 2 := by omega
      have f0 : σ.tok K2 = (6, [91]) := a1
      have f1 : tkAt K2 (σ.i + 1) = tkAt K (s.next.i + 1) := b1
      have f2 : tkAt K2 (σ.i + 2) = tkAt K (s.next.i + 2) := c1
      rw [n1, n2, f0, f1, f2]
      simp only [Bool.and_eq_true, Bool.or_eq_true, beq_iff_eq]
      exact ⟨rfl, hb.2⟩
    | false =>
      obtain ⟨eT, ei⟩ := tF hb
      rw [hb] at r1
      obtain ⟨ts2, σ1, q1, q2⟩ := Gt r1
      obtain ⟨t2, σ2, q3, _⟩ := Gt q2
      have := hn K2 _ _ _ q3
      have hi : σ1.i = σ.i := by
        obtain ⟨_, e9⟩ := GI (show pnode 26 [] σ.i [] σ = .ok (ts2, σ1) from q1)
        rw [e9]
      rw [← phas_i hi]; exact this
  exact ⟨σ', by rw [hh]; exact r1, d, q⟩
theorem pfun_s (ko : KO K) (hr : RecS K r) {a0 b0 : Nat} {s s' : PS} {v : Int} (h : pfunA K (r K) a0 b0 s = .ok (v, s')) : ∃ p, Pt s'.nodes v (some (7, kwFunc) :: none :: p) ∧ ∀ K2 a b, Sim K K2 (pfunA K2 (r K2) a b) s v s' (toks p) := by
  obtain ⟨recv, s1, h1, h⟩ := Gt h
  have M : ∃ q, PtR s1.nodes recv q ∧ ∀ K2 b, Sim K K2 (precvA K2 (r K2) b) s recv s1 (toks q) := by
    rcases GV h1 with ⟨hb, h1⟩ | ⟨hb, h1⟩
    · have t0 := ko.op hb (by rw [GR]; decide)
      obtain ⟨nm, s2, h2, h1⟩ := Gt h1
      obtain ⟨k1, e1, e2⟩ := pof_ok h2
      subst e1 e2
      obtain ⟨t, s3, h3, h1⟩ := Gt h1
      obtain ⟨p, g, _⟩ := hr.typ _ _ _ h3
      obtain ⟨u, s4, h4, h5⟩ := Gt h1
      obtain ⟨hb5, e5⟩ := HJ h4
      subst e5
      obtain ⟨e3, e4⟩ := GI h5
      have t1 := ko.op hb5 (by rw [GR]; decide)
      have tS := ko.at (i := s.next.i) (show (s.next.tok K).1 ≠ 0 by rw [k1]; decide)
      have P := Pt.named (tn := b0) (k := 29) (a := s3.next.nodes) (.inr (.inr (.inr rfl))) tS k1 g.pt
      refine ⟨some (6, [40]) :: ((some (s.next.tok K) :: none :: p) ++ [some (6, [41]), none]), .inr ⟨_, by subst e3 e4; exact P, rfl⟩, fun K2 b => ?_⟩
      unfold precvA
      exact Sim.cast (by rw [t0, t1]; simp) (Sim.whenT hb (Sim.bind (Sim.of k1 (by decide)) (Sim.bind (g.sim K2) (Sim.bind (Sim.must hb5) (Sim.node h5)))))
    obtain ⟨e3, e4⟩ := GI h1
    exact ⟨[], .inl ⟨by subst e3 e4; exact Kd.new _ ⟨0, [], [], s.i⟩, rfl⟩, fun K2 b => Sim.whenF hb (by decide) (Sim.none h1)⟩
  obtain ⟨qr, pr, sr⟩ := M
  obtain ⟨nm, s2, h2, h⟩ := Gt h
  obtain ⟨k1, e1, e2⟩ := pof_ok h2
  subst e1 e2
  have tS := ko.at (i := s1.i) (show (s1.tok K).1 ≠ 0 by rw [k1]; decide)
  obtain ⟨ty, s3, h3, h⟩ := Gt h
  obtain ⟨T, pT, sT, tF, tT⟩ := ptypes_s ko hr h3
  obtain ⟨sig, s4, h4, h⟩ := Gt h
  obtain ⟨B, gB⟩ := psig_s ko hr h4
  obtain ⟨B', hB'⟩ := gB.hd
  obtain ⟨bd, s5, h5, h6⟩ := Gt h
  obtain ⟨pb, gb, _, sb⟩ := pbody_s ko hr h5
  obtain ⟨e3, e4⟩ := GI h6
  obtain ⟨n1, en1⟩ := (sT []).src.pre
  obtain ⟨n2, en2⟩ := (gB.sim [] 0).src.pre
  obtain ⟨n3, en3⟩ := (sb []).src.pre
  have P : Pt (mkd s5.nodes 28 (s1.tok K).2 [recv, ty, sig, bd] a0) (s5.nodes.length : Int) (some (7, kwFunc) :: none :: (qr ++ (some (s1.tok K) :: (T ++ (B ++ (none :: pb)))))) := by
    refine Pt.decl tS k1 ?_ ?_ ?_ gb
    · have : PtR s3.nodes recv qr := by rw [en1]; exact pr.more n1
      have : PtR s4.nodes recv qr := by rw [en2]; exact this.more n2
      rw [en3]; exact this.more n3
    · have : PtT s4.nodes ty T := by rw [en2]; exact pT.more n2
      rw [en3]; exact this.more n3
    rw [en3]; exact gB.pt.more n3
  refine ⟨qr ++ (some (s1.tok K) :: (T ++ (B ++ (none :: pb)))), by subst e3 e4; exact P, fun K2 a b => ?_⟩
  have S1 : ∀ i, Sim K K2 (psigB K2 (r K2) (s1.tok K).2 a recv ty i) s3 v s' (toks B ++ toks pb) := fun i =>
    Sim.cast (by simp) (Sim.bind (gB.sim K2 i) (Sim.bind (sb K2) (Sim.node h6)))
  have S2 : Sim K K2 (ptysB K2 (r K2) (s1.tok K).2 a recv (isB (s1.next.tok K) [[91]])) s1.next v s' (toks T ++ (toks B ++ toks pb)) :=
    Sim.bind (sT K2) (Sim.at (F := fun i => psigB K2 (r K2) (s1.tok K).2 a recv ty i) S1)
  have hx : ∃ ts', toks T ++ (toks B ++ toks pb) = s1.next.tok K :: ts' := by
    cases hb : isB (s1.next.tok K) [[91]] with
    | true =>
      obtain ⟨t0, T', eT⟩ := tT hb
      exact ⟨_, by rw [eT, t0]; rfl⟩
    | false =>
      obtain ⟨eT, ei⟩ := tF hb
      have : s1.next.tok K = (6, [40]) := by
        have := gB.tok
        have e8 : s3.tok K = s1.next.tok K := by show tkAt K s3.i = tkAt K s1.next.i; rw [ei]
        rw [← e8]; exact this
      exact ⟨_, by rw [eT, hB', this]; rfl⟩
  obtain ⟨ts', hx⟩ := hx
  refine Sim.cast ?_ (Sim.bind (f := fun recv => pfunB K2 (r K2) a recv) (sr K2 b) (Sim.bind (f := fun nm => fun s1 => ptysB K2 (r K2) nm a recv (isB (s1.tok K2) [[91]]) s1) (Sim.of k1 (by decide)) (Sim.peek (c := fun t => isB t [[91]]) (F := fun has => ptysB K2 (r K2) (s1.tok K).2 a recv has) hx S2)))
  simp
def pdeclA (K : List Tk) (r : Rec) (a : Nat) : PM Int :=
  pwhen K [99, 111, 110, 115, 116] (pconstA K r a) (pwhen K [118, 97, 114] (pvarA K r a) (pwhen K [116, 121, 112, 101] (ptypeA K r a) (pwhen K [102, 117, 110, 99] (fun s => pfunA K r a s.i s) (pfail 5))))
theorem pdecl_s (ko : KO K) (w : Wf K) (hr : RecS K r) (hn : NoHas r) {s s' : PS} {v : Int} (h : pdecl K (r K) s = .ok (v, s')) : ∃ p, Pt s'.nodes v p ∧ (∃ p', p = some (s.tok K) :: p') ∧ ∀ K2, Sim K K2 (pdecl K2 (r K2)) s v s' (toks p) := by
  replace h : pdeclA K (r K) s.i s = .ok (v, s') := h
  unfold pdeclA at h
  have fin : ∀ {p : Pcs}, (∀ K2 a, Sim K K2 (pdeclA K2 (r K2) a) s v s' (toks p)) → ∀ K2, Sim K K2 (pdecl K2 (r K2)) s v s' (toks p) := fun hp K2 => Sim.at (F := fun i => pdeclA K2 (r K2) i) fun a => hp K2 a
  rcases GV h with ⟨hb, h⟩ | ⟨hb, h⟩
  · have t0 := ko.key hb (kw2_mem kwConst (by simp)).2
    obtain ⟨nm, s1, h1, h⟩ := Gt h
    obtain ⟨k1, e1, e2⟩ := pof_ok h1
    subst e1 e2
    have tS := ko.at (i := s.next.i) (show (s.next.tok K).1 ≠ 0 by rw [k1]; decide)
    obtain ⟨t, s2, h2, h⟩ := Gt h
    obtain ⟨q, pq, sq⟩ := punless_s hr h2
    obtain ⟨u, s3, h3, h⟩ := Gt h
    obtain ⟨hb3, e3⟩ := HJ h3
    subst e3
    have t1 := ko.op hb3 (by rw [GR]; decide)
    obtain ⟨x, s4, h4, h5⟩ := Gt h
    obtain ⟨pe, g⟩ := hr.expr 1 _ _ _ h4
    obtain ⟨e3, e4⟩ := GI h5
    obtain ⟨new, en⟩ := (g.sim []).src.pre
    have P := Pt.value (tn := s.i) (k := 23) (.inl ⟨rfl, rfl⟩) tS k1 (show PtX s4.nodes t q by rw [en]; exact pq.more new) (.inr ⟨pe, g.pt, rfl⟩)
    refine ⟨_, by subst e3 e4; exact P, ⟨_, by rw [t0]; rfl⟩, fin fun K2 a => ?_⟩
    unfold pdeclA
    exact Sim.cast (by rw [t0, t1]; simp [kwConst]) (Sim.whenT hb (Sim.bind (Sim.of k1 (by decide)) (Sim.bind (sq K2) (Sim.bind (Sim.must hb3) (Sim.bind (g.sim K2) (Sim.node h5))))))
  rcases GV h with ⟨hb2, h⟩ | ⟨hb2, h⟩
  · have t0 := ko.key hb2 (kw2_mem kwVar (by simp)).2
    obtain ⟨nm, s1, h1, h⟩ := Gt h
    obtain ⟨k1, e1, e2⟩ := pof_ok h1
    subst e1 e2
    have tS := ko.at (i := s.next.i) (show (s.next.tok K).1 ≠ 0 by rw [k1]; decide)
    obtain ⟨t, s2, h2, h⟩ := Gt h
    obtain ⟨q, pq, sq⟩ := punless_s hr h2
    rcases GV h with ⟨hb3, h⟩ | ⟨hb3, h⟩
    · have t1 := ko.op hb3 (by rw [GR]; decide)
      obtain ⟨x, s4, h4, h5⟩ := Gt h
      obtain ⟨pe, g⟩ := hr.expr 1 _ _ _ h4
      obtain ⟨e3, e4⟩ := GI h5
      obtain ⟨new, en⟩ := (g.sim []).src.pre
      have P := Pt.value (tn := s.i) (k := 24) (.inr ⟨rfl, rfl⟩) tS k1 (show PtX s4.nodes t q by rw [en]; exact pq.more new) (.inr ⟨pe, g.pt, rfl⟩)
      refine ⟨_, by subst e3 e4; exact P, ⟨_, by rw [t0]; rfl⟩, fin fun K2 a => ?_⟩
      unfold pdeclA
      exact Sim.cast (by rw [t0, t1]; simp [kwVar]) (Sim.whenF hb (by decide) (Sim.whenT hb2 (Sim.bind (Sim.of k1 (by decide)) (Sim.bind (sq K2) (Sim.whenT hb3 (Sim.bind (g.sim K2) (Sim.node h5)))))))
    obtain ⟨x, s4, h4, h5⟩ := Gt h
    obtain ⟨e3, e4⟩ := GI h5
    obtain ⟨e5, e6⟩ := GI h4
    have kx : Kd s4.nodes x 0 := by subst e5 e6; exact Kd.new _ ⟨0, [], [], s2.i⟩
    have P := Pt.value (tn := s.i) (k := 24) (.inr ⟨rfl, rfl⟩) tS k1 (show PtX s4.nodes t q by rw [e6]; exact pq.more _) (.inl ⟨kx, rfl⟩)
    refine ⟨_, by subst e3 e4; exact P, ⟨_, by rw [t0]; rfl⟩, fin fun K2 a => ?_⟩
    unfold pdeclA
    exact Sim.cast (by rw [t0]; simp [kwVar]) (Sim.whenF hb (by decide) (Sim.whenT hb2 (Sim.bind (Sim.of k1 (by decide)) (Sim.bind (sq K2) (Sim.whenF hb3 (by decide) (Sim.bind (Sim.none h4) (Sim.node h5)))))))
  rcases GV h with ⟨hb3, h⟩ | ⟨hb3, h⟩
  · have t0 := ko.key hb3 (kw2_mem kwType (by simp)).2
    obtain ⟨p, P, S⟩ := ptype_s ko w hr hn h
    refine ⟨_, P, ⟨_, by rw [t0]; rfl⟩, fin fun K2 a => ?_⟩
    unfold pdeclA
    exact Sim.cast (by rw [t0]; simp [kwType]) (Sim.whenF hb (by decide) (Sim.whenF hb2 (by decide) (Sim.whenT hb3 (S K2 a))))
  rcases GV h with ⟨hb4, h⟩ | ⟨hb4, h⟩
  · have t0 := ko.key hb4 (kw2_mem kwFunc (by simp)).2
    obtain ⟨p, P, S⟩ := pfun_s ko hr h
    refine ⟨_, P, ⟨_, by rw [t0]; rfl⟩, fin fun K2 a => ?_⟩
    unfold pdeclA
    exact Sim.cast (by rw [t0]; simp [kwFunc]) (Sim.whenF hb (by decide) (Sim.whenF hb2 (by decide) (Sim.whenF hb3 (by decide) (Sim.whenT hb4 (Sim.at (F := fun i => pfunA K2 (r K2) a i) fun b => S K2 a b)))))
  exact (Hx h).elim
end
end Go.Sy
namespace Go.Sy
open Go
theorem whileF_spec (p : Nat → UInt8 → Bool) : ∀ (s : Bs) (k : Nat), ∃ m, whileF p k s = k + m ∧ m ≤ s.length ∧ (∀ i, i < m → p (k + i) (s.getD i 0) = true) ∧ (m < s.length → p (k + m) (s.getD m 0) = false)
  | [], k => ⟨0, rfl, Nat.le_refl _, fun i h => absurd h (Nat.not_lt_zero _), fun h => absurd h (Nat.not_lt_zero _)⟩
  | c :: r, k => by
    unfold whileF
    cases hp : p k c with
    | false => exact ⟨0, by simp, Nat.zero_le _, fun i h => absurd h (Nat.not_lt_zero _), fun _ => by simpa using hp⟩
    | true =>
      obtain ⟨m, h1, h2, h3, h4⟩ := whileF_spec p r (k + 1)
      refine ⟨m + 1, by simp only [if_true]; rw [h1]; omega, by simp only [List.length_cons]; omega, fun i hi => ?_, fun hm => ?_⟩
      · cases i with
        | zero => simpa using hp
        | succ i => have := h3 i HS; rw [show k + 1 + i = k + (i + 1) by omega] at this; simpa using this
      have := h4 (by simp only [List.length_cons] at hm; omega)
      rw [show k + 1 + m = k + (m + 1) by omega] at this; simpa using this
theorem whileF_of (p : Nat → UInt8 → Bool) (s : Bs) : ∀ (x : Bs) (k : Nat), (∀ i, i < x.length → p (k + i) (x.getD i 0) = true) → (∀ c r, s = c :: r → p (k + x.length) c = false) → whileF p k (x ++ s) = k + x.length
  | [], k, _, h2 => by
    cases s with
    | nil => rfl
    | cons c r =>
      have := h2 c r rfl
      show (if p k c = true then _ else k) = k
      rw [show p k c = false from this]; rfl
  | c :: x, k, h1, h2 => by
    have hc : p k c = true := by simpa using h1 0 (by simp)
    show (if p k c = true then whileF p (k + 1) (x ++ s) else k) = _
    rw [if_pos hc, whileF_of p s x (k + 1) (fun i hi => ?_) (fun c' r e => ?_), List.length_cons]
    · omega
    · have := h1 (i + 1) (by simp only [List.length_cons]; omega)
      rw [show k + 1 + i = k + (i + 1) by omega]; simpa using this
    have := h2 c' r e
    rw [List.length_cons] at this
    rw [show k + 1 + x.length = k + (x.length + 1) by omega]; exact this
theorem take_getD {s : Bs} {n i : Nat} (h : i < n) : (s.take n).getD i 0 = s.getD i 0 := by
  rw [List.getD_eq_getElem?_getD, List.getD_eq_getElem?_getD, List.getElem?_take_of_lt h]
theorem take_len {s : Bs} {n : Nat} (h : n ≤ s.length) : (s.take n).length = n := by rw [List.length_take]; omega
theorem letC_dig {c : UInt8} (h : digC c = true) : letC c = false := by
  unfold digC at h
  simp only [Bool.and_eq_true, decide_eq_true_eq] at h
  cases hl : letC c with
  | false => rfl
  | true =>
    unfold letC at hl
    simp only [Bool.or_eq_true, Bool.and_eq_true, decide_eq_true_eq, beq_iff_eq] at hl
    omega
theorem c0_num {c : UInt8} (h : c0 c = true) : wordC c = false ∧ c.toNat ≠ 46 ∧ c.toNat ≠ 43 ∧ c.toNat ≠ 45 ∧ ([120, 88, 98, 66, 111, 79] : List UInt8).contains c = false := by
  rcases c0_cases h with h | h | h | h | h | h | h | h <;> (subst h; refine ⟨rfl, by decide, by decide, by decide, rfl⟩)
theorem num_tok {s : Bs} (hs : s ≠ []) (hc : (digC (s.getD 0 0) || ((s.getD 0 0).toNat == 46 && decide (1 < s.length) && digC (s.getD 1 0))) = true) {s' : Bs} (h0 : C0 s') : Tok1 ((numberB s).1, s.take (numberB s).2) s' := by
  have hl := letC_dig (c := s.getD 0 0)
  obtain ⟨m, h1, h2, h3, h4⟩ := whileF_spec (numP s (hexB s)) s 0
  rw [Nat.zero_add] at h1
  have hlen : 0 < s.length := List.length_pos_iff.2 hs
  -- the first byte is the number's
  have hm0 : 0 < m := by
    rcases Nat.eq_zero_or_pos m with q | q
    · subst q
      have := h4 hlen
      rw [Nat.zero_add] at this
      unfold numP at this
      simp only [Bool.or_eq_false_iff] at this
      simp only [Bool.or_eq_true, Bool.and_eq_true, beq_iff_eq] at hc
      rcases hc with q | q
      · have := this.1.1
        unfold wordC at this
        rw [q] at this; simp at this
      have := this.1.2
      rw [beq_eq_false_iff_ne] at this
      exact absurd q.1.1 this
    exact q
  have hn : (numberB s).2 = m := h1
  have hk : (numberB s).1 = if (!basedB s && Lib.containsAny (s.take m) [46, 101, 69]) = true then 3 else 2 := by
    unfold numberB; simp only [h1]
  rw [hn]
  have hxl : (s.take m).length = m := take_len h2
  have hg : ∀ i, i < m → (s.take m ++ s').getD i 0 = s.getD i 0 := fun i hi => by
    rw [getD_appV (by rw [hxl]; exact hi), take_getD hi]
  have hg0 := hg 0 hm0
  -- of another base or not, as before
  have hb : basedB (s.take m ++ s') = basedB s := by
    unfold basedB
    rw [hg0]
    rcases Nat.lt_or_ge 1 m with q | q
    · rw [hg 1 q]
      have e1 : decide (1 < (s.take m ++ s').length) = true := by rw [decide_eq_true_eq, List.length_append, hxl]; omega
      have e2 : decide (1 < s.length) = true := by rw [decide_eq_true_eq]; omega
      rw [e1, e2]
    have hm1 : m = 1 := by omega
    subst hm1
    have r1 : (decide (1 < s.length) && ((s.getD 0 0).toNat == 48) && ([120, 88, 98, 66, 111, 79] : List UInt8).contains (s.getD 1 0)) = false := by
      rcases Nat.lt_or_ge 1 s.length with p | p
      · have h5 := h4 p
        rw [Nat.zero_add] at h5
        unfold numP at h5
        simp only [Bool.or_eq_false_iff] at h5
        have h6 := h5.1.1
        have : ([120, 88, 98, 66, 111, 79] : List UInt8).contains (s.getD 1 0) = false := by
          cases hcc : ([120, 88, 98, 66, 111, 79] : List UInt8).contains (s.getD 1 0) with
          | false => rfl
          | true =>
            exfalso
            simp only [List.contains_iff_mem, List.mem_cons, List.not_mem_nil, or_false] at hcc
            rcases hcc with e | e | e | e | e | e <;> (rw [e] at h6; exact absurd h6 (by decide))
        rw [this, Bool.and_false]
      have : decide (1 < s.length) = false := by rw [decide_eq_false_iff_not]; omega
      rw [this]; rfl
    rw [r1]
    cases s' with
    | nil =>
      have : decide (1 < (s.take 1 ++ []).length) = false := by rw [decide_eq_false_iff_not, List.length_append, hxl]; simp
      rw [this]; rfl
    | cons c r =>
      have e3 : (s.take 1 ++ c :: r).getD 1 0 = c := by
        rw [List.getD_eq_getElem?_getD, List.getElem?_append_right (by rw [hxl]; exact Nat.le_refl _), hxl]; rfl
      rw [e3, (c0_num h0).2.2.2.2, Bool.and_false]
  have hx : hexB (s.take m ++ s') = hexB s := by
    unfold hexB
    rw [hb]
    cases hbs : basedB s with
    | false => rfl
    | true =>
      have q : 1 < m := by
        rcases Nat.lt_or_ge 1 m with q | q
        · exact q
        exfalso
        have hm1 : m = 1 := by omega
        subst hm1
        unfold basedB at hbs
        simp only [Bool.and_eq_true, decide_eq_true_eq] at hbs
        have h5 := h4 hbs.1.1
        rw [Nat.zero_add] at h5
        unfold numP at h5
        simp only [Bool.or_eq_false_iff] at h5
        have h6 := h5.1.1
        have hcc := hbs.2
        simp only [List.contains_iff_mem, List.mem_cons, List.not_mem_nil, or_false] at hcc
        rcases hcc with e | e | e | e | e | e <;> (rw [e] at h6; exact absurd h6 (by decide))
      rw [hg 1 q]
  have hw : whileF (numP (s.take m ++ s') (hexB (s.take m ++ s'))) 0 (s.take m ++ s') = m := by
    have := whileF_of (numP (s.take m ++ s') (hexB (s.take m ++ s'))) s' (s.take m) 0 (fun i hi => ?_) (fun c r e => ?_)
    · rw [this, hxl, Nat.zero_add]
    · rw [hxl] at hi
      have h5 := h3 i hi
      rw [take_getD hi, hx]
      rw [Nat.zero_add] at h5 ⊢
      unfold numP at h5 ⊢
      rcases Nat.eq_zero_or_pos i with q | q
      · subst q; simpa using h5
      rw [hg (i - 1) HS]; exact h5
    subst e
    obtain ⟨a1, a2, a3, a4, _⟩ := c0_num h0
    unfold numP
    rw [a1]
    simp [a2, a3, a4]
  have hnum : numberB (s.take m ++ s') = ((numberB s).1, m) := by
    unfold numberB
    simp only [hw, hb, h1]
    rw [List.take_left' hxl]
  have hc2 : (digC ((s.take m ++ s').getD 0 0) || (((s.take m ++ s').getD 0 0).toNat == 46 && decide (1 < (s.take m ++ s').length) && digC ((s.take m ++ s').getD 1 0))) = true := by
    rw [hg0]
    simp only [Bool.or_eq_true, Bool.and_eq_true, beq_iff_eq, decide_eq_true_eq] at hc ⊢
    rcases hc with q | ⟨⟨q1, q2⟩, q3⟩
    · exact .inl q
    right
    have q : 1 < m := by
      rcases Nat.lt_or_ge 1 m with q | q
      · exact q
      exfalso
      have hm1 : m = 1 := by omega
      subst hm1
      have h5 := h4 q2
      rw [Nat.zero_add] at h5
      unfold numP wordC at h5
      rw [q3] at h5; simp at h5
    exact ⟨⟨q1, by rw [List.length_append, hxl]; omega⟩, by rw [hg 1 q]; exact q3⟩
  have hnl : letC ((s.take m ++ s').getD 0 0) = false := by
    rw [hg0]
    simp only [Bool.or_eq_true, Bool.and_eq_true, beq_iff_eq, decide_eq_true_eq] at hc
    rcases hc with q | ⟨⟨q1, q2⟩, q3⟩
    · exact hl q
    cases hll : letC (s.getD 0 0) with
    | false => rfl
    | true =>
      exfalso
      unfold letC at hll
      simp only [Bool.or_eq_true, Bool.and_eq_true, decide_eq_true_eq, beq_iff_eq] at hll
      omega
  refine ⟨?_, ?_⟩
  · unfold tokenB
    simp only
    rw [hnl]
    simp only [Bool.false_eq_true, if_false]
    rw [if_pos hc2, hnum, hxl]
  obtain ⟨c, r, e⟩ : ∃ c r, s.take m ++ s' = c :: r := by
    cases e : s.take m ++ s' with
    | nil =>
      have := congrArg List.length e
      rw [List.length_append, hxl] at this; simp at this; omega
    | cons c r => exact ⟨c, r, rfl⟩
  rw [e]
  have hcc : c = s.getD 0 0 := by rw [← hg0, e]; rfl
  have hd : (48 ≤ c.toNat ∧ c.toNat ≤ 57) ∨ c.toNat = 46 := by
    rw [hcc]
    simp only [Bool.or_eq_true, Bool.and_eq_true, beq_iff_eq, decide_eq_true_eq] at hc
    rcases hc with q | ⟨⟨q1, _⟩, _⟩
    · unfold digC at q; simp only [Bool.and_eq_true, decide_eq_true_eq] at q; exact .inl q
    exact .inr q1
  have ne : ∀ d : UInt8, d.toNat ≠ 46 → (d.toNat < 48 ∨ 57 < d.toNat) → c ≠ d := fun d h5 h6 e => by subst e; omega
  exact skip_none ⟨ne 9 (by decide) (by decide), ne 13 (by decide) (by decide), ne 32 (by decide) (by decide), ne 10 (by decide) (by decide)⟩ (ne 47 (by decide) (by decide))
end Go.Sy
namespace Go.Sy
open Go
theorem quotedF_cons (q : UInt8) (raw : Bool) (i : Nat) (c : UInt8) (r : Bs) : quotedF q raw i (c :: r) = if c = q then i + 1 else if (!raw && c.toNat == 10) = true then 0 else if (!raw && c.toNat == 92) = true then (match r with
      | [] => 0
      | e :: r' => if e.toNat = 10 then 0 else quotedF q raw (i + 2) r') else quotedF q raw (i + 1) r := by
  rw [quotedF.eq_def]
  cases r <;> rfl
theorem quotedF_spec (q : UInt8) (raw : Bool) : ∀ (k : Nat) (s : Bs) (i : Nat), s.length ≤ k → quotedF q raw i s ≠ 0 → i < quotedF q raw i s ∧ quotedF q raw i s ≤ i + s.length ∧ ∀ s', quotedF q raw i (s.take (quotedF q raw i s - i) ++ s') = quotedF q raw i s
  | _, [], i, _, h => absurd (by simp [quotedF]) h
  | 0, c :: r, i, hk, h => by simp at hk
  | k + 1, c :: r, i, hk, h => by
    simp only [List.length_cons] at hk
    have e0 := quotedF_cons q raw i c r
    by_cases h1 : c = q
    · have e1 : quotedF q raw i (c :: r) = i + 1 := by rw [e0, if_pos h1]
      rw [e1]
      refine ⟨by omega, by simp only [List.length_cons]; omega, fun s' => ?_⟩
      rw [show i + 1 - i = 1 by omega]
      show quotedF q raw i (c :: s') = i + 1
      rw [quotedF_cons, if_pos h1]
    by_cases h2 : (!raw && c.toNat == 10) = true
    · rw [e0, if_neg h1, if_pos h2] at h; exact absurd rfl h
    by_cases h3 : (!raw && c.toNat == 92) = true
    · cases r with
      | nil => rw [e0, if_neg h1, if_neg h2, if_pos h3] at h; exact absurd rfl h
      | cons e r' =>
        have e1 : quotedF q raw i (c :: e :: r') = if e.toNat = 10 then 0 else quotedF q raw (i + 2) r' := by rw [e0, if_neg h1, if_neg h2, if_pos h3]
        by_cases h4 : e.toNat = 10
        · rw [e1, if_pos h4] at h; exact absurd rfl h
        rw [if_neg h4] at e1
        rw [e1] at h ⊢
        simp only [List.length_cons] at hk
        obtain ⟨a1, a2, a3⟩ := quotedF_spec q raw k r' (i + 2) HS h
        refine ⟨by omega, by simp only [List.length_cons]; omega, fun s' => ?_⟩
        have : quotedF q raw (i + 2) r' - i = (quotedF q raw (i + 2) r' - (i + 2)) + 2 := by omega
        rw [this]
        show quotedF q raw i (c :: e :: (r'.take _ ++ s')) = _
        rw [quotedF_cons, if_neg h1, if_neg h2, if_pos h3]
        show (if e.toNat = 10 then 0 else quotedF q raw (i + 2) (r'.take _ ++ s')) = _
        rw [if_neg h4, a3]
    have e1 : quotedF q raw i (c :: r) = quotedF q raw (i + 1) r := by rw [e0, if_neg h1, if_neg h2, if_neg h3]
    rw [e1] at h ⊢
    obtain ⟨a1, a2, a3⟩ := quotedF_spec q raw k r (i + 1) HS h
    refine ⟨by omega, by simp only [List.length_cons]; omega, fun s' => ?_⟩
    have : quotedF q raw (i + 1) r - i = (quotedF q raw (i + 1) r - (i + 1)) + 1 := by omega
    rw [this]
    show quotedF q raw i (c :: (r.take _ ++ s')) = _
    rw [quotedF_cons, if_neg h1, if_neg h2, if_neg h3]
    exact a3 s'
theorem quoted_tok {c : UInt8} {r : Bs} (hc : (c.toNat == 39 || c.toNat == 34 || c.toNat == 96) = true) (h : quotedB (c :: r) ≠ 0) (s' : Bs) : Tok1 (if c.toNat = 39 then 4 else 5, (c :: r).take (quotedB (c :: r))) s' := by
  have e : quotedB (c :: r) = quotedF c (c.toNat == 96) 1 r := rfl
  rw [e] at h ⊢
  obtain ⟨a1, a2, a3⟩ := quotedF_spec c (c.toNat == 96) r.length r 1 (Nat.le_refl _) h
  obtain ⟨m, hm⟩ : ∃ m, quotedF c (c.toNat == 96) 1 r = m + 1 := ⟨quotedF c (c.toNat == 96) 1 r - 1, by omega⟩
  rw [hm] at a1 a2 a3 ⊢
  have hx : (c :: r).take (m + 1) = c :: r.take m := rfl
  rw [hx]
  have hq : quotedB (c :: (r.take m ++ s')) = m + 1 := by
    show quotedF c (c.toNat == 96) 1 (r.take m ++ s') = _
    have := a3 s'
    rwa [Nat.add_sub_cancel] at this
  simp only [Bool.or_eq_true, beq_iff_eq] at hc
  have hv : c = 39 ∨ c = 34 ∨ c = 96 := by
    rcases hc with (q | q) | q
    · exact .inl (UInt8.toNat_inj.1 q)
    · exact .inr (.inl (UInt8.toNat_inj.1 q))
    exact .inr (.inr (UInt8.toNat_inj.1 q))
  have hl : (c :: r.take m).length = m + 1 := by rw [List.length_cons, List.length_take]; omega
  refine ⟨?_, ?_⟩
  · show tokenB (c :: (r.take m ++ s')) = _
    rw [hl]
    have hq0 : quotedB (c :: (r.take m ++ s')) ≠ 0 := by omega
    rcases hv with e | e | e <;> subst e
    · show (if quotedB _ = 0 then _ else _) = _
      rw [if_neg hq0, hq]; rfl
    · show (if quotedB _ = 0 then _ else _) = _
      rw [if_neg hq0, hq]; rfl
    show (if quotedB _ = 0 then _ else _) = _
    rw [if_neg hq0, hq]; rfl
  show skippedB (c :: (r.take m ++ s')) = _
  rcases hv with e | e | e <;> (subst e; exact skip_none (by decide) (by decide))
theorem tok_of {s : Bs} {k : Int} {n : Nat} (hs : s ≠ []) (h : tokenB s = .ok (k, n)) (hv : Vd (s.take n)) : TokS (k, s.take n) ∧ Ez s := by
  obtain ⟨hn0, hn1, hk1, hk7⟩ := tokenB_le hs h
  obtain ⟨c, r, rfl⟩ : ∃ c r, s = c :: r := by cases s with
    | nil => exact absurd rfl hs
    | cons c r => exact ⟨c, r, rfl⟩
  have hne : (c :: r).take n ≠ [] := by
    intro e
    have := congrArg List.length e
    rw [take_len hn1] at this; simp at this; omega
  have hfirst : ((c :: r).take n).head? = some c := by cases n with
    | zero => omega
    | succ n => rfl
  have h' := h
  unfold tokenB at h'
  simp only [List.getD_cons_zero] at h'
  split at h'
  · -- a word
    rename_i hc
    obtain ⟨m, h1, h2, h3, _⟩ := whileF_spec (fun _ c => wordC c) (c :: r) 0
    rw [Nat.zero_add] at h1
    rw [h1] at h'
    have hall : ∀ d ∈ (c :: r).take m, wordC d = true := fun d hd => by
      obtain ⟨i, hi, e⟩ := List.getElem_of_mem hd
      rw [take_len h2] at hi
      have := h3 i hi
      rw [← e, List.getElem_take]
      rw [List.getD_eq_getElem?_getD, List.getElem?_eq_getElem HS] at this
      exact this
    have hez : Ez (c :: r) := by
      show c.toNat < 128
      unfold letC at hc
      simp only [Bool.or_eq_true, Bool.and_eq_true, decide_eq_true_eq, beq_iff_eq] at hc
      omega
    split at h'
    · cases h'
    rename_i h20
    have hmn : n = m ∧ k = if keysB.contains ((c :: r).take m) = true then 7 else 1 := by
      split at h' <;> (rename_i hk; injection h' with h'; injection h' with e1 e2; refine ⟨e2.symm, ?_⟩)
      · rw [if_pos hk]; exact e1.symm
      rw [if_neg hk]; exact e1.symm
    obtain ⟨e1, e2⟩ := hmn
    subst e1
    rw [e2]
    refine ⟨TokS.words ?_ hall (by rw [take_len hn1]; omega), hez⟩
    cases n with
    | zero => omega
    | succ n => exact hc
  rename_i hnl
  split at h'
  · -- a number
    rename_i hc
    injection h' with h'
    have hd : (48 ≤ c.toNat ∧ c.toNat ≤ 57) ∨ c.toNat = 46 := by
      simp only [Bool.or_eq_true, Bool.and_eq_true, beq_iff_eq, decide_eq_true_eq] at hc
      rcases hc with q | ⟨⟨q1, _⟩, _⟩
      · unfold digC at q; simp only [Bool.and_eq_true, decide_eq_true_eq] at q; exact .inl q
      exact .inr q1
    have hk : k = (numberB (c :: r)).1 := by rw [h']
    have hn : n = (numberB (c :: r)).2 := by rw [h']
    have hk23 : k = 2 ∨ k = 3 := by
      rw [hk]; unfold numberB; simp only
      split
      · exact .inr rfl
      exact .inl rfl
    have ne61 : c ≠ 61 := fun e => by subst e; revert hd; decide
    have ne10 : c ≠ 10 := fun e => by subst e; revert hd; decide
    have hez : Ez (c :: r) := by show c.toNat < 128; omega
    have hno : ∀ j : Int, j ≠ 2 → j ≠ 3 → ((k, (c :: r).take n) : Tk).1 = j → False := fun j h1 h2 e => by
      have e : k = j := e
      omega
    refine ⟨⟨hne, ⟨by show 1 ≤ k; omega, by show k ≤ 7; omega⟩, fun e => (hno 6 (by decide) (by decide) e).elim, fun e => (hno 7 (by decide) (by decide) e).elim, fun _ e => ?_, fun _ s' h0 => ?_, fun e => ?_, fun e => ?_, fun e => (hno 1 (by decide) (by decide) e).elim, fun _ e => ?_, hv⟩, hez⟩
    · have e : (c :: r).take n = [10] := e
      rw [e] at hfirst; injection hfirst with hf; exact ne10 hf.symm
    · have := num_tok (s := c :: r) (by simp) hc h0
      rw [← hk, ← hn] at this; exact this
    · exfalso; rcases e with e | e | e
      · exact hno 1 (by decide) (by decide) e
      · exact hno 4 (by decide) (by decide) e
      exact hno 5 (by decide) (by decide) e
    · exfalso; rcases e with e | e
      · exact hno 1 (by decide) (by decide) e
      exact hno 7 (by decide) (by decide) e
    have e : ((c :: r).take n).head? = some 61 := e
    rw [hfirst] at e; injection e with e; exact ne61 e
  rename_i hnd
  split at h'
  · -- a quoted text
    rename_i hc
    split at h'
    · cases h'
    rename_i hq
    injection h' with h'; injection h' with e1 e2
    have hd : c.toNat = 39 ∨ c.toNat = 34 ∨ c.toNat = 96 := by
      simp only [Bool.or_eq_true, beq_iff_eq] at hc; omega
    have ne61 : c ≠ 61 := fun e => by subst e; revert hd; decide
    have ne10 : c ≠ 10 := fun e => by subst e; revert hd; decide
    have hk45 : k = 4 ∨ k = 5 := by
      rw [← e1]; split
      · exact .inl rfl
      exact .inr rfl
    have hno : ∀ j : Int, j ≠ 4 → j ≠ 5 → ((k, (c :: r).take n) : Tk).1 = j → False := fun j h1 h2 e => by
      have e : k = j := e
      omega
    have ht : ∀ s', Tok1 (k, (c :: r).take n) s' := fun s' => by
      have := quoted_tok (c := c) (r := r) hc hq s'
      rw [e1, e2] at this; exact this
    refine ⟨⟨hne, ⟨by show 1 ≤ k; omega, by show k ≤ 7; omega⟩, fun e => (hno 6 (by decide) (by decide) e).elim, fun e => (hno 7 (by decide) (by decide) e).elim, fun _ e => ?_, fun _ s' _ => ht s', fun _ s' _ => ht s', fun e => ?_, fun e => (hno 1 (by decide) (by decide) e).elim, fun _ e => ?_, hv⟩, by show c.toNat < 128; omega⟩
    · have e : (c :: r).take n = [10] := e
      rw [e] at hfirst; injection hfirst with hf; exact ne10 hf.symm
    · exfalso; rcases e with e | e
      · exact hno 1 (by decide) (by decide) e
      exact hno 7 (by decide) (by decide) e
    have e : ((c :: r).take n).head? = some 61 := e
    rw [hfirst] at e; injection e with e; exact ne61 e
  split at h'
  · -- an operator
    rename_i o ho
    injection h' with h'; injection h' with e1 e2
    have h1 := List.find?_some ho
    have h2 := List.mem_of_find?_eq_some ho
    have hp : o <+: (c :: r) := List.isPrefixOf_iff_prefix.1 h1
    have hx : (c :: r).take n = o := by rw [← e2]; exact (List.prefix_iff_eq_take.1 hp).symm
    rw [hx, ← e1]
    refine ⟨TokS.ops h2, ?_⟩
    have hA : ∀ o ∈ opsB, ∀ d, o.head? = some d → d.toNat < 128 := by
      intro o ho d hd
      rw [opsB_eq] at ho
      simp only [List.mem_cons, List.not_mem_nil, or_false] at ho
      rcases ho with h | h | h | h | h | h | h | h | h | h | h | h | h | h | h | h | h | h | h | h | h | h | h | h | h | h | h | h | h | h | h | h | h <;>
        (subst h; injection hd with hd; subst hd; decide)
    exact hA o h2 c (by rw [← hx]; exact hfirst)
  cases h'
theorem TokS.line : TokS (6, [10]) := by
  refine ⟨by simp, ⟨by decide, by decide⟩, fun _ => .inr rfl, fun e => absurd e (by decide), fun e => absurd HQ e, fun e => absurd HQ e, fun e => absurd e (by decide), fun e => absurd e (by decide), fun e => absurd e (by decide), fun e => absurd e (by decide), Vd.easy (by decide)⟩
theorem scan_easy : ∀ (f : Nat) {s : Bs} {pos : Nat} {out T : List Tok}, scanF f s pos out = .ok T → Ez s
  | 0, _, _, _, _, h => by cases h
  | f + 1, s, pos, out, T, h => by
    cases s with
    | nil => trivial
    | cons c r =>
      show c.toNat < 128
      unfold scanF at h
      rw [if_neg (by simp)] at h
      cases hk : skippedB (c :: r) with
      | none => rw [hk] at h; cases h
      | some nb =>
        obtain ⟨n, nl⟩ := nb
        rw [hk] at h
        simp only at h
        by_cases hn : 0 < n
        · -- what is skipped begins with an easy byte
          unfold skippedB at hk
          simp only [List.getD_cons_zero] at hk
          split at hk
          · rename_i q
            simp only [List.contains_iff_mem, List.mem_cons, List.not_mem_nil, or_false] at q
            rcases q with q | q | q <;> (rw [q]; decide)
          split at hk
          · rename_i q; simp only [beq_iff_eq] at q; omega
          split at hk
          · rename_i q
            simp only [List.isPrefixOf, Bool.and_eq_true, beq_iff_eq] at q
            rw [← q.1]; decide
          split at hk
          · rename_i q
            simp only [List.isPrefixOf, Bool.and_eq_true, beq_iff_eq] at q
            rw [← q.1]; decide
          injection hk with hk; injection hk with hk _; omega
        rw [if_neg hn] at h
        cases ht : tokenB (c :: r) with
        | error e => rw [ht] at h; cases h
        | ok kn =>
          -- any token's first byte is easy: of its text alone
          obtain ⟨k, n2⟩ := kn
          rcases Nat.lt_or_ge c.toNat 128 with q | q
          · exact q
          exfalso
          have hl : letC c = false := by
            cases hc : letC c with
            | false => rfl
            | true =>
              unfold letC at hc
              simp only [Bool.or_eq_true, Bool.and_eq_true, decide_eq_true_eq, beq_iff_eq] at hc
              omega
          have hd : digC c = false := by
            unfold digC
            simp only [Bool.and_eq_false_iff, decide_eq_false_iff_not]; omega
          have ho : opsB.find? (fun o => o.isPrefixOf (c :: r)) = none := by
            rw [List.find?_eq_none]
            intro o ho hp
            have hp : o <+: (c :: r) := List.isPrefixOf_iff_prefix.1 hp
            have hA : ∀ o ∈ opsB, ∃ d q, o = d :: q ∧ d.toNat < 128 := by
              intro o ho
              rw [opsB_eq] at ho
              simp only [List.mem_cons, List.not_mem_nil, or_false] at ho
              rcases ho with h | h | h | h | h | h | h | h | h | h | h | h | h | h | h | h | h | h | h | h | h | h | h | h | h | h | h | h | h | h | h | h | h <;>
                (subst h; exact ⟨_, _, rfl, by decide⟩)
            obtain ⟨d, q2, e, hd2⟩ := hA o ho
            subst e
            obtain ⟨z, hz⟩ := hp
            injection hz with hz _
            subst hz; omega
          unfold tokenB at ht
          simp only [List.getD_cons_zero] at ht
          rw [hl, hd, ho] at ht
          have n46 : (c.toNat == 46) = false := by rw [beq_eq_false_iff_ne]; omega
          have n39 : (c.toNat == 39) = false := by rw [beq_eq_false_iff_ne]; omega
          have n34 : (c.toNat == 34) = false := by rw [beq_eq_false_iff_ne]; omega
          have n96 : (c.toNat == 96) = false := by rw [beq_eq_false_iff_ne]; omega
          rw [n46, n39, n34, n96] at ht
          simp at ht
structure ScanT (T : List Tok) (c n : Nat) : Prop where
  ko : KO (T.map Tok.tk)
  cost : cost (T.map Tok.tk) ≤ c
  many : T.length ≤ n
theorem scanF_t : ∀ (f : Nat) (s : Bs) (pos : Nat) (out T : List Tok), Vd s → (∀ t ∈ out, TokS t.tk) → cost (out.map Tok.tk) ≤ 2 * pos → out.length ≤ pos → scanF f s pos out = .ok T → ScanT T (2 * (pos + s.length) + 3) (pos + s.length + 2)
  | 0, _, _, _, _, _, _, _, _, h => by cases h
  | f + 1, s, pos, out, T, hv, ho, hc, hl, h => by
    unfold scanF at h
    by_cases hs : s = []
    · rw [if_pos hs] at h
      split at h
      · cases h
      injection h with h
      subst h
      subst hs
      have hk : ∀ t ∈ closeB out pos, t.tk.1 = 0 ∨ TokS t.tk := by
        intro t ht
        unfold closeB at ht
        rcases List.mem_append.1 ht with q | q
        · split at q
          · rcases List.mem_append.1 q with q | q
            · exact .inr (ho t q)
            simp at q; subst q; exact .inr TokS.line
          exact .inr (ho t q)
        simp at q; subst q; exact .inl rfl
      refine ⟨fun t ht => ?_, ?_, ?_⟩
      · obtain ⟨u, hu, rfl⟩ := List.mem_map.1 ht
        exact hk u hu
      · unfold closeB
        split
        · simp only [List.map_append, List.map_cons, List.map_nil, cost_app, cost_cons, cost_nil, Tok.tk, List.length_cons, List.length_nil]; omega
        simp only [List.map_append, List.map_cons, List.map_nil, cost_app, cost_cons, cost_nil, Tok.tk, List.length_nil]; omega
      unfold closeB
      split <;> (simp only [List.length_append, List.length_cons, List.length_nil]; omega)
    rw [if_neg hs] at h
    cases hk : skippedB s with
    | none => rw [hk] at h; cases h
    | some nb =>
      obtain ⟨n, nl⟩ := nb
      rw [hk] at h
      simp only at h
      by_cases hn : 0 < n
      · rw [if_pos hn] at h
        have hnl := skippedB_le hs hk
        have hv2 : Vd (s.drop n) := by
          -- what is behind the blanks begins with an easy byte
          have hz : Ez (s.drop n) := scan_easy f h
          have := hv
          rw [← List.take_append_drop n s] at this
          exact (Vd.split hz this).2
        have hl2 : (s.drop n).length = s.length - n := List.length_drop
        have := scanF_t f (s.drop n) (pos + n) _ T hv2 (fun t ht => ?_) ?_ ?_ h
        · rw [hl2] at this
          have e1 : pos + n + (s.length - n) = pos + s.length := by omega
          rw [e1] at this; exact this
        · split at ht
          · rcases List.mem_append.1 ht with q | q
            · exact ho t q
            simp at q; subst q; exact TokS.line
          exact ho t ht
        · split
          · simp only [List.map_append, List.map_cons, List.map_nil, cost_app, cost_cons, cost_nil, Tok.tk, List.length_cons, List.length_nil]; omega
          omega
        split
        · simp only [List.length_append, List.length_cons, List.length_nil]; omega
        omega
      rw [if_neg hn] at h
      cases ht : tokenB s with
      | error e => rw [ht] at h; cases h
      | ok kn =>
        obtain ⟨k, n2⟩ := kn
        rw [ht] at h
        simp only at h
        obtain ⟨p1, p2, _, _⟩ := tokenB_le hs ht
        have hz : Ez (s.drop n2) := scan_easy f h
        have hv2 := hv
        rw [← List.take_append_drop n2 s] at hv2
        obtain ⟨v1, v2⟩ := Vd.split hz hv2
        have hS := (tok_of hs ht v1).1
        have hl2 : (s.drop n2).length = s.length - n2 := List.length_drop
        have := scanF_t f (s.drop n2) (pos + n2) _ T v2 (fun t q => ?_) ?_ ?_ h
        · rw [hl2] at this
          have e1 : pos + n2 + (s.length - n2) = pos + s.length := by omega
          rw [e1] at this; exact this
        · rcases List.mem_append.1 q with q | q
          · exact ho t q
          simp at q; subst q; exact hS
        · simp only [List.map_append, List.map_cons, List.map_nil, cost_app, cost_cons, cost_nil, Tok.tk, take_len p2]; omega
        simp only [List.length_append, List.length_cons, List.length_nil]; omega
theorem scanB_t {s : Bs} {T : List Tok} (h : scanB s = .ok T) : ScanT T (2 * s.length + 3) (s.length + 2) := by
  unfold scanB at h
  cases hc : checkB s with
  | error e => rw [hc] at h; cases h
  | ok u =>
    rw [hc] at h
    have := scanF_t (s.length + 1) s 0 [] T (check_okV hc).2 (fun t ht => by cases ht) (by simp [cost_nil]) (Nat.zero_le _) h
    rw [Nat.zero_add] at this; exact this
end Go.Sy
namespace Go.Sy
open Go
theorem nohas_of {K : List Tk} {s : PS} (hb : isB (s.tok K) [[91]] = true) (h : (isB (tkAt K (s.i + 1)) [[93]] = true) ∨ ((tkAt K (s.i + 1)).1 = 1 → isB (tkAt K (s.i + 2)) [[93], [46], [40], [91]] = true ∨ bindsB (tkAt K (s.i + 2)) ≠ 0)) : phas K s = false := by
  unfold phas
  rw [hb, Bool.true_and]
  have key : ∀ u : Tk, (u.1 = 6 ∨ u.1 = 7) → u.2 ≠ [126] → u.2 ≠ [105, 110, 116, 101, 114, 102, 97, 99, 101] → (u.1 == 1 || isB u [[126], [105, 110, 116, 101, 114, 102, 97, 99, 101]]) = false := by
    intro u h1 h2 h3
    have e1 : (u.1 == 1) = false := by rw [beq_eq_false_iff_ne]; omega
    rw [e1, Bool.false_or]
    cases hi : isB u [[126], [105, 110, 116, 101, 114, 102, 97, 99, 101]] with
    | false => rfl
    | true =>
      unfold isB at hi
      simp only [Bool.and_eq_true, List.contains_iff_mem, List.mem_cons, List.not_mem_nil, or_false] at hi
      rcases hi.2 with q | q
      · exact absurd q h2
      exact absurd q h3
  have split : ∀ {u : Tk} {x : List Bs}, isB u x = true → (u.1 = 6 ∨ u.1 = 7) ∧ u.2 ∈ x := by
    intro u x hu
    unfold isB at hu
    simpa using hu
  rcases h with h | h
  · have h0 := GS h
    have hl := tk_lt h0
    have m1 : min (s.i + 1) (K.length - 1) = s.i + 1 := by omega
    rw [m1]
    have : ((tkAt K (s.i + 1)).1 == 1) = false := by
      rw [beq_eq_false_iff_ne]
      have := (split h).1
      omega
    rw [this]; rfl
  by_cases k1 : (tkAt K (min (s.i + 1) (K.length - 1))).1 = 1
  · have m1 : min (s.i + 1) (K.length - 1) = s.i + 1 ∨ K.length ≤ s.i + 1 := by omega
    rcases m1 with m1 | m1
    · rw [m1] at k1 ⊢
      have h2 := h k1
      have hx : (tkAt K (s.i + 2)).1 ≠ 0 ∧ ((tkAt K (s.i + 2)).1 = 6 ∨ (tkAt K (s.i + 2)).1 = 7) ∧ (tkAt K (s.i + 2)).2 ≠ [126] ∧ (tkAt K (s.i + 2)).2 ≠ [105, 110, 116, 101, 114, 102, 97, 99, 101] := by
        rcases h2 with q | q
        · obtain ⟨q1, q2⟩ := split q
          refine ⟨by omega, q1, ?_, ?_⟩ <;> (intro e; rw [e] at q2; exact absurd q2 (by decide))
        obtain ⟨q1, q2⟩ := split (binds_is q)
        refine ⟨by omega, q1, ?_, ?_⟩ <;> (intro e; rw [e] at q2; exact absurd q2 (by decide))
      have hl := tk_lt hx.1
      have m2 : min (s.i + 2) (K.length - 1) = s.i + 2 := by omega
      rw [m2, key _ hx.2.1 hx.2.2.1 hx.2.2.2, Bool.and_false]
    -- the sign itself would be the last one: it is no name
    have hl := tk_lt (GS hb)
    have e : min (s.i + 1) (K.length - 1) = s.i := by omega
    rw [e] at k1
    have := (split hb).1
    have e2 : s.tok K = tkAt K s.i := rfl
    rw [e2] at this
    omega
  have : ((tkAt K (min (s.i + 1) (K.length - 1))).1 == 1) = false := by rw [beq_eq_false_iff_ne]; exact k1
  rw [this]; rfl
theorem lev_nohas : ∀ d, NoHas fun K => lev K d
  | 0 => fun _ _ _ _ h => (Hx h).elim
  | d + 1 => fun K s v s' h => by
    cases hb : isB (s.tok K) [[91]] with
    | false => unfold phas; rw [hb]; rfl
    | true =>
      obtain ⟨s1, h1, _⟩ := nested_x h
      have hb' : isB (s.down.tok K) [[91]] = true := hb
      obtain ⟨_, e2⟩ := is_eq hb
      have hno : ∀ x : Bs, x ≠ [91] → isB (s.down.tok K) [x] = false := fun x hx => by
        cases hq : isB (s.down.tok K) [x] with
        | false => rfl
        | true =>
          obtain ⟨_, e3⟩ := is_eq hq
          have e4 : (s.down.tok K).2 = [91] := e2
          rw [e4] at e3; exact absurd e3.symm hx
      unfold pbare at h1
      rw [if_neg (by
        intro k1
        have := is_no (x := [[91]]) k1
        rw [hb'] at this; cases this)] at h1
      rcases GV h1 with ⟨q, _⟩ | ⟨_, h1⟩
      · rw [hno _ (by decide)] at q; cases q
      rcases GV h1 with ⟨q, _⟩ | ⟨_, h1⟩
      · rw [hno _ (by decide)] at q; cases q
      unfold pliteral at h1
      rcases GV h1 with ⟨_, h1⟩ | ⟨q, _⟩
      · rcases GV h1 with ⟨q, _⟩ | ⟨_, h1⟩
        · exact nohas_of hb (.inl q)
        obtain ⟨m, s2, h2, h1⟩ := Gt h1
        obtain ⟨u, s3, h3, _⟩ := Gt h1
        obtain ⟨hb3, _⟩ := HJ h3
        refine nohas_of hb (.inr fun k1 => ?_)
        rcases (lev_x d).expr 1 K _ _ _ h2 k1 with q | q | q
        · left
          have : s2.tok K = tkAt K (s.i + 2) := by show tkAt K s2.i = _; rw [q]
          rw [← this]; exact isB_in hb3 (by decide)
        · exact .inl (isB_more q (by decide))
        exact .inr q
      rw [hb'] at q; cases q
def nlT : Tk := (6, [10])
theorem line_sg {p : Pcs} (hp : Sg C0 p) (he : En p) : Sg CT (p ++ [some nlT]) := by
  refine ⟨fun s pos out _ => ?_, fun t ht => ?_⟩
  · obtain ⟨T, pos', e, r⟩ := hp.lx (10 :: s) pos out rfl
    obtain ⟨t, h1, h2⟩ := he
    have hends : endsB (out ++ T) = true := by
      unfold endsB
      have hT : (T.getLast?).map Tok.tk = some t := by rw [← List.getLast?_map, e]; exact h1
      cases hl : T.getLast? with
      | none => rw [hl] at hT; cases hT
      | some u =>
        rw [hl] at hT
        injection hT with hT
        rw [List.getLast?_append, hl]
        show endsT u.kind u.text = true
        rw [← hT] at h2; exact h2
    refine ⟨T ++ [⟨6, [10], pos'⟩], pos' + 1, by rw [List.map_append, e, GU]; rfl, ?_⟩
    rw [render_app, List.append_assoc]
    show scanA (render p ++ (10 :: s)) pos out = _
    rw [r, scanA_nl hends, List.append_assoc]
  rw [GU] at ht
  rcases List.mem_append.1 ht with q | q
  · exact hp.tk t q
  simp [nlT] at q; subst q; exact TokS.line
structure PtN (nodes : List Nd) (ks : List Int) (P : Pcs) : Prop where
  w : ∀ L, Ext nodes L → RightN L → (ks.map fun k => tx (txtB L) k ++ [10]).flatten = render P
  sg : Sg CT P
  bl : P.length ≤ 2 * (toks P).length
  last : P = [] ∨ (toks P).getLast? = some nlT
theorem PtN.more {a : List Nd} (b : List Nd) {ks : List Int} {P : Pcs} (h : PtN a ks P) : PtN (a ++ b) ks P := ⟨fun L hL hR => h.w L hL.less hR, h.sg, h.bl, h.last⟩
theorem PtN.nil {a : List Nd} : PtN a [] [] := ⟨fun _ _ _ => rfl, Sg.nil, by simp, .inl rfl⟩
theorem PtN.cons {a : List Nd} {k : Int} {ks : List Int} {p P : Pcs} (h : Pt a k p) (hk : PtN a ks P) : PtN a (k :: ks) (p ++ some nlT :: P) := by
  have e : p ++ some nlT :: P = (p ++ [some nlT]) ++ P := by simp
  refine ⟨fun L hL hR => ?_, by rw [e]; exact Sg.app (line_sg h.sg h.en) hk.sg fun _ _ => trivial, ?_, .inr ?_⟩
  · rw [List.map_cons, List.flatten_cons, h.w L hL hR, hk.w L hL hR]; simp [nlT]
  · have := h.bl; have := hk.bl
    simp only [GU, GY, List.length_append, List.length_cons]; omega
  rcases hk.last with q | q
  · subst q; simp
  rw [GU, GY, List.getLast?_append, List.getLast?_cons, q]; rfl
section
variable {K : List Tk}
theorem Sim.semi {K2 : List Tk} {s : PS} (hs : semiB (s.tok K) = true) : Sim K K2 (psemi K2) s () s.next [nlT] := by
  obtain ⟨h1, h2, h3⟩ := semi_stop hs
  refine ⟨Src.tok' h2 h1 HQ (by show 1 ≤ _; exact h3), fun rest σ hd _ he => ?_⟩
  obtain ⟨d1, d2, _⟩ := GJ hd
  have e : σ.tok K2 = nlT := d1
  exact ⟨σ.next, by unfold psemi; rw [e, if_pos (by rfl)], d2, he.nodes, he.deep⟩
theorem import_pt {a : List Nd} {t : Tk} {tn : Nat} (ht : TokS t) (h5 : t.1 = 5) : Pt (mkd a 31 t.2 [] tn) (a.length : Int) [some (7, kwImport), none, some t] := by
  refine ⟨W.mk fun L n _ _ h1 h2 _ => ?_, Sg.consW (Sg.key (kw2_mem kwImport (by simp)).1) (Sg.consB (Sg.tok ht (ht.nl HS))) fun _ _ => rfl, En.cons (En.cons (En.tok HS)), by simp, kd_new (by decide)⟩
  rw [nB31 h1, h2]; simp [kwImport]
theorem pimportsF_s (ko : KO K) : ∀ (f : Nat) (s : PS) (out l : List Int) (s' : PS), pimportsF K f out s = .ok (l, s') →
    ∃ l' P, l = out ++ l' ∧ PtN s'.nodes l' P ∧ ∀ K2 f2, (toks P).length + 1 ≤ f2 → Sim K K2 (pimportsF K2 f2 out) s l s' (toks P)
  | 0, s, out, l, s', h => (Hx h).elim
  | f + 1, s, out, l, s', h => by
    unfold pimportsF at h
    split at h
    · rename_i hc
      have t0 := ko.key hc (kw2_mem kwImport (by simp)).2
      obtain ⟨t, s1, h1, h⟩ := Gt h
      obtain ⟨k1, e1, e2⟩ := pof_ok h1
      subst e1 e2
      obtain ⟨v, s2, h2, h⟩ := Gt h
      obtain ⟨u, s3, h3, h⟩ := Gt h
      obtain ⟨hs, e3⟩ := semi_ok h3
      subst e3
      obtain ⟨l', P, el, pl, sm⟩ := pimportsF_s ko f _ _ _ _ h
      subst el
      obtain ⟨e4, e5⟩ := GI h2
      have tS := ko.at (i := s.next.i) (show (s.next.tok K).1 ≠ 0 by rw [k1]; decide)
      have pt : Pt s2.nodes v [some (7, kwImport), none, some (s.next.tok K)] := by subst e4 e5; exact import_pt tS k1
      obtain ⟨new, en⟩ := (sm [] _ (Nat.le_refl _)).src.pre
      have pt' : Pt s'.nodes v [some (7, kwImport), none, some (s.next.tok K)] := by rw [en]; exact pt.more new
      refine ⟨v :: l', [some (7, kwImport), none, some (s.next.tok K)] ++ some nlT :: P, by simp, PtN.cons pt' pl, fun K2 f2 hl => ?_⟩
      have et : toks ([some (7, kwImport), none, some (s.next.tok K)] ++ some nlT :: P) = s.tok K :: (([s.next.tok K]) ++ ([] ++ ([nlT] ++ toks P))) := by rw [t0]; simp [kwImport]
      rw [et] at hl ⊢
      simp only [List.length_cons, List.length_append, List.length_nil] at hl
      obtain ⟨f2', rfl⟩ : ∃ f2', f2 = f2' + 1 := ⟨f2 - 1, by omega⟩
      have e6 : out ++ v :: l' = (out ++ [v]) ++ l' := by simp
      have S : ∀ i, Sim K K2 ((pof K2 5).bind fun t => (pnode 31 t i []).bind fun v => (psemi K2).bind fun _ => pimportsF K2 f2' (out ++ [v])) s.next (out ++ v :: l') s' ([s.next.tok K] ++ ([] ++ ([nlT] ++ toks P))) := fun i => by
        rw [e6]
        exact Sim.bind (Sim.of k1 (by decide)) (Sim.bind (Sim.node h2) (Sim.bind (Sim.semi hs) (sm K2 f2' HS)))
      refine ⟨(Src.tok (GS hc)).trans (S 0).src, fun rest σ hd hn he => ?_⟩
      obtain ⟨d1, d2, _⟩ := GJ hd
      have e1 : σ.tok K2 = s.tok K := d1
      obtain ⟨σ', r1, d3, q3⟩ := (S σ.i).run rest σ.next d2 hn ⟨he.nodes, he.deep⟩
      refine ⟨σ', ?_, d3, q3⟩
      rw [e6] at r1
      unfold pimportsF
      rw [e1, if_pos hc]; exact r1
    rename_i hc
    injection h with h; injection h with h1 h2
    subst h1 h2
    refine ⟨[], [], by simp, PtN.nil, fun K2 f2 hl => ⟨Src.nil, fun rest σ hd hn he => ?_⟩⟩
    obtain ⟨f2', rfl⟩ : ∃ f2', f2 = f2' + 1 := ⟨f2 - 1, by omega⟩
    refine ⟨σ, ?_, hd, he⟩
    have : isB (σ.tok K2) [[105, 109, 112, 111, 114, 116]] = isB (s.tok K) [[105, 109, 112, 111, 114, 116]] := hn.is hd (by decide)
    unfold pimportsF
    rw [this, if_neg hc]
def N0 (rest : List Tk) : Prop := ∃ r, rest = (0, []) :: r
theorem pdeclsF_s (ko : KO K) (w : Wf K) {r : List Tk → Rec} (hr : RecS K r) (hn : NoHas r) : ∀ (f : Nat) (s : PS) (out l : List Int) (s' : PS), pdeclsF K (r K) f out s = .ok (l, s') →
    ∃ l' P, l = out ++ l' ∧ PtN s'.nodes l' P ∧ (s'.tok K).1 = 0 ∧ Src K s s' (toks P) ∧ ∀ K2 f2, (toks P).length + 1 ≤ f2 → Run K2 N0 (pdeclsF K2 (r K2) f2 out) s l s' (toks P)
  | 0, s, out, l, s', h => (Hx h).elim
  | f + 1, s, out, l, s', h => by
    unfold pdeclsF at h
    split at h
    · rename_i hc
      injection h with h; injection h with h1 h2
      subst h1 h2
      refine ⟨[], [], by simp, PtN.nil, hc, Src.nil, fun K2 f2 hl rest σ hd hx he => ?_⟩
      obtain ⟨f2', rfl⟩ : ∃ f2', f2 = f2' + 1 := ⟨f2 - 1, by omega⟩
      obtain ⟨q, e⟩ := hx
      have d1 : σ.tok K2 = (0, []) := (GJ (show K2.drop σ.i = (0, []) :: q by rw [hd, e]; rfl)).1
      refine ⟨σ, ?_, hd, he⟩
      unfold pdeclsF
      rw [d1, if_pos rfl]
    rename_i hc
    obtain ⟨v, s1, h1, h⟩ := Gt h
    obtain ⟨p, pt, ⟨p', hp'⟩, sp⟩ := pdecl_s ko w hr hn h1
    obtain ⟨u, s2, h2, h⟩ := Gt h
    obtain ⟨hs, e3⟩ := semi_ok h2
    subst e3
    obtain ⟨l', P, el, pl, hz, src, sm⟩ := pdeclsF_s ko w hr hn f _ _ _ _ h
    subst el
    obtain ⟨new, en⟩ := src.pre
    have pt' : Pt s'.nodes v p := by rw [en]; exact pt.more new
    have hne : 0 < (toks p).length := List.length_pos_iff.2 pt.en.ne
    have et : toks (p ++ some nlT :: P) = toks p ++ ([nlT] ++ toks P) := by simp
    have sS : Src K s1 s' ([nlT] ++ toks P) := (Sim.semi (K2 := []) hs).src.trans src
    refine ⟨v :: l', p ++ some nlT :: P, by simp, PtN.cons pt' pl, hz, by rw [et]; exact (sp []).src.trans sS, fun K2 f2 hl => ?_⟩
    rw [et] at hl ⊢
    simp only [List.length_append, List.length_cons, List.length_nil] at hl
    obtain ⟨f2', rfl⟩ : ∃ f2', f2 = f2' + 1 := ⟨f2 - 1, by omega⟩
    have e6 : out ++ v :: l' = (out ++ [v]) ++ l' := by simp
    have R : Run K2 N0 ((pdecl K2 (r K2)).bind fun v => (psemi K2).bind fun _ => pdeclsF K2 (r K2) f2' (out ++ [v])) s (out ++ v :: l') s' (toks p ++ ([nlT] ++ toks P)) := by
      rw [e6]
      refine Run.bind ((sp K2).run.mono fun q hq => ?_) (Run.bind ((Sim.semi hs).run.mono fun q hq => ?_) (sm K2 f2' HS))
      · obtain ⟨q2, e, _⟩ := hq
        obtain ⟨g1, _, _⟩ := semi_stop hs
        exact ⟨nlT, toks P ++ q2, by rw [e]; simp, .inr ⟨g1, rfl⟩⟩
      obtain ⟨q2, e, q3, e2⟩ := hq
      subst e2
      rw [e]
      refine src.look _ ⟨(0, []), q3, rfl, .inr ⟨?_, rfl⟩⟩
      unfold stopT
      rw [hz]; rfl
    intro rest σ hd hx he
    have d1 : σ.tok K2 = s.tok K := (GJ (show K2.drop σ.i = s.tok K :: (toks p' ++ ([nlT] ++ toks P) ++ rest) by rw [hd, hp']; simp)).1
    obtain ⟨σ', r1, d3, q3⟩ := R rest σ hd hx he
    refine ⟨σ', ?_, d3, q3⟩
    rw [e6] at r1
    unfold pdeclsF
    rw [d1, if_neg hc]; exact r1
def pfileA (K : List Tk) (r : Rec) (a : Nat) : PM Int :=
  (pmust K [112, 97, 99, 107, 97, 103, 101]).bind fun _ => (pof K 1).bind fun nm => (psemi K).bind fun _ => (pimportsF K K.length []).bind fun l => (pdeclsF K r K.length l).bind fun l => pnode 32 nm a l
structure Whole (K : List Tk) (l : List Nd) (p : Pcs) : Prop where
  w : W l ((l.length - 1 : Nat) : Int) p
  tk : ∀ t ∈ toks p, TokS t
  bl : p.length ≤ 2 * (toks p).length
  cost : cost (toks p) ≤ cost K
  cnt : (toks p).length + 1 ≤ K.length
theorem cum_le {K : List Tk} (i : Nat) : cum K i ≤ cost K := by
  have : cum K i ≤ cum K (max i K.length) := cum_mono HS
  have e : cum K (max i K.length) = cost K := by unfold cum; rw [List.take_of_length_le HS]
  omega
theorem file_back (ko : KO K) (w : Wf K) {l : List Nd} (h : pfileAll K = .ok l) : ∃ p, Whole K l p ∧ Sg CT p ∧ (toks p).getLast? = some nlT ∧ ∃ l2, pfileAll (toks p ++ [(0, [])]) = .ok l2 ∧ l2.map keyD = l.map keyD := by
  unfold pfileAll pwhole at h
  cases hm : pfile K (lev K 40) ⟨0, [], 0⟩ with
  | error e => rw [hm] at h; cases h
  | ok x =>
    obtain ⟨v, s'⟩ := x
    rw [hm] at h
    simp only at h
    split at h
    · rename_i hz
      injection h with h
      subst h
      have hr := lev_s ko w 40
      have hg := pfile_g w (lev_g w 40) (inv0 w)
      unfold G at hg
      rw [hm] at hg
      have hi : s'.i < K.length := hg.1.i
      replace hm : pfileA K (lev K 40) 0 ⟨0, [], 0⟩ = .ok (v, s') := hm
      obtain ⟨u, s1, h1, hm⟩ := Gt hm
      obtain ⟨hb, e1⟩ := HJ h1
      subst e1
      have t0 := ko.key hb (kw2_mem kwPkg (by simp)).2
      obtain ⟨nm, s2, h2, hm⟩ := Gt hm
      obtain ⟨k1, e1, e2⟩ := pof_ok h2
      subst e1 e2
      obtain ⟨u2, s3, h3, hm⟩ := Gt hm
      obtain ⟨hs, e3⟩ := semi_ok h3
      subst e3
      obtain ⟨l1, s4, h4, hm⟩ := Gt hm
      obtain ⟨l1', P1, el, pl1, sm1⟩ := pimportsF_s ko _ _ _ _ _ h4
      rw [List.nil_append] at el
      subst el
      obtain ⟨l2, s5, h5, h6⟩ := Gt hm
      obtain ⟨l2', P2, el, pl2, hz5, src2, sm2⟩ := pdeclsF_s (r := fun K => lev K 40) ko w hr (lev_nohas 40) _ _ _ _ _ h5
      subst el
      obtain ⟨e4, e5⟩ := GI h6
      have S1 := sm1 [] _ (Nat.le_refl _)
      obtain ⟨n2, en2⟩ := src2.pre
      -- the name
      have k1' : (PS.tok K (PS.next ⟨0, [], 0⟩)).1 = 1 := k1
      have tS := ko.at (i := (PS.next ⟨0, [], 0⟩).i) (show (PS.tok K (PS.next ⟨0, [], 0⟩)).1 ≠ 0 by rw [k1]; decide)
      generalize hnt : PS.tok K (PS.next ⟨0, [], 0⟩) = nt at *
      have tS : TokS nt := by rw [← hnt]; exact tS
      have hhead : Sg CT ([some (7, kwPkg), none, some nt] ++ [some nlT]) := line_sg (Sg.consW (Sg.key (kw2_mem kwPkg (by simp)).1) (Sg.consB (Sg.tok tS (tS.nl HS))) fun _ _ => rfl) (En.cons (En.cons (En.tok HS)))
      have et : toks ([some (7, kwPkg), none, some nt] ++ [some nlT] ++ (P1 ++ P2)) = [(7, kwPkg)] ++ ([nt] ++ ([nlT] ++ (toks P1 ++ (toks P2 ++ [])))) := by simp
      have c5 : Src K s5 s' [] := by rw [e5]; exact Src.node _
      have c4 := src2.trans c5
      have c3 := S1.src.trans c4
      have c2 := (Sim.semi (K2 := []) hs).src.trans c3
      have c1 : Src K (PS.next ⟨0, [], 0⟩) s' ([nt] ++ ([nlT] ++ (toks P1 ++ (toks P2 ++ [])))) :=
        Src.trans (s1 := PS.next (PS.next ⟨0, [], 0⟩)) (by rw [← hnt]; exact Src.tok (by rw [hnt, k1']; decide)) c2
      have srcA : Src K ⟨0, [], 0⟩ s' ([(7, kwPkg)] ++ ([nt] ++ ([nlT] ++ (toks P1 ++ (toks P2 ++ []))))) :=
        Src.trans (s1 := PS.next ⟨0, [], 0⟩) (by rw [show ((7, kwPkg) : Tk) = PS.tok K ⟨0, [], 0⟩ from t0.symm]; exact Src.tok (GS hb)) c1
      refine ⟨[some (7, kwPkg), none, some nt] ++ [some nlT] ++ (P1 ++ P2), ⟨?_, ?_, ?_, ?_, ?_⟩, ?_, ?_, ?_⟩
      · -- the root's text
        have hlen : s'.nodes.length - 1 = s5.nodes.length := by rw [e5]; simp
        rw [hlen, e5]
        refine W.mk fun L n hL hR q1 q2 q3 => ?_
        have w1 := (show PtN s5.nodes l1 P1 by rw [en2]; exact pl1.more n2).w L hL hR
        have w2 := pl2.w L hL hR
        simp only at q3
        rw [nB32 q1, q2, q3, List.map_append, List.flatten_append, w1, w2]; simp [kwPkg, nlT]
      · have hall : Sg CT ([some (7, kwPkg), none, some nt] ++ [some nlT] ++ (P1 ++ P2)) := Sg.app hhead (Sg.app pl1.sg pl2.sg fun _ _ => trivial) fun _ _ => trivial
        exact hall.tk
      · have := pl1.bl; have := pl2.bl
        rw [et]
        simp only [List.length_append, List.length_cons, List.length_nil]; omega
      · rw [et]
        have := srcA.cost
        have := cum_le (K := K) s'.i
        omega
      · rw [et]
        have := srcA.cnt
        have e0 : (PS.i ⟨0, [], 0⟩) = 0 := rfl
        omega
      · exact Sg.app hhead (Sg.app pl1.sg pl2.sg fun _ _ => trivial) fun _ _ => trivial
      · rcases pl2.last with q | q
        · rcases pl1.last with q1 | q1
          · subst q q1; simp [nlT]
          subst q
          rw [GU, GU, List.getLast?_append, GU, List.getLast?_append]
          simp [q1]
        rw [GU, GU, List.getLast?_append, GU, List.getLast?_append, q]
        rfl
      rw [et]
      generalize hK2 : [(7, kwPkg)] ++ ([nt] ++ ([nlT] ++ (toks P1 ++ (toks P2 ++ [])))) ++ [((0, []) : Tk)] = K2
      have hlen : (toks P1).length + 1 ≤ K2.length ∧ (toks P2).length + 1 ≤ K2.length := by
        rw [← hK2]
        simp only [List.length_append, List.length_cons, List.length_nil]; omega
      have hN : ∀ rest, N0 rest → Nx (s'.tok K) rest := fun rest ⟨q, e⟩ => ⟨(0, []), q, e, .inr ⟨by unfold stopT; rw [hz]; rfl, rfl⟩⟩
      have up : ∀ {s1 : PS} {t2 : List Tk}, Src K s1 s' t2 → ∀ r, (∃ r', r = t2 ++ r' ∧ N0 r') → Nx (s1.tok K) r := fun c r ⟨r', e, hn⟩ => by
        subst e; exact c.look _ (hN _ hn)
      have R : Run K2 N0 (pfileA K2 (lev K2 40) 0) ⟨0, [], 0⟩ v s' ([(7, kwPkg)] ++ ([nt] ++ ([nlT] ++ (toks P1 ++ (toks P2 ++ []))))) := by
        have r0 : Run K2 (Nx ((PS.next ⟨0, [], 0⟩).tok K)) (pmust K2 kwPkg) ⟨0, [], 0⟩ () (PS.next ⟨0, [], 0⟩) [(7, kwPkg)] := by
          have := (Sim.must (K := K) (K2 := K2) (x := kwPkg) hb).run
          rw [show PS.tok K ⟨0, [], 0⟩ = (7, kwPkg) from t0] at this
          exact this
        have r1 : Run K2 (Nx ((PS.next (PS.next ⟨0, [], 0⟩)).tok K)) (pof K2 1) (PS.next ⟨0, [], 0⟩) nt.2 (PS.next (PS.next ⟨0, [], 0⟩)) [nt] := by
          have := (Sim.of (K := K) (K2 := K2) (s := PS.next ⟨0, [], 0⟩) (k := 1) (by rw [hnt]; exact k1') (by decide)).run
          rw [hnt] at this
          exact this
        exact Run.bind (r0.mono (up c1)) (Run.bind (r1.mono (up c2)) (Run.bind ((Sim.semi hs).run.mono (up c3)) (Run.bind ((sm1 K2 _ hlen.1).run.mono (up c4)) (Run.bind ((sm2 K2 _ hlen.2).mono fun q ⟨q', e, hn⟩ => by subst e; exact hn) ((Sim.node h6).run.mono hN)))))
      obtain ⟨σ', r2, d2, q2⟩ := R [(0, [])] ⟨0, [], 0⟩ (by rw [← hK2]; rfl) ⟨[], rfl⟩ ⟨rfl, rfl⟩
      refine ⟨σ'.nodes, ?_, q2.nodes⟩
      have d3 := (GJ d2).1
      unfold pfileAll pwhole
      rw [show pfile K2 (lev K2 40) ⟨0, [], 0⟩ = .ok (v, σ') from r2]
      simp only
      rw [if_pos (by show (tkAt K2 σ'.i).1 = 0; rw [d3])]
    cases h
end
end Go.Sy
namespace Go.Sy
open Go
theorem TreeP.root {l : List Nd} {v : Int} (h : TreeP l v) : v = ((l.length - 1 : Nat) : Int) := by
  have hp := h.seg.perm
  simp only [List.nil_append] at hp
  have hmem : ∀ x : Int, x ∈ l.flatMap Nd.kids ++ [v] ↔ ∃ j : Nat, j < l.length ∧ (j : Int) = x := by
    intro x
    rw [hp.mem_iff, List.mem_map]
    constructor
    · rintro ⟨j, hj, rfl⟩
      rw [List.mem_range'_1] at hj
      exact ⟨j, by omega, rfl⟩
    rintro ⟨j, hj, rfl⟩
    exact ⟨j, by rw [List.mem_range'_1]; omega, rfl⟩
  have hlow := (h.seg.low (by simp)).1
  have hs := h.one
  have := (hmem ((l.length - 1 : Nat) : Int)).2 ⟨l.length - 1, by omega, rfl⟩
  rcases List.mem_append.1 this with q | q
  · obtain ⟨nd, hnd, hk⟩ := List.mem_flatMap.1 q
    obtain ⟨j, hj, rfl⟩ := List.getElem_of_mem hnd
    have := hlow j _ (List.getElem?_eq_getElem hj) _ hk
    omega
  simpa using (List.mem_singleton.1 q).symm
theorem tree_of {K : List Tk} (w : Wf K) {v : Int} {s : PS} (h : (lev K 40).expr 1 ⟨0, [], 0⟩ = .ok (v, s)) : TreeP s.nodes v ∧ s.i < K.length := by
  have hg := (lev_g w 40).expr 1 _ (inv0 w)
  unfold G at hg
  rw [h] at hg
  obtain ⟨h1, _, h3⟩ := hg
  obtain ⟨new, e, sg⟩ := h3 (by simp)
  simp only [List.nil_append, List.length_nil] at e sg
  have hlen := sg.perm.length_eq
  have hm := h1.many
  rw [e]
  rw [e] at hm
  refine ⟨⟨?_, hm, sg⟩, h1.i⟩
  rcases Nat.eq_zero_or_pos new.length with q | q
  · have : new = [] := List.length_eq_zero_iff.1 q
    subst this; simp at hlen
  exact q
theorem expr_back {K : List Tk} (ko : KO K) (w : Wf K) {l : List Nd} (h : pexprAll K = .ok l) : ∃ p, Whole K l p ∧ (∃ k, k ≠ 32 ∧ Kd l ((l.length - 1 : Nat) : Int) k) ∧ Sg C0 p ∧ En p ∧ ∃ l2, pexprAll (toks p ++ [nlT, (0, [])]) = .ok l2 ∧ l2.map keyD = l.map keyD := by
  unfold pexprAll pwhole at h
  cases hm : (((lev K 40).expr 1).bind fun v s => if semiB (s.tok K) then .ok (v, s.next) else .ok (v, s)) ⟨0, [], 0⟩ with
  | error e => rw [hm] at h; cases h
  | ok x =>
    obtain ⟨v, s'⟩ := x
    rw [hm] at h
    simp only at h
    split at h
    · rename_i hz
      injection h with h
      subst h
      obtain ⟨x, s1, h1, h2⟩ := Gt hm
      have hr := lev_s ko w 40
      obtain ⟨p, g⟩ := hr.expr 1 _ _ _ h1
      obtain ⟨ht, hi⟩ := tree_of w h1
      have hx := ht.root
      have hst : stopT (s1.tok K) = true ∧ s'.nodes = s1.nodes := by
        split at h2
        · rename_i hc
          injection h2 with h2; injection h2 with _ h2; subst h2
          exact ⟨(semi_stop hc).1, rfl⟩
        injection h2 with h2; injection h2 with _ h2; subst h2
        exact ⟨by unfold stopT; rw [hz]; rfl, rfl⟩
      have src := (g.sim []).src
      have e0 : (PS.i ⟨0, [], 0⟩) = 0 := rfl
      refine ⟨p, ⟨?_, g.pt.sg.tk, by have := g.pt.bl; omega, ?_, ?_⟩, ?_, g.pt.sg, g.pt.en, ?_⟩
      · rw [hst.2, ← hx]; exact g.pt.w
      · have := src.cost
        have := cum_le (K := K) s1.i
        omega
      · have := src.cnt
        omega
      · obtain ⟨k, hk, hd⟩ := g.pt.kd
        exact ⟨k, hk.2, by rw [hst.2, ← hx]; exact hd⟩
      obtain ⟨σ1, r1, d1, q1⟩ := (g.sim (toks p ++ [nlT, (0, [])])).run [nlT, (0, [])] ⟨0, [], 0⟩ rfl ⟨nlT, [(0, [])], rfl, .inr ⟨hst.1, rfl⟩⟩ ⟨rfl, rfl⟩
      obtain ⟨a1, a2, _⟩ := GJ d1
      have a3 := (GJ a2).1
      refine ⟨σ1.nodes, ?_, by rw [hst.2]; exact q1.nodes⟩
      unfold pexprAll pwhole
      rw [bind_run r1]
      have f1 : σ1.tok (toks p ++ [nlT, (0, [])]) = nlT := a1
      simp only [f1]
      rw [if_pos (show semiB nlT = true from rfl)]
      simp only
      rw [if_pos (by show (tkAt _ (σ1.i + 1)).1 = 0; rw [a3])]
    cases h
theorem render_vd : ∀ {p : Pcs}, (∀ t ∈ toks p, TokS t) → Vd (render p)
  | [], _ => Vd.nil
  | none :: p, h => by
    show Vd ([32] ++ render p)
    exact Vd.add (Vd.easy (by decide)) (render_vd (p := p) h)
  | some t :: p, h => by
    show Vd (t.2 ++ render p)
    exact Vd.add (h t (by simp)).vd (render_vd (p := p) fun u hu => h u (by simp [hu]))
theorem render_len {p : Pcs} (h : p.length ≤ 2 * (toks p).length) : (render p).length ≤ cost (toks p) := by
  have := render_le p
  omega
theorem scanB_of {x : Bs} (hl : x.length ≤ 4000) (hv : Vd x) : scanB x = scanA x 0 [] := by
  unfold scanB
  rw [ok_check hl hv]; rfl
theorem scan_file {p : Pcs} (hs : Sg CT p) (hl : (toks p).getLast? = some nlT) (hn : (render p).length ≤ 4000) (hm : (toks p).length + 1 ≤ 1500) : ∃ T, scanB (render p) = .ok T ∧ T.map Tok.tk = toks p ++ [(0, [])] := by
  obtain ⟨T, pos', e, r⟩ := hs.lx [] 0 [] trivial
  rw [List.append_nil, List.nil_append] at r
  have hT : T.getLast?.map Tok.tk = some nlT := by rw [← List.getLast?_map, e]; exact hl
  have hends : endsB T = false := by
    unfold endsB
    cases hg : T.getLast? with
    | none => rfl
    | some u =>
      rw [hg] at hT; injection hT with hT
      have h1 : u.kind = 6 := congrArg Prod.fst hT
      have h2 : u.text = [10] := congrArg Prod.snd hT
      show endsT u.kind u.text = false
      rw [h1, h2]; rfl
  have hc : closeB T pos' = T ++ [⟨0, [], pos'⟩] := by unfold closeB; rw [hends]; rfl
  have hlen : T.length = (toks p).length := by rw [← e, List.length_map]
  refine ⟨closeB T pos', ?_, by rw [hc, List.map_append, e]; rfl⟩
  rw [scanB_of hn (render_vd hs.tk), r, scanA_nil, if_neg]
  rw [hc, List.length_append, hlen]
  simp only [List.length_cons, List.length_nil]; omega
theorem scan_expr {p : Pcs} (hs : Sg C0 p) (he : En p) (hn : (render p).length ≤ 4000) (hm : (toks p).length + 2 ≤ 1500) : ∃ T, scanB (render p) = .ok T ∧ T.map Tok.tk = toks p ++ [nlT, (0, [])] := by
  obtain ⟨T, pos', e, r⟩ := hs.lx [] 0 [] trivial
  rw [List.append_nil, List.nil_append] at r
  obtain ⟨t, h1, h2⟩ := he
  have hT : T.getLast?.map Tok.tk = some t := by rw [← List.getLast?_map, e]; exact h1
  have hends : endsB T = true := by
    unfold endsB
    cases hg : T.getLast? with
    | none => rw [hg] at hT; cases hT
    | some u =>
      rw [hg] at hT; injection hT with hT
      show endsT u.kind u.text = true
      rw [← hT] at h2; exact h2
  have hc : closeB T pos' = T ++ [⟨6, [10], pos'⟩, ⟨0, [], pos'⟩] := by unfold closeB; rw [hends]; simp
  have hlen : T.length = (toks p).length := by rw [← e, List.length_map]
  refine ⟨closeB T pos', ?_, by rw [hc, List.map_append, e]; rfl⟩
  rw [scanB_of hn (render_vd hs.tk), r, scanA_nil, if_neg]
  rw [hc, List.length_append, hlen]
  simp only [List.length_cons, List.length_nil]; omega
theorem ext_nod (T : List Tok) (l : List Nd) : Ext l (l.map (toNod T)) := fun j nd hj => ⟨toNod T nd, by rw [List.getElem?_map, hj]; rfl, rfl, rfl, rfl⟩
theorem keys_nod (T T2 : List Tok) {l l2 : List Nd} (h : l2.map keyD = l.map keyD) : (l2.map (toNod T2)).map (fun n => (n.kind, n.text, n.kids)) = (l.map (toNod T)).map fun n => (n.kind, n.text, n.kids) := by
  rw [List.map_map, List.map_map]; exact h
theorem whole_text {K : List Tk} {T : List Tok} {l : List Nd} {p : Pcs} (h : Whole K l p) (hR : RightN (l.map (toNod T))) : txtB (l.map (toNod T)) ((l.map (toNod T)).length - 1) = render p := by
  have := h.w _ (ext_nod T l) hR
  rw [List.length_map]
  unfold tx at this
  rw [if_neg HS, Int.toNat_natCast] at this
  exact this
structure Again (rule : List Tk → Except (Nat × Int) (List Nd)) (l : List Nod) : Prop where
  kind : rule = pexprAll → kindAt l ((l.length - 1 : Nat) : Int) ≠ 32
  len : (txtB l (l.length - 1)).length ≤ 2403
  back : ∃ m, treeB rule (txtB l (l.length - 1)) = .ok m ∧ m.map (fun n => (n.kind, n.text, n.kids)) = l.map fun n => (n.kind, n.text, n.kids)
theorem file_again {s : Bs} (hs : s.length ≤ 1200) {l : List Nod} (h : fileB s = .ok l) : Again pfileAll l := by
  unfold fileB treeB at h
  cases hT : scanB s with
  | error e => rw [hT] at h; cases h
  | ok T =>
    rw [hT] at h
    simp only at h
    have ht := scanB_t hT
    have hk := scanB_ok s
    rw [hT] at hk
    cases hl : pfileAll (T.map Tok.tk) with
    | error e => rw [hl] at h; cases h
    | ok nds =>
      rw [hl] at h
      injection h with h
      subst h
      obtain ⟨p, hw, hsg, hlast, l2, h2, hkeys⟩ := file_back ht.ko hk.wf hl
      have tr := fileAll_tree hk.wf
      rw [hl] at tr
      obtain ⟨v, tr⟩ := tr
      have hR := tr.right hk.pos HS
      have e := whole_text (T := T) hw hR
      have hlen := render_len hw.bl
      have hcost := hw.cost
      have hcnt := hw.cnt
      have := ht.cost
      have := ht.many
      rw [List.length_map] at hcnt
      obtain ⟨T2, hT2, e2⟩ := scan_file hsg hlast HS HS
      refine ⟨fun hq => ?_, by rw [e]; omega, l2.map (toNod T2), ?_, keys_nod T T2 hkeys⟩
      · obtain ⟨⟨x, hx⟩, _⟩ := file_not_expr hl
        rw [← hq] at hx
        rw [hl] at hx; cases hx
      rw [e]
      unfold treeB
      rw [hT2]
      simp only
      rw [e2, h2]
theorem expr_again {s : Bs} (hs : s.length ≤ 1200) {l : List Nod} (h : exprB s = .ok l) : Again pexprAll l := by
  unfold exprB treeB at h
  cases hT : scanB s with
  | error e => rw [hT] at h; cases h
  | ok T =>
    rw [hT] at h
    simp only at h
    have ht := scanB_t hT
    have hk := scanB_ok s
    rw [hT] at hk
    cases hl : pexprAll (T.map Tok.tk) with
    | error e => rw [hl] at h; cases h
    | ok nds =>
      rw [hl] at h
      injection h with h
      subst h
      obtain ⟨p, hw, ⟨k, hk32, hkd⟩, hsg, hen, l2, h2, hkeys⟩ := expr_back ht.ko hk.wf hl
      have tr := exprAll_tree hk.wf
      rw [hl] at tr
      obtain ⟨v, tr⟩ := tr
      have hR := tr.right hk.pos HS
      have e := whole_text (T := T) hw hR
      have hlen := render_len hw.bl
      have hcost := hw.cost
      have hcnt := hw.cnt
      have := ht.cost
      have := ht.many
      rw [List.length_map] at hcnt
      obtain ⟨T2, hT2, e2⟩ := scan_expr hsg hen HS HS
      refine ⟨fun _ => by rw [List.length_map, hkd.at (ext_nod T nds)]; exact hk32, by rw [e]; omega, l2.map (toNod T2), ?_, keys_nod T T2 hkeys⟩
      rw [e]
      unfold treeB
      rw [hT2]
      simp only
      rw [e2, h2]
end Go.Sy
namespace Go.Sy
open Go
def KB (B : Nat) (K : List Tk) : Prop := 1 ≤ B ∧ ∀ i, (tkAt K i).2.length ≤ B
def QB (B : Nat) (s : PS) : Prop := ∀ nd ∈ s.nodes, nd.text.length ≤ B
def T0 {α : Type} (B : Nat) (m : PM α) : Prop := ∀ s a s', QB B s → m s = .ok (a, s') → QB B s'
section
variable {α β : Type} {K : List Tk} {B : Nat}
theorem T0.bind {m : PM α} {f : α → PM β} (h : T0 B m) (hf : ∀ a, T0 B (f a)) : T0 B (m.bind f) := fun s b s' hs e => by
  obtain ⟨a, s1, h1, h2⟩ := Gt e
  exact hf a _ _ _ (h _ _ _ hs h1) h2
theorem T0.bindOf (hK : KB B K) {k : Int} {f : Bs → PM β} (hf : ∀ nm, nm.length ≤ B → T0 B (f nm)) : T0 B ((pof K k).bind f) := fun s b s' hs e => by
  obtain ⟨a, s1, h1, h2⟩ := Gt e
  obtain ⟨_, e1, e2⟩ := pof_ok h1
  subst e1 e2
  exact hf _ (hK.2 s.i) s.next _ _ hs h2
theorem T0.ret {a : α} : T0 B (PM.ret a) := fun s b s' hs e => by obtain ⟨_, e2⟩ := HL e; rw [e2]; exact hs
theorem T0.fail {e : Int} : T0 B (pfail (α := α) e) := fun _ _ _ _ h => (Hx h).elim
theorem T0.when {x : Bs} {m1 m2 : PM α} (h1 : T0 B m1) (h2 : T0 B m2) : T0 B (pwhen K x m1 m2) := fun s b s' hs e => by
  rcases GV e with ⟨_, e⟩ | ⟨_, e⟩
  · exact h1 s.next _ _ hs e
  exact h2 _ _ _ hs e
theorem T0.pif {x : List Bs} {m1 m2 : PM α} (h1 : T0 B m1) (h2 : T0 B m2) : T0 B (pif K x m1 m2) := fun s b s' hs e => by
  unfold Go.Sy.pif at e
  split at e
  · exact h1 _ _ _ hs e
  exact h2 _ _ _ hs e
theorem T0.must {x : Bs} : T0 B (pmust K x) := T0.when T0.ret T0.fail
theorem T0.semi : T0 B (psemi K) := fun s b s' hs e => by obtain ⟨_, e2⟩ := semi_ok e; rw [e2]; exact hs
theorem T0.node {kind : Int} {text : Bs} {tn : Nat} {kids : List Int} (h : text.length ≤ B) : T0 B (pnode kind text tn kids) := fun s b s' hs e => by
  obtain ⟨_, e2⟩ := GI e
  rw [e2]
  intro nd hn
  rcases List.mem_append.1 hn with q | q
  · exact hs nd q
  simp at q; subst q; exact h
theorem T0.e {kind : Int} {tn : Nat} {kids : List Int} : T0 B (pnode kind [] tn kids) := T0.node (Nat.zero_le _)
theorem T0.none : T0 B pnone := fun s => T0.e s
theorem T0.nested {m : PM Int} (h : T0 B m) : T0 B (pnested m) := fun s b s' hs e => by
  obtain ⟨s1, h1, h2⟩ : ∃ s1, m s.down = .ok (b, s1) ∧ s'.nodes = s1.nodes := by
    unfold pnested at e
    split at e
    · cases e
    obtain ⟨a, s1, h1, h2⟩ := Gt e
    injection h2 with h2; injection h2 with h2 h3
    subst h2 h3
    exact ⟨s1, h1, rfl⟩
  intro nd hn
  rw [h2] at hn
  exact h _ _ _ (show QB B s.down from hs) h1 nd hn
theorem T0.at {F : PS → PM α} (h : ∀ s0, T0 B (F s0)) : T0 B (fun s => F s s) := fun s => h s s
theorem T0.ite {c : PS → Prop} [DecidablePred c] {m1 m2 : PM α} (h1 : T0 B m1) (h2 : T0 B m2) : T0 B (fun s => if c s then m1 s else m2 s) := fun s b s' hs e => by
  simp only at e
  split at e
  · exact h1 _ _ _ hs e
  exact h2 _ _ _ hs e
structure RecT (B : Nat) (r : Rec) : Prop where
  typ : T0 B r.typ
  union : T0 B r.union
  expr : ∀ n, T0 B (r.expr n)
  unary : T0 B r.unary
variable {r : Rec}
theorem plistF_t {one : PM Int} {fin : Bs} (ho : T0 B one) : ∀ (f : Nat) (out : List Int), T0 B (plistF K fin one f out)
  | 0, _ => T0.fail
  | f + 1, _ => T0.bind ho (fun _ => T0.when T0.ret (T0.bind T0.must fun _ => T0.when T0.ret (plistF_t ho f _)))
theorem plist_t {one : PM Int} {fin : Bs} (ho : T0 B one) : T0 B (plist K fin one) := plistF_t ho _ _
theorem plinesF_t {one : PM Int} (ho : T0 B one) : ∀ (f : Nat) (out : List Int), T0 B (plinesF K one f out)
  | 0, _ => T0.fail
  | f + 1, _ => T0.when T0.ret (T0.bind ho (fun _ => T0.pif (plinesF_t ho f _) (T0.bind T0.semi fun _ => plinesF_t ho f _)))
theorem plines_t {one : PM Int} (ho : T0 B one) : T0 B (plines K one) := T0.bind T0.must fun _ => plinesF_t ho _ _
theorem pnamed_t (hK : KB B K) (h : RecT B r) : T0 B (pnamed K r) := fun s => (show T0 B (pnamedA K r s.i) from
  T0.bindOf hK fun _ hnm => T0.bind (T0.node hnm) fun _ => T0.bind (T0.when (T0.bindOf hK fun _ ht => T0.node ht) T0.ret) fun _ => T0.when (T0.bind (plist_t h.typ) fun _ => T0.e) T0.ret) s
theorem pparam_t (hK : KB B K) (h : RecT B r) : T0 B (pparam K r) := fun s => (show T0 B (pparamA K r s.i) from T0.bindOf hK fun _ hnm => T0.bind h.typ fun _ => T0.node hnm) s
theorem psig_t (hK : KB B K) (h : RecT B r) (a : Nat) : T0 B (psignature K r a) :=
  T0.bind T0.must fun _ => T0.bind (T0.when T0.ret (plist_t (pparam_t hK h))) fun _ => T0.ite (c := fun s => resT (s.tok K)) (T0.bind h.typ fun _ => T0.e) (T0.bind T0.none fun _ => T0.e)
theorem pfield_t (hK : KB B K) (h : RecT B r) : T0 B (pfield K r) := fun s b s' hs e => by
  unfold pfield at e
  split at e
  · exact (T0.bind h.typ fun t => T0.e) _ _ _ hs e
  split at e
  · exact (T0.bind (pnamed_t hK h) fun t => T0.e) _ _ _ hs e
  exact (T0.bindOf hK fun nm hnm => T0.bind h.typ fun t => T0.node hnm) _ _ _ hs e
theorem pelem_t (hK : KB B K) (h : RecT B r) : T0 B (pelem K r) := fun s b s' hs e => by
  unfold pelem at e
  split at e
  · exact (T0.bindOf (f := fun nm => fun s1 => ((psignature K r s1.i).bind fun f => pnode 20 nm s.i [f]) s1) hK fun nm hnm => fun s1 => (T0.bind (psig_t hK h s1.i) fun f => T0.node hnm) s1) _ _ _ hs e
  exact h.union _ _ _ hs e
theorem pliteral_t (hK : KB B K) (h : RecT B r) : T0 B (pliteral K r) := fun s => (show T0 B (pliteralA K r s.i) from
  T0.when (T0.when (T0.bind h.typ fun _ => T0.e) (T0.bind (h.expr 1) fun _ => T0.bind T0.must fun _ => T0.bind h.typ fun _ => T0.e))
  (T0.when (T0.bind T0.must fun _ => T0.bind h.typ fun _ => T0.bind T0.must fun _ => T0.bind h.typ fun _ => T0.e)
  (T0.when (psig_t hK h _) (T0.when (T0.bind (plines_t (pfield_t hK h)) fun _ => T0.e) (T0.when (T0.bind (plines_t (pelem_t hK h)) fun _ => T0.e) T0.fail))))) s
theorem pbare_t (hK : KB B K) (h : RecT B r) : T0 B (pbare K r) := fun s b s' hs e => by
  unfold pbare at e
  split at e
  · exact pnamed_t hK h _ _ _ hs e
  exact (T0.when (T0.bind h.typ fun t => T0.node (text := [42]) hK.1) (T0.when (T0.bind h.typ fun t => T0.bind T0.must fun _ => T0.e) (pliteral_t hK h))) _ _ _ hs e
theorem punionF_t (hK : KB B K) (h : RecT B r) (a : Nat) : ∀ (f : Nat) (out : List Int), T0 B (punionF K r a f out)
  | 0, _ => T0.fail
  | f + 1, out => fun s b s' hs e => by
    replace e : ptermA K r s.i (fun v => pwhen K [124] (punionF K r a f (out ++ [v])) (pnode 21 [] a (out ++ [v]))) s = .ok (b, s') := e
    unfold ptermA at e
    obtain ⟨x, s1, h1, h2⟩ := Gt e
    have hx : x.length ≤ B ∧ QB B s1 := by
      rcases GV h1 with ⟨_, h1⟩ | ⟨_, h1⟩
      · obtain ⟨e1, e2⟩ := HL h1; subst e1 e2; exact ⟨hK.1, hs⟩
      obtain ⟨e1, e2⟩ := HL h1; subst e1 e2; exact ⟨Nat.zero_le _, hs⟩
    exact (T0.bind h.typ fun t => T0.bind (T0.node hx.1) fun v => T0.when (punionF_t hK h a f _) T0.e) _ _ _ hx.2 h2
theorem pexprF_t (hK : KB B K) (h : RecT B r) (n a : Nat) : ∀ (f : Nat) (x : Int), T0 B (pexprF K r n a f x)
  | 0, _ => T0.fail
  | f + 1, x => fun s b s' hs e => by
    unfold pexprF at e
    split at e
    · injection e with e; injection e with _ e; rw [← e]; exact hs
    exact (T0.bind (h.expr _) fun y => T0.bind (T0.node (hK.2 s.i)) fun v => pexprF_t hK h n a f v) _ _ _ (show QB B s.next from hs) e
theorem poperand_t (hK : KB B K) (h : RecT B r) : T0 B (poperand K r) := fun s b s' hs e => by
  unfold poperand at e
  split at e
  · exact (T0.node (hK.2 s.i)) _ _ _ (show QB B s.next from hs) e
  exact (T0.when (T0.bind (h.expr 1) fun x => T0.bind T0.must fun _ => T0.e) (pliteral_t hK h)) _ _ _ hs e
theorem pprimF_t (hK : KB B K) (h : RecT B r) (a : Nat) : ∀ (f : Nat) (x : Int), T0 B (pprimF K r a f x)
  | 0, _ => T0.fail
  | f + 1, _ => T0.when (T0.bindOf hK fun _ ht => T0.bind (T0.node ht) fun v => pprimF_t hK h a f v)
      (T0.when (T0.bind (T0.when T0.ret (T0.bind (plist_t (h.expr 1)) fun _ => T0.ret)) fun _ => T0.bind T0.e fun v => pprimF_t hK h a f v)
      (T0.when (T0.bind (plist_t (h.expr 1)) fun _ => T0.bind T0.e fun v => pprimF_t hK h a f v) T0.ret))
theorem punary_t (hK : KB B K) (h : RecT B r) : T0 B (punary K r) := fun s b s' hs e => by
  unfold punary at e
  split at e
  · exact (T0.bind h.unary fun x => T0.node (hK.2 s.i)) _ _ _ (show QB B s.next from hs) e
  exact (T0.bind (poperand_t hK h) fun x => pprimF_t hK h s.i _ x) _ _ _ hs e
theorem lev_t (hK : KB B K) : ∀ d, RecT B (lev K d)
  | 0 => ⟨T0.fail, T0.fail, fun _ => T0.fail, T0.fail⟩
  | d + 1 => ⟨T0.nested (pbare_t hK (lev_t hK d)), T0.nested fun s => punionF_t hK (lev_t hK d) s.i _ _ s, fun n => T0.nested fun s => (T0.bind (lev_t hK d).unary fun x => pexprF_t hK (lev_t hK d) n s.i _ x) s, T0.nested (punary_t hK (lev_t hK d))⟩
theorem pofT_t (hK : KB B K) (h : RecT B r) : T0 B (pofT K r) := fun s => (show T0 B (pofA K r s.i) from T0.bindOf hK fun _ hnm => T0.bind h.union fun _ => T0.node hnm) s
theorem ptypes_t (hK : KB B K) (h : RecT B r) (has : Bool) : T0 B (ptypes K r has) := fun s b s' hs e => by
  unfold ptypes at e
  split at e
  · exact (T0.bind T0.must fun _ => T0.bind (plist_t (pofT_t hK h)) fun l => T0.e) _ _ _ hs e
  exact T0.e _ _ _ hs e
theorem punless_t (h : RecT B r) (x : Bs) : T0 B (punless K r x) := T0.ite (c := fun s => isB (s.tok K) [x] = true) T0.none h.typ
theorem pbody_t (h : RecT B r) : T0 B (pbody K r) := fun s => (show T0 B (pbodyA K r s.i) from
  T0.bind T0.must fun _ => T0.when (T0.bind (show T0 B (pvalA K r) from T0.ite (c := fun s1 => semiB (s1.tok K) = true ∨ isB (s1.tok K) [[125]] = true) T0.none (h.expr 1)) fun v => T0.bind (fun s b s' hs e => by
    unfold poptA at e
    split at e <;> (injection e with e; injection e with _ e; rw [← e]; exact hs)) fun _ => T0.bind T0.must fun _ => T0.e) (T0.bind T0.none fun v => T0.bind T0.must fun _ => T0.e)) s
theorem pfun_t (hK : KB B K) (h : RecT B r) (a b : Nat) : T0 B (pfunA K r a b) :=
  T0.bind (T0.when (T0.bindOf hK fun _ hnm => T0.bind h.typ fun _ => T0.bind T0.must fun _ => T0.node hnm) T0.none) fun recv =>
    T0.bindOf (f := fun nm => fun s1 => ptysB K r nm a recv (isB (s1.tok K) [[91]]) s1) hK fun nm hnm => fun s1 =>
      (T0.bind (f := fun ty => fun s2 => psigB K r nm a recv ty s2.i s2) (ptypes_t hK h _) fun _ => fun s2 => (T0.bind (psig_t hK h _) fun _ => T0.bind (pbody_t h) fun _ => T0.node hnm) s2) s1
theorem pdecl_t (hK : KB B K) (h : RecT B r) : T0 B (pdecl K r) := fun s => (show T0 B (pdeclA K r s.i) from
  T0.when (T0.bindOf hK fun _ hnm => T0.bind (punless_t h _) fun _ => T0.bind T0.must fun _ => T0.bind (h.expr 1) fun _ => T0.node hnm)
  (T0.when (T0.bindOf hK fun _ hnm => T0.bind (punless_t h _) fun _ => T0.when (T0.bind (h.expr 1) fun _ => T0.node hnm) (T0.bind T0.none fun _ => T0.node hnm))
  (T0.when (T0.bindOf (f := fun nm => fun s1 => ptyA K r nm s.i (phas K s1) s1) hK fun _ hnm => fun s1 => (T0.bind (ptypes_t hK h _) fun _ => T0.bind h.typ fun _ => T0.node hnm) s1)
  (T0.when (fun s2 => pfun_t hK h s.i s2.i s2) T0.fail)))) s
theorem pimportsF_t (hK : KB B K) : ∀ (f : Nat) (out : List Int), T0 B (pimportsF K f out)
  | 0, _ => T0.fail
  | f + 1, out => fun s b s' hs e => by
    unfold pimportsF at e
    split at e
    · exact (T0.bindOf hK fun t ht => T0.bind (T0.node ht) fun v => T0.bind T0.semi fun _ => pimportsF_t hK f _) _ _ _ (show QB B s.next from hs) e
    injection e with e; injection e with _ e; rw [← e]; exact hs
theorem pdeclsF_t (hK : KB B K) (h : RecT B r) : ∀ (f : Nat) (out : List Int), T0 B (pdeclsF K r f out)
  | 0, _ => T0.fail
  | f + 1, out => fun s b s' hs e => by
    unfold pdeclsF at e
    split at e
    · injection e with e; injection e with _ e; rw [← e]; exact hs
    exact (T0.bind (pdecl_t hK h) fun v => T0.bind T0.semi fun _ => pdeclsF_t hK h f _) _ _ _ hs e
theorem pfile_t (hK : KB B K) (h : RecT B r) : T0 B (pfile K r) := fun s => (show T0 B (pfileA K r s.i) from
  T0.bind T0.must fun _ => T0.bindOf hK fun _ hnm => T0.bind T0.semi fun _ => T0.bind (pimportsF_t hK _ _) fun _ => T0.bind (pdeclsF_t hK h _ _) fun _ => T0.node hnm) s
theorem whole_t {m : PM Int} (h : T0 B m) {l : List Nd} (e : pwhole K m = .ok l) : ∀ nd ∈ l, nd.text.length ≤ B := by
  unfold pwhole at e
  split at e
  · rename_i v s hm
    split at e
    · injection e with e
      subst e
      exact h _ _ _ (fun nd hn => by cases hn) hm
    cases e
  cases e
theorem fileAll_t (hK : KB B K) {l : List Nd} (e : pfileAll K = .ok l) : ∀ nd ∈ l, nd.text.length ≤ B := whole_t (pfile_t hK (lev_t hK 40)) e
theorem exprAll_t (hK : KB B K) {l : List Nd} (e : pexprAll K = .ok l) : ∀ nd ∈ l, nd.text.length ≤ B := by
  refine whole_t (m := ((lev K 40).expr 1).bind fun v s => if semiB (s.tok K) then .ok (v, s.next) else .ok (v, s)) ?_ e
  refine T0.bind ((lev_t hK 40).expr 1) fun v => fun s b s' hs e => ?_
  split at e <;> (injection e with e; injection e with _ e; rw [← e]; exact hs)
end
theorem kb_of {K : List Tk} {c : Nat} (h : cost K ≤ c) (hc : 1 ≤ c) : KB c K := by
  refine ⟨hc, fun i => ?_⟩
  rcases Nat.lt_or_ge i K.length with q | q
  · have h1 := cum_next (K := K) q
    have h2 := cum_le (K := K) (i + 1)
    omega
  unfold tkAt
  rw [List.getD_eq_getElem?_getD, List.getElem?_eq_none q]
  exact Nat.zero_le _
theorem text_short {rule : List Tk → Except (Nat × Int) (List Nd)} (hr : ∀ {B K l}, KB B K → rule K = .ok l → ∀ nd ∈ l, nd.text.length ≤ B) {s : Bs} {l : List Nod} (h : treeB rule s = .ok l) : ∀ n ∈ l, n.text.length ≤ 2 * s.length + 3 := by
  unfold treeB at h
  cases hT : scanB s with
  | error e => rw [hT] at h; cases h
  | ok T =>
    rw [hT] at h
    simp only at h
    have ht := scanB_t hT
    cases hl : rule (T.map Tok.tk) with
    | error e => rw [hl] at h; cases h
    | ok nds =>
      rw [hl] at h
      injection h with h
      subst h
      intro n hn
      obtain ⟨nd, hnd, rfl⟩ := List.mem_map.1 hn
      exact hr (kb_of ht.cost HS) hl nd hnd
end Go.Sy
namespace Go.Sy
open Go
structure BackT (l : List Nod) : Prop where
  right : RightN l
  own : ownAll l ≤ 100000000
  short : ∀ n ∈ l, n.text.length ≤ 1000000
  len : (rootB l).length ≤ 4000
  text : ∀ s e, TextR l s e → e = 0 ∧ s = rootB l
theorem BackT.all {l : List Nod} (h : BackT l) : RightN l → ownAll l ≤ 100000000 ∧ (∀ n ∈ l, n.text.length ≤ 1000000) ∧ (rootB l).length ≤ 100000 := fun _ => ⟨h.own, h.short, by have := h.len; omega⟩
structure BackR (read : Bs → Except (Nat × Int) (List Nod)) (l : List Nod) : Prop where
  one : BackT l
  back : ∃ m, read (rootB l) = .ok m ∧ m.map keyN = l.map keyN ∧ BackT m ∧ rootB m = rootB l
theorem own_right {l : List Nod} (hr : RightN l) (ht : ∀ n ∈ l, n.text.length ≤ 2403) : ownAll l ≤ 100000000 := by
  have := ownAll_le (l := l) (m := 39249) fun n hn => by
    obtain ⟨q, hq, rfl⟩ := List.getElem_of_mem hn
    have h1 := ht _ hn
    have h2 := kids_few hr hq
    unfold ownC; omega
  have h3 : l.length * 39249 ≤ 2000 * 39249 := Nat.mul_le_mul_right _ hr.many
  omega
theorem backT {l back : List Nod} (hr : RightN l) (ht : ∀ n ∈ l, n.text.length ≤ 2403) (hlen : (rootB l).length ≤ 4000) (hb : readB l (rootB l) = .ok back) (hk : back.map keyN = l.map keyN) : BackT l :=
  ⟨hr, own_right hr ht, fun n hn => by have := ht n hn; omega, hlen, fun s e h => by
    by_cases he : e = 0
    · exact ⟨he, (h.ok he).2.1⟩
    exact absurd hk ((h.bad he).2 hr back hb)⟩
theorem short_keys {l m : List Nod} (h : m.map keyN = l.map keyN) {B : Nat} (ht : ∀ n ∈ l, n.text.length ≤ B) : ∀ n ∈ m, n.text.length ≤ B := by
  intro n hn
  have : keyN n ∈ m.map keyN := List.mem_map_of_mem hn
  rw [h] at this
  obtain ⟨x, hx, e⟩ := List.mem_map.1 this
  have := ht x hx
  rw [← (keyN_eq.1 e).2.1]; exact this
theorem back_of {read : Bs → Except (Nat × Int) (List Nod)} {l : List Nod} (hr : RightN l) (ht : ∀ n ∈ l, n.text.length ≤ 2403) (hlen : (rootB l).length ≤ 2403) (hrd : ∀ s, readB l s = read s) (hok : ∀ {s m}, s.length ≤ 4000 → read s = .ok m → RightN m) {m : List Nod} (hm : read (rootB l) = .ok m) (hk : m.map keyN = l.map keyN) : BackR read l := by
  have e := rootB_keys hk
  have hmr : RightN m := hok HS hm
  refine ⟨backT hr ht HS (by rw [hrd]; exact hm) hk, m, hm, hk, backT hmr (short_keys hk ht) (by rw [e]; omega) (back := m) ?_ rfl, e⟩
  rw [readB_keys hk, e, hrd]; exact hm
theorem backF {s : Bs} (hs : s.length ≤ 1200) {l : List Nod} (h : fileB s = .ok l) : BackR fileB l := by
  obtain ⟨_, hlen, m, hm, hk⟩ := file_again hs h
  have hr := right_ofF HS h
  obtain ⟨hlt, hkd⟩ := root_kind hr
  obtain ⟨_, l', nd, e, h32⟩ := fileB_not_expr h
  have hk32 : l[l.length - 1].kind = 32 := by subst e; simpa using h32
  refine back_of hr (fun n hn => ?_) (by unfold rootB; exact hlen) (fun s => readB_file (by rw [hkd]; exact hk32) s) (fun h1 h2 => right_ofF h1 h2) (show fileB (rootB l) = .ok m by unfold rootB; exact hm) hk
  have := text_short (rule := pfileAll) (fun hK e => fileAll_t hK e) h n hn
  omega
theorem backE {s : Bs} (hs : s.length ≤ 1200) {l : List Nod} (h : exprB s = .ok l) : BackR exprB l := by
  obtain ⟨hk32, hlen, m, hm, hk⟩ := expr_again hs h
  have hr := right_of HS h
  refine back_of hr (fun n hn => ?_) (by unfold rootB; exact hlen) (fun s => readB_expr (hk32 HQ) s) (fun h1 h2 => right_of h1 h2) (show exprB (rootB l) = .ok m by unfold rootB; exact hm) hk
  have := text_short (rule := pexprAll) (fun hK e => exprAll_t hK e) h n hn
  omega
end Go.Sy
namespace Go.Sy
open Go Go.Proofs Go.RowKit
attribute [local irreducible] AC AT AO AK AH ACalls ACallsX ACallsD Sub Res.cells Res.obj Res.nix Res.own Res.map Exit.then Exit.inBlock Exit.noGoto bodyPost bodyPostD Code.wp Code.wpIn WL Next Post PostX Kont
attribute [local irreducible] exprB fileB rootB readB
section
variable {W0 : World} {L : List Res} {F : List Fact} {R : Value → List Res → List Fact → Prop}
set_option maxRecDepth 100000
set_option maxHeartbeats 4000000
theorem writeBack_c (g0 : ScanG W0 F) (s : Bs) (h : R (.bool true) L F) : ACalls Tryz.prog W0 3 #[S s] L F R := by
  have g : ScanG W0 (fNo :: F) := g0.more (fun x hx => memS hx)
  have mN : fNo ∈ fNo :: F := mem0
  have h3 : (s.take 1200).length ≤ 1200 := by simp; omega
  refine Gn Tryz.func3 HQ Tryz.ntmps3 HQ ?_
  refine qs 10 ?_
  refine Gb (AO.min HQ HQ HQ ?_)
  refine Gb (AO.sliceSH (j' := min s.length 1200) HQ HQ HQ HS HS ?_)
  have hcut : s.take (min s.length 1200) = s.take 1200 := by
   rcases Nat.le_total s.length 1200 with q | q
   · rw [Nat.min_eq_left q, List.take_of_length_le (Nat.le_refl _), List.take_of_length_le q]
   rw [Nat.min_eq_right q]
  rw [hcut]
  generalize s.take 1200 = t at h3
  refine GT (Sub.nilF (sz := 1)) ?_
  refine qs 6 ?_
  refine Gb (Gi HQ HQ (file_c g mN t HS (fun l hl a30 k30 c30 => ?_) (fun i e hl => ?_)))
  ·refine qs 12 ?_
   refine Gb (Gi HQ HQ (expr_c (g.more (fun x hx => by repeat (first | exact hx | refine List.mem_cons_of_mem _ ?_))) memA t HS (fun m hm a36 k36 c36 => ?_) (fun i2 e2 hm => ?_)))
   ·refine qs 13 ?_
    refine Gb (GA HQ HQ HQ (fun c41 => ?_) (fun c41 => absurd HQ c41))
    refine qs 6 ?_
    obtain ⟨onel, bl, hbl, hkl, twol, hrl⟩ := backF h3 hl
    refine Gb (Gi HQ HQ (HP (g.more (fun x hx => by repeat (first | exact hx | refine List.mem_cons_of_mem _ ?_))) memA l onel.all memA (fun s44 e44 h44 => ?_)))
    obtain ⟨q1, q2⟩ := onel.text _ _ h44
    subst q1 q2
    refine qs 10 ?_
    refine Gb (Gi HQ HQ (file_c (g.more (fun x hx => by repeat (first | exact hx | refine List.mem_cons_of_mem _ ?_))) memA (rootB l) (by have := onel.len; omega) (fun x49 hx49 a49 k49 c49 => ?_) (fun i e hx49 => by rw [hbl] at hx49; cases hx49)))
    obtain rfl : bl = x49 := by rw [hbl] at hx49; injection hx49
    refine qs 12 ?_
    refine Gb (Gi HQ HQ (HP (g.more (fun x hx => by repeat (first | exact hx | refine List.mem_cons_of_mem _ ?_))) memA bl twol.all memA (fun s55 e55 h55 => ?_)))
    obtain ⟨q1, q2⟩ := twol.text _ _ h55
    subst q1 q2
    refine qs 10 ?_
    refine Gb (Hw HQ HQ HQ (fun c59 => absurd HQ c59) (fun c59 => ?_))
    refine qs 2 ?_
    refine Gr HQ HQ (Hw HQ HQ HQ (fun c62 => absurd HQ c62) (fun c62 => ?_))
    refine qs 3 ?_
    refine Gr HQ HQ (Hw HQ HQ HQ (fun c66 => absurd HQ c66) (fun c66 => ?_))
    refine qs 4 ?_
    refine Gr HQ HQ (Gi HQ HQ (like2_c bl l memA memA (fun c71 => ?_) (fun c71 => absurd hkl c71)))
    refine qs 5 ?_
    refine Gr HQ HQ (AO.neqS HQ HQ HQ (fun c77 => absurd hrl c77) (fun c77 => ?_))
    refine qs 10 ?_
    refine Gb (GA HQ HQ HQ (fun c80 => ?_) (fun c80 => absurd HQ c80))
    refine qs 6 ?_
    obtain ⟨onem, bm, hbm, hkm, twom, hrm⟩ := backE h3 hm
    refine Gb (Gi HQ HQ (HP (g.more (fun x hx => by repeat (first | exact hx | refine List.mem_cons_of_mem _ ?_))) memA m onem.all memA (fun s83 e83 h83 => ?_)))
    obtain ⟨q1, q2⟩ := onem.text _ _ h83
    subst q1 q2
    refine qs 10 ?_
    refine Gb (Gi HQ HQ (expr_c (g.more (fun x hx => by repeat (first | exact hx | refine List.mem_cons_of_mem _ ?_))) memA (rootB m) (by have := onem.len; omega) (fun x88 hx88 a88 k88 c88 => ?_) (fun i e hx88 => by rw [hbm] at hx88; cases hx88)))
    obtain rfl : bm = x88 := by rw [hbm] at hx88; injection hx88
    refine qs 12 ?_
    refine Gb (Gi HQ HQ (HP (g.more (fun x hx => by repeat (first | exact hx | refine List.mem_cons_of_mem _ ?_))) memA bm twom.all memA (fun s94 e94 h94 => ?_)))
    obtain ⟨q1, q2⟩ := twom.text _ _ h94
    subst q1 q2
    refine qs 10 ?_
    refine Gb (Hw HQ HQ HQ (fun c98 => absurd HQ c98) (fun c98 => ?_))
    refine qs 2 ?_
    refine Gr HQ HQ (Hw HQ HQ HQ (fun c101 => absurd HQ c101) (fun c101 => ?_))
    refine qs 3 ?_
    refine Gr HQ HQ (Hw HQ HQ HQ (fun c105 => absurd HQ c105) (fun c105 => ?_))
    refine qs 4 ?_
    refine Gr HQ HQ (Gi HQ HQ (like2_c bm m memA memA (fun c110 => ?_) (fun c110 => absurd hkm c110)))
    refine qs 5 ?_
    refine Gr HQ HQ (AO.neqS HQ HQ HQ (fun c116 => absurd hrm c116) (fun c116 => ?_))
    refine qs 8 ?_
    refine Gb (Gi HQ HQ (alive_c (g.more (fun x hx => by repeat (first | exact hx | refine List.mem_cons_of_mem _ ?_))) memA ?_))
    refine qs 4 ?_
    exact Gg (L' := L) (F' := F) Tryz.results3 rfl (Gc (fun x hx => by repeat (first | exact hx | refine List.mem_cons_of_mem _ ?_))) h
   refine qs 13 ?_
   refine Gb (GA HQ HQ HQ (fun c41 => ?_) (fun c41 => absurd HQ c41))
   refine qs 6 ?_
   obtain ⟨onel, bl, hbl, hkl, twol, hrl⟩ := backF h3 hl
   refine Gb (Gi HQ HQ (HP (g.more (fun x hx => by repeat (first | exact hx | refine List.mem_cons_of_mem _ ?_))) memA l onel.all memA (fun s44 e44 h44 => ?_)))
   obtain ⟨q1, q2⟩ := onel.text _ _ h44
   subst q1 q2
   refine qs 10 ?_
   refine Gb (Gi HQ HQ (file_c (g.more (fun x hx => by repeat (first | exact hx | refine List.mem_cons_of_mem _ ?_))) memA (rootB l) (by have := onel.len; omega) (fun x49 hx49 a49 k49 c49 => ?_) (fun i e hx49 => by rw [hbl] at hx49; cases hx49)))
   obtain rfl : bl = x49 := by rw [hbl] at hx49; injection hx49
   refine qs 12 ?_
   refine Gb (Gi HQ HQ (HP (g.more (fun x hx => by repeat (first | exact hx | refine List.mem_cons_of_mem _ ?_))) memA bl twol.all memA (fun s55 e55 h55 => ?_)))
   obtain ⟨q1, q2⟩ := twol.text _ _ h55
   subst q1 q2
   refine qs 10 ?_
   refine Gb (Hw HQ HQ HQ (fun c59 => absurd HQ c59) (fun c59 => ?_))
   refine qs 2 ?_
   refine Gr HQ HQ (Hw HQ HQ HQ (fun c62 => absurd HQ c62) (fun c62 => ?_))
   refine qs 3 ?_
   refine Gr HQ HQ (Hw HQ HQ HQ (fun c66 => absurd HQ c66) (fun c66 => ?_))
   refine qs 4 ?_
   refine Gr HQ HQ (Gi HQ HQ (like2_c bl l memA memA (fun c71 => ?_) (fun c71 => absurd hkl c71)))
   refine qs 5 ?_
   refine Gr HQ HQ (AO.neqS HQ HQ HQ (fun c77 => absurd hrl c77) (fun c77 => ?_))
   refine qs 10 ?_
   refine Gb (GA HQ HQ HQ (fun c80 => absurd c80 (HI hm)) (fun c80 => ?_))
   refine qs 7 ?_
   refine Gb (Gi HQ HQ (alive_c (g.more (fun x hx => by repeat (first | exact hx | refine List.mem_cons_of_mem _ ?_))) memA ?_))
   refine qs 4 ?_
   exact Gg (L' := L) (F' := F) Tryz.results3 rfl (Gc (fun x hx => by repeat (first | exact hx | refine List.mem_cons_of_mem _ ?_))) h
  refine qs 12 ?_
  refine Gb (Gi HQ HQ (expr_c (g.more (fun x hx => by repeat (first | exact hx | refine List.mem_cons_of_mem _ ?_))) memA t HS (fun m hm a36 k36 c36 => ?_) (fun i2 e2 hm => ?_)))
  ·refine qs 13 ?_
   refine Gb (GA HQ HQ HQ (fun c41 => absurd c41 (HH hl)) (fun c41 => ?_))
   refine qs 9 ?_
   refine Gb (GA HQ HQ HQ (fun c80 => ?_) (fun c80 => absurd HQ c80))
   refine qs 6 ?_
   obtain ⟨onem, bm, hbm, hkm, twom, hrm⟩ := backE h3 hm
   refine Gb (Gi HQ HQ (HP (g.more (fun x hx => by repeat (first | exact hx | refine List.mem_cons_of_mem _ ?_))) memA m onem.all memA (fun s83 e83 h83 => ?_)))
   obtain ⟨q1, q2⟩ := onem.text _ _ h83
   subst q1 q2
   refine qs 10 ?_
   refine Gb (Gi HQ HQ (expr_c (g.more (fun x hx => by repeat (first | exact hx | refine List.mem_cons_of_mem _ ?_))) memA (rootB m) (by have := onem.len; omega) (fun x88 hx88 a88 k88 c88 => ?_) (fun i e hx88 => by rw [hbm] at hx88; cases hx88)))
   obtain rfl : bm = x88 := by rw [hbm] at hx88; injection hx88
   refine qs 12 ?_
   refine Gb (Gi HQ HQ (HP (g.more (fun x hx => by repeat (first | exact hx | refine List.mem_cons_of_mem _ ?_))) memA bm twom.all memA (fun s94 e94 h94 => ?_)))
   obtain ⟨q1, q2⟩ := twom.text _ _ h94
   subst q1 q2
   refine qs 10 ?_
   refine Gb (Hw HQ HQ HQ (fun c98 => absurd HQ c98) (fun c98 => ?_))
   refine qs 2 ?_
   refine Gr HQ HQ (Hw HQ HQ HQ (fun c101 => absurd HQ c101) (fun c101 => ?_))
   refine qs 3 ?_
   refine Gr HQ HQ (Hw HQ HQ HQ (fun c105 => absurd HQ c105) (fun c105 => ?_))
   refine qs 4 ?_
   refine Gr HQ HQ (Gi HQ HQ (like2_c bm m memA memA (fun c110 => ?_) (fun c110 => absurd hkm c110)))
   refine qs 5 ?_
   refine Gr HQ HQ (AO.neqS HQ HQ HQ (fun c116 => absurd hrm c116) (fun c116 => ?_))
   refine qs 8 ?_
   refine Gb (Gi HQ HQ (alive_c (g.more (fun x hx => by repeat (first | exact hx | refine List.mem_cons_of_mem _ ?_))) memA ?_))
   refine qs 4 ?_
   exact Gg (L' := L) (F' := F) Tryz.results3 rfl (Gc (fun x hx => by repeat (first | exact hx | refine List.mem_cons_of_mem _ ?_))) h
  refine qs 13 ?_
  refine Gb (GA HQ HQ HQ (fun c41 => absurd c41 (HH hl)) (fun c41 => ?_))
  refine qs 9 ?_
  refine Gb (GA HQ HQ HQ (fun c80 => absurd c80 (HI hm)) (fun c80 => ?_))
  refine qs 7 ?_
  refine Gb (Gi HQ HQ (alive_c (g.more (fun x hx => by repeat (first | exact hx | refine List.mem_cons_of_mem _ ?_))) memA ?_))
  refine qs 4 ?_
  exact Gg (L' := L) (F' := F) Tryz.results3 rfl (Gc (fun x hx => by repeat (first | exact hx | refine List.mem_cons_of_mem _ ?_))) h
end
end Go.Sy
