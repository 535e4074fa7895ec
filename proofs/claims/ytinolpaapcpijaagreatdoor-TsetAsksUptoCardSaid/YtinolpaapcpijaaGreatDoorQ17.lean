/- Joined of my own texts: UnA, UnB, UnC, UnD, SubI, SubJ, UnE, SubL, UnF, SubW, UnG, UnL, UnS, SeP, SeQ. -/
import Derived.Test.YtinolpaapcpijaaGreatDoorQ16
namespace Go.Sy
open Go Go.Proofs Go.RowKit
theorem asks_full (T : List Ty) : (asksL T).length = T.length := by rw [ask_all]; exact asks_len T T.length (Nat.le_refl _)
theorem rep_step2 {α : Type} (z : α) {n q : Nat} (h : q < n) : List.replicate (n - q) z = z :: List.replicate (n - (q + 1)) z := by
  have e : n - q = (n - (q + 1)) + 1 := by omega
  rw [e, List.replicate_succ]
theorem ask_next2 {l : List Ty} {n q : Nat} (hq : q < l.length) : (asksL (l.take q) ++ askK (asksL (l.take q)) (ask0 l[q]) l[q].kids :: List.replicate (n - (q + 1)) 0) = asksL (l.take (q + 1)) ++ List.replicate (n - (q + 1)) 0 := by
  rw [asks_step hq]; simp [ask1]
attribute [local irreducible] AC AT AO AK AH ACalls Sub Res.cells Res.obj Res.nix Res.own Res.map Exit.then Exit.inBlock bodyPost Code.wp Code.wpIn WL Next Post Kont
section
variable {W0 : World} {L : List Res} {F : List Fact} {R : Value → List Res → List Fact → Prop}
set_option maxRecDepth 100000
set_option maxHeartbeats 8000000
theorem uasks_c (l : List Ty) (hr : rightP l) {a : Option Addr} {k c : Nat} (mL : fL l a k c ∈ F) (h : ∀ a k c, R (.slice a k c) L (fI (asksL l) a k c :: F)) : ACalls Tryz.prog W0 42 #[.slice a k c] L F R := by
  have h400 := hr.2.1
  refine Gg Tryz.func42 HZ Tryz.ntmps42 HZ ?_
  refine qs 8 ?_
  refine Ga (Gt HZ HZ (fun hl9 => ?_) (enc := eTy) (lst := l) (hm := memA))
  refine Ga (AO.makeSlice1 (m := l.length) HZ HZ HZ HZ Jb Jb HZ (fun b10 => ?_))
  refine qs 7 ?_
  refine Ga (Gt HZ HZ (fun hl12 => ?_) (enc := eTy) (lst := l) (hm := memA))
  refine qs 4 ?_
  refine GB (fun (q : Nat) => q ≤ l.length) (fun q => [(3, .slice (some ⟨b10, 0, none⟩) l.length l.length), (11, .slice a k c), (12, .int .i64 l.length), (13, .int .i64 (q : Int))]) (fun q => Res.cells b10 ((asksL (l.take q) ++ List.replicate (l.length - q) 0).map (Value.int .i64)).toArray 3 :: L) (fun _ => _) (fun q => l.length - q) 0 (Nat.zero_le _) srA (Hk (by simp [asksL])) ?_
  rintro q hq
  refine qs 2 ?_
  refine Ga (Gw HZ HZ HZ (fun c14 => ?_) (fun c14 => ?_))
  ·refine qs 11 ?_
   have hql : q < l.length := by omega
   have hAl := asks_len l q Jb
   have hrt := GT hr hql
   rw [rep_step2 0 hql]
   refine Ga (Gd HZ HZ HZ HZ (enc := eTy) (lst := l) memA hql (fun _ _ => ?_))
   refine Ga (GN HZ HZ ?_)
   intro a22 k22 z22 d22 e22 f22
   refine Ga (Gj HZ (fun b5 => ?_))
   refine qs 9 ?_
   refine Ga (Gr HZ HZ HZ (fun c20 => ?_) (fun c20 => ?_))
   ·refine qs 8 ?_
    have hp := hrt.param c20
    refine Ga (AO.add HZ HZ HZ Jb Jb ?_)
    refine Ga (AO.ofY (GE (k := q) HZ HZ HZ Jb) HZ ?_)
    refine Ga (GM (v := .int .i64 (l[q].n + 1)) (cs := (asksL (l.take q) ++ 0 :: List.replicate (l.length - (q + 1)) 0).map (Value.int .i64)) HZ HZ HZ ?_ (ho := blt_of (by simp; omega)))
    rw [setA hAl]
    refine qs 6 ?_
    refine Ga (Gt HZ HZ (fun hl29 => ?_) (enc := eI) (lst := l[q].kids) (hm := memA))
    refine qs 4 ?_
    rw [show l[q].n + 1 = ask0 l[q] from (if_pos c20).symm]
    refine GB (fun (v : Nat) => v ≤ l[q].kids.length) (fun v => [(3, .slice (some ⟨b10, 0, none⟩) l.length l.length), (11, .slice a k c), (12, .int .i64 l.length), (13, .int .i64 (q : Int)), (4, .int .i64 (q : Int)), (5, .pointer (some ⟨b5, 0, none⟩)), (28, .slice d22 e22 f22), (29, .int .i64 l[q].kids.length), (30, .int .i64 (v : Int))]) (fun v => _ :: Res.cells b10 ((asksL (l.take q) ++ askK (asksL (l.take q)) (ask0 l[q]) (l[q].kids.take v) :: List.replicate (l.length - (q + 1)) 0).map (Value.int .i64)).toArray 3 :: L) (fun _ => _) (fun v => l[q].kids.length - v) 0 (Nat.zero_le _) srA (Gf _ _) ?_
    rintro v hv
    refine qs 2 ?_
    refine Ga (Gw HZ HZ HZ (fun c31 => ?_) (fun c31 => ?_))
    ·refine qs 10 ?_
     have hkf := hrt.few
     have hvl : v < l[q].kids.length := by omega
     have hb := hrt.kids _ (List.getElem_mem hvl)
     refine Ga (Gd HZ HZ HZ HZ (show fK l[q] _ _ _ ∈ _ from memA) hvl (fun _ _ => ?_))
     refine Ga (Gs HZ HZ ?_)
     intros
     refine qs 3 ?_
     refine GP (fun i => Nat.beq i 12) [(b10, _, _)] bxA HZ (fun hx hX => ?_)
     refine qt [0, 1, 2, 3, 4] ?_
     refine GR (i := 5) HZ (Y.loadB HZ (List.Mem.head _) (getA hAl)) Ja Ja HZ HZ HZ ?_
     refine qt [6, 7] ?_
     refine GD (i := 8) HZ (GE (k := l[q].kids[v].toNat) HZ HZ Jb Jb) Ja HZ HZ ?_
     refine GR (i := 9) HZ (Y.loadB HZ (List.Mem.head _) (getB 0 (asks_pos hql hb))) Ja Ja HZ HZ HZ ?_
     refine qt [10, 11] ?_
     refine Gm (i := 12) Ja HZ HZ (fun _ => ?_)
     rw [max_ask _ hvl]
     refine GM (v := .int .i64 (askK (asksL (l.take q)) (ask0 l[q]) (l[q].kids.take (v + 1)))) (cs := (asksL (l.take q) ++ askK (asksL (l.take q)) (ask0 l[q]) (l[q].kids.take v) :: List.replicate (l.length - (q + 1)) 0).map (Value.int .i64)) HZ HZ HZ ?_ (ho := blt_of (by simp; omega))
     rw [setA hAl]
     refine GC HZ ?_
     refine Gq Ja ?_
     refine qs 6 ?_
     refine Gk (v + 1) Jb Jb srA subF
    refine qs 14 ?_
    refine Gk (q + 1) Jb Jb srA (Sub.drop.trans ?_)
    have hkt : l[q].kids.take v = l[q].kids := List.take_of_length_le Jb
    rw [hkt, ask_next2 hql]
    exact subF
   refine qs 9 ?_
   refine Ga (Gt HZ HZ (fun hl29 => ?_) (enc := eI) (lst := l[q].kids) (hm := memA))
   refine qs 4 ?_
   rw [show (0 : Int) :: List.replicate (l.length - (q + 1)) 0 = ask0 l[q] :: List.replicate (l.length - (q + 1)) 0 by rw [show ask0 l[q] = 0 from if_neg c20]]
   refine GB (fun (v : Nat) => v ≤ l[q].kids.length) (fun v => [(3, .slice (some ⟨b10, 0, none⟩) l.length l.length), (11, .slice a k c), (12, .int .i64 l.length), (13, .int .i64 (q : Int)), (4, .int .i64 (q : Int)), (5, .pointer (some ⟨b5, 0, none⟩)), (28, .slice d22 e22 f22), (29, .int .i64 l[q].kids.length), (30, .int .i64 (v : Int))]) (fun v => _ :: Res.cells b10 ((asksL (l.take q) ++ askK (asksL (l.take q)) (ask0 l[q]) (l[q].kids.take v) :: List.replicate (l.length - (q + 1)) 0).map (Value.int .i64)).toArray 3 :: L) (fun _ => _) (fun v => l[q].kids.length - v) 0 (Nat.zero_le _) srA (Gf _ _) ?_
   rintro v hv
   refine qs 2 ?_
   refine Ga (Gw HZ HZ HZ (fun c31 => ?_) (fun c31 => ?_))
   ·refine qs 10 ?_
    have hkf := hrt.few
    have hvl : v < l[q].kids.length := by omega
    have hb := hrt.kids _ (List.getElem_mem hvl)
    refine Ga (Gd HZ HZ HZ HZ (show fK l[q] _ _ _ ∈ _ from memA) hvl (fun _ _ => ?_))
    refine Ga (Gs HZ HZ ?_)
    intros
    refine qs 3 ?_
    refine GP (fun i => Nat.beq i 12) [(b10, _, _)] bxA HZ (fun hx hX => ?_)
    refine qt [0, 1, 2, 3, 4] ?_
    refine GR (i := 5) HZ (Y.loadB HZ (List.Mem.head _) (getA hAl)) Ja Ja HZ HZ HZ ?_
    refine qt [6, 7] ?_
    refine GD (i := 8) HZ (GE (k := l[q].kids[v].toNat) HZ HZ Jb Jb) Ja HZ HZ ?_
    refine GR (i := 9) HZ (Y.loadB HZ (List.Mem.head _) (getB 0 (asks_pos hql hb))) Ja Ja HZ HZ HZ ?_
    refine qt [10, 11] ?_
    refine Gm (i := 12) Ja HZ HZ (fun _ => ?_)
    rw [max_ask _ hvl]
    refine GM (v := .int .i64 (askK (asksL (l.take q)) (ask0 l[q]) (l[q].kids.take (v + 1)))) (cs := (asksL (l.take q) ++ askK (asksL (l.take q)) (ask0 l[q]) (l[q].kids.take v) :: List.replicate (l.length - (q + 1)) 0).map (Value.int .i64)) HZ HZ HZ ?_ (ho := blt_of (by simp; omega))
    rw [setA hAl]
    refine GC HZ ?_
    refine Gq Ja ?_
    refine qs 6 ?_
    refine Gk (v + 1) Jb Jb srA subF
   refine qs 14 ?_
   refine Gk (q + 1) Jb Jb srA (Sub.drop.trans ?_)
   have hkt : l[q].kids.take v = l[q].kids := List.take_of_length_le Jb
   rw [hkt, ask_next2 hql]
   exact subF
  refine qs 11 ?_
  refine Ga (HV HZ HZ ?_)
  have hq9 : q = l.length := by omega
  subst hq9
  rw [Nat.sub_self, List.replicate_zero, List.append_nil, List.take_length]
  refine GH ((Hg (i := 0) (enc := eI) (sz := 1) (k := l.length) (asksL l) HZ (cells_I _) (fun _ => rfl) (asks_full l) (by simp only [maxLen]; omega)).trans Gv) ?_
  refine qs 4 ?_
  exact Gb (L' := L) (F' := fI (asksL l) _ _ _ :: F) Tryz.results42 rfl (GX (fun x hx => by repeat (first | exact hx | refine List.mem_cons_of_mem _ ?_))) (h _ _ _)
theorem is_c (T : List Ty) (i x : Int) {a a2 : Option Addr} {k c k2 c2 : Nat} (mL : fL T a k c ∈ F) (hT : isK T i x → R (.bool true) L F) (hF : ¬ isK T i x → R (.bool false) L F) : ACalls Tryz.prog W0 104 #[.agg #[.slice a k c, .slice a2 k2 c2], .int .i64 i, .int .i64 x] L F R := by
  refine Gg Tryz.func104 HZ Tryz.ntmps104 HZ ?_
  refine qs 2 ?_
  refine Ga (GL HZ HZ (fun b3 => ?_))
  refine qs 6 ?_
  refine Ga (GY HZ HZ HZ (fun c8 => ?_) (fun c8 => ?_))
  ·refine qs 4 ?_
   refine Gc HZ HZ (Gt HZ HZ (fun hl13 => ?_) (enc := eTy) (lst := T) (hm := memA))
   refine Gc HZ HZ (Gw HZ HZ HZ (fun c14 => ?_) (fun c14 => ?_))
   ·refine qs 5 ?_
    have hlt : i.toNat < T.length := by omega
    have hkt : kindAt T i = T[i.toNat].kind := kind_get Jb hlt
    refine Gc HZ HZ (Gd (k := i.toNat) HZ HZ HZ Jb (enc := eTy) (lst := T) memA hlt (fun _ _ => ?_))
    refine Gc HZ HZ (Ha HZ HZ (fun _ => ?_))
    refine Gc HZ HZ (Gs HZ HZ ?_)
    intros
    refine qs 1 ?_
    refine Gc HZ HZ (Gr HZ HZ HZ (fun c24 => ?_) (fun c24 => ?_))
    ·refine qs 5 ?_
     exact Gb (L' := L) (F' := F) Tryz.results104 rfl subA (hT ⟨by omega, by omega, hkt.trans c24⟩)
    refine qs 5 ?_
    exact Gb (L' := L) (F' := F) Tryz.results104 rfl subA (hF (fun e => c24 (hkt.symm.trans e.2.2)))
   refine qs 15 ?_
   exact Gb (L' := L) (F' := F) Tryz.results104 rfl subA (hF (fun e => absurd e.2.1 Jb))
  refine qs 21 ?_
  exact Gb (L' := L) (F' := F) Tryz.results104 rfl subA (hF (fun e => absurd e.1 Jb))
theorem fewU_c (T : List Ty) (i most : Int) {a : Option Addr} {k c : Nat} (mL : fI (asksL T) a k c ∈ F) (hT : fewA T i most → R (.bool true) L F) (hF : ¬ fewA T i most → R (.bool false) L F) : ACalls Tryz.prog W0 105 #[.slice a k c, .int .i64 i, .int .i64 most] L F R := by
  have hfl := asks_full T
  refine Gg Tryz.func105 HZ Tryz.ntmps105 HZ ?_
  refine qs 8 ?_
  refine Ga (GY HZ HZ HZ (fun c8 => ?_) (fun c8 => ?_))
  ·refine qs 3 ?_
   refine Gc HZ HZ (Gt HZ HZ (fun hl12 => ?_) (enc := eI) (lst := asksL T) (hm := memA))
   refine Gc HZ HZ (Gw HZ HZ HZ (fun c13 => ?_) (fun c13 => ?_))
   ·refine qs 4 ?_
    have hlt : i.toNat < (asksL T).length := by omega
    have hg : askAt T i.toNat = (asksL T)[i.toNat] := GK 0 hlt
    refine Gc HZ HZ (Gd (k := i.toNat) HZ HZ HZ Jb (enc := eI) (lst := asksL T) memA hlt (fun _ _ => ?_))
    refine Gc HZ HZ (Gs HZ HZ ?_)
    intros
    refine qs 1 ?_
    refine Gc HZ HZ (HG HZ HZ HZ (fun c21 => ?_) (fun c21 => ?_))
    ·refine qs 5 ?_
     exact Gb (L' := L) (F' := F) Tryz.results105 rfl subA (hT ⟨by omega, by omega, by rw [hg]; omega⟩)
    refine qs 5 ?_
    exact Gb (L' := L) (F' := F) Tryz.results105 rfl subA (hF (fun e => absurd e.2.2 (by rw [hg]; omega)))
   refine qs 13 ?_
   exact Gb (L' := L) (F' := F) Tryz.results105 rfl subA (hF (fun e => absurd e.2.1 Jb))
  refine qs 18 ?_
  exact Gb (L' := L) (F' := F) Tryz.results105 rfl subA (hF (fun e => absurd e.1 Jb))
theorem bounds1_c (T : List Ty) (n : Nmd) (s : Int) {a a2 a3 a4 a5 : Option Addr} {k c k2 c2 k3 c3 k4 c4 k5 c5 b1 b2 b3 i1 i2 i3 : Nat} {e1 e2 e3 : TypeId} (mL : fL T a k c ∈ F) (mA : fI (asksL T) a3 k3 c3 ∈ F) (mB : fBd n a4 k4 c4 ∈ F) (h1 : L[i1]? = some (Res.cells b1 #[.slice a k c, .slice a2 k2 c2] e1)) (h2 : L[i2]? = some (Res.cells b2 #[.slice a3 k3 c3] e2)) (h3 : L[i3]? = some (Res.cells b3 #[S n.name, .slice a4 k4 c4, .int .i64 n.under, .slice a5 k5 c5] e3))
    (hT : ¬ (isK T s 7 ∧ fewA T s n.bounds.length) → R (.bool true) L F) (hF : ¬ ¬ (isK T s 7 ∧ fewA T s n.bounds.length) → R (.bool false) L F) : ACalls Tryz.prog W0 103 #[.int .i64 s, .pointer (some ⟨b1, 0, none⟩), .pointer (some ⟨b2, 0, none⟩), .pointer (some ⟨b3, 0, none⟩)] L F R := by
  refine Gg Tryz.func103 HZ Tryz.ntmps103 HZ ?_
  refine qs 7 ?_
  refine Ga (HD (cs := [.slice a k c, .slice a2 k2 c2]) HZ HZ ?_ (hi := h1))
  refine qs 1 ?_
  refine Ga (Ge HZ HZ (is_c T s 7 mL (fun c8 => ?_) (fun c8 => ?_)))
  ·refine qs 2 ?_
   refine Gc HZ HZ (Gy (cs := [.slice a3 k3 c3]) HZ HZ ?_ (hi := h2) (hv := HZ))
   refine qs 2 ?_
   refine Gc HZ HZ (Gy (cs := [S n.name, .slice a4 k4 c4, .int .i64 n.under, .slice a5 k5 c5]) HZ HZ ?_ (hi := h3) (hv := HZ))
   refine Gc HZ HZ (Gt HZ HZ (fun hl15 => ?_) (enc := eI) (lst := n.bounds) (hm := mB))
   refine Gc HZ HZ (Ge HZ HZ (fewU_c T s n.bounds.length mA (fun c16 => ?_) (fun c16 => ?_)))
   ·refine qs 6 ?_
    exact Gb (L' := L) (F' := F) Tryz.results103 rfl subF (hF (fun e => e ⟨c8, c16⟩))
   refine qs 6 ?_
   exact Gb (L' := L) (F' := F) Tryz.results103 rfl subF (hT (fun e => c16 e.2))
  refine qs 14 ?_
  exact Gb (L' := L) (F' := F) Tryz.results103 rfl subF (hT (fun e => c8 e.1))
theorem bounds_c (T : List Ty) (n : Nmd) {a a2 a3 a4 a5 : Option Addr} {k c k2 c2 k3 c3 k4 c4 k5 c5 : Nat} (mL : fL T a k c ∈ F) (mA : fI (asksL T) a3 k3 c3 ∈ F) (mB : fBd n a4 k4 c4 ∈ F)
    (hT : boundsP T n → R (.bool true) L F) (hF : ¬ boundsP T n → R (.bool false) L F) : ACalls Tryz.prog W0 44 #[.agg #[.slice a k c, .slice a2 k2 c2], .slice a3 k3 c3, vNm n a4 k4 c4 a5 k5 c5] L F R := by
  refine Gg Tryz.func44 HZ Tryz.ntmps44 HZ ?_
  refine qs 2 ?_
  refine Ga (GL HZ HZ (fun b3 => (Ga (GL HZ HZ (fun b4 => (Ga (GL HZ HZ (fun b5 => ?_))))))))
  refine qs 5 ?_
  refine Ga (HO HZ HZ ?_)
  refine qs 7 ?_
  refine Ga (Gt HZ HZ (fun hl11 => ?_) (enc := eI) (lst := n.bounds) (hm := mB))
  refine Ga (HG HZ HZ HZ (fun c12 => ?_) (fun c12 => ?_))
  ·refine qs 4 ?_
   refine Gc HZ HZ (Ge HZ HZ (containsFuncI_c n.bounds mB _ [.pointer (some ⟨b3, 0, none⟩), .pointer (some ⟨b4, 0, none⟩), .pointer (some ⟨b5, 0, none⟩)] (fun s => ¬ (isK T s 7 ∧ fewA T s n.bounds.length)) (fun s F' hF' R hT hF => bounds1_c T n s (i1 := 2) (i2 := 1) (i3 := 0) (hF' _ mL) (hF' _ mA) (hF' _ mB) HZ HZ HZ hT hF) (fun c17 => ?_) (fun c17 => ?_)))
   ·refine qs 6 ?_
    exact Gb (L' := L) (F' := F) Tryz.results44 rfl subA (hF (fun e => c17 (fun j hj hn => hn (e.2 _ (List.getElem_mem hj)))))
   refine qs 6 ?_
   refine Gb (L' := L) (F' := F) Tryz.results44 HZ subA (hT ⟨by omega, fun b hb => ?_⟩)
   obtain ⟨j, hj, rfl⟩ := List.getElem_of_mem hb
   exact Classical.byContradiction (c17 j hj)
  refine qs 11 ?_
  exact Gb (L' := L) (F' := F) Tryz.results44 rfl subA (hF (fun e => absurd e.1 Jb))
theorem under_c (T : List Ty) (n : Nmd) {a a2 a3 a4 a5 : Option Addr} {k c k2 c2 k3 c3 k4 c4 k5 c5 : Nat} (mL : fL T a k c ∈ F) (mA : fI (asksL T) a3 k3 c3 ∈ F) (mB : fBd n a4 k4 c4 ∈ F)
    (hT : underP T n → R (.bool true) L F) (hF : ¬ underP T n → R (.bool false) L F) : ACalls Tryz.prog W0 45 #[.agg #[.slice a k c, .slice a2 k2 c2], .slice a3 k3 c3, vNm n a4 k4 c4 a5 k5 c5] L F R := by
  refine Gg Tryz.func45 HZ Tryz.ntmps45 HZ ?_
  refine qs 2 ?_
  refine Ga (GL HZ HZ (fun b3 => (Ga (GL HZ HZ (fun b5 => ?_)))))
  refine qs 7 ?_
  refine Ga (GY HZ HZ HZ (fun c10 => ?_) (fun c10 => ?_))
  ·refine qs 3 ?_
   refine Gc HZ HZ (HG HZ HZ HZ (fun c14 => ?_) (fun c14 => ?_))
   ·refine qs 11 ?_
    refine Ga (Gt HZ HZ (fun hl21 => ?_) (enc := eI) (lst := n.bounds) (hm := mB))
    refine Ga (Ge HZ HZ (fewU_c T n.under n.bounds.length mA (fun c22 => ?_) (fun c22 => ?_)))
    ·refine qs 4 ?_
     refine Gc HZ HZ (Ge HZ HZ (is_c T n.under 8 mL (fun c27 => ?_) (fun c27 => ?_)))
     ·refine qs 17 ?_
      exact Gb (L' := L) (F' := F) Tryz.results45 rfl subA (hF (fun e => e.2.1 c27))
     refine qs 6 ?_
     refine Gc HZ HZ (Ge HZ HZ (is_c T n.under 9 mL (fun c34 => ?_) (fun c34 => ?_)))
     ·refine qs 10 ?_
      exact Gb (L' := L) (F' := F) Tryz.results45 rfl subA (hF (fun e => e.2.2.1 c34))
     refine qs 10 ?_
     exact Gb (L' := L) (F' := F) Tryz.results45 rfl subA (hF (fun e => e.2.2.2 ⟨by omega, by omega⟩))
    refine qs 22 ?_
    exact Gb (L' := L) (F' := F) Tryz.results45 rfl subA (hF (fun e => c22 e.1))
   refine qs 11 ?_
   refine Ga (Gt HZ HZ (fun hl21 => ?_) (enc := eI) (lst := n.bounds) (hm := mB))
   refine Ga (Ge HZ HZ (fewU_c T n.under n.bounds.length mA (fun c22 => ?_) (fun c22 => ?_)))
   ·refine qs 4 ?_
    refine Gc HZ HZ (Ge HZ HZ (is_c T n.under 8 mL (fun c27 => ?_) (fun c27 => ?_)))
    ·refine qs 17 ?_
     exact Gb (L' := L) (F' := F) Tryz.results45 rfl subA (hF (fun e => e.2.1 c27))
    refine qs 6 ?_
    refine Gc HZ HZ (Ge HZ HZ (is_c T n.under 9 mL (fun c34 => ?_) (fun c34 => ?_)))
    ·refine qs 10 ?_
     exact Gb (L' := L) (F' := F) Tryz.results45 rfl subA (hF (fun e => e.2.2.1 c34))
    refine qs 10 ?_
    exact Gb (L' := L) (F' := F) Tryz.results45 rfl subA (hT ⟨c22, c27, c34, by omega⟩)
   refine qs 22 ?_
   exact Gb (L' := L) (F' := F) Tryz.results45 rfl subA (hF (fun e => c22 e.1))
  refine qs 15 ?_
  refine Ga (Gt HZ HZ (fun hl21 => ?_) (enc := eI) (lst := n.bounds) (hm := mB))
  refine Ga (Ge HZ HZ (fewU_c T n.under n.bounds.length mA (fun c22 => ?_) (fun c22 => ?_)))
  ·refine qs 4 ?_
   refine Gc HZ HZ (Ge HZ HZ (is_c T n.under 8 mL (fun c27 => ?_) (fun c27 => ?_)))
   ·refine qs 17 ?_
    exact Gb (L' := L) (F' := F) Tryz.results45 rfl subA (hF (fun e => e.2.1 c27))
   refine qs 6 ?_
   refine Gc HZ HZ (Ge HZ HZ (is_c T n.under 9 mL (fun c34 => ?_) (fun c34 => ?_)))
   ·refine qs 10 ?_
    exact Gb (L' := L) (F' := F) Tryz.results45 rfl subA (hF (fun e => e.2.2.1 c34))
   refine qs 10 ?_
   exact Gb (L' := L) (F' := F) Tryz.results45 rfl subA (hT ⟨c22, c27, c34, by omega⟩)
  refine qs 22 ?_
  exact Gb (L' := L) (F' := F) Tryz.results45 rfl subA (hF (fun e => c22 e.1))
end
end Go.Sy
namespace Go.Sy
open Go Go.Proofs Go.RowKit
theorem mt_cells {hx : H} {b o : Nat} {m : Mth} (hat : AtR hx b o (eMt m)) : ∀ (j : Nat) (v : Value), [S m.name, .bool m.ptr, .int .i64 m.sig][j]? = some v → hx b (o + j) = some v := by
  obtain ⟨vs, fs, _, h1, h2, rfl, rfl⟩ := absorb_of (eMt m) o hat (fun vs fs => vs = [S m.name, .bool m.ptr, .int .i64 m.sig] ∧ fs = []) ⟨rfl, rfl⟩
  exact h1
theorem nm_cells {hx : H} {b o : Nat} {n : Nmd} (hat : AtR hx b o (eNm n)) : ∃ a1 k1 c1 a2 k2 c2, (∀ (j : Nat) (v : Value), [S n.name, .slice a1 k1 c1, .int .i64 n.under, .slice a2 k2 c2][j]? = some v → hx b (o + j) = some v) ∧ (fBd n a1 k1 c1).holds hx ∧ (fMs n.methods a2 k2 c2).holds hx := by
  obtain ⟨vs, fs, _, h1, h2, a1, k1, c1, a2, k2, c2, rfl, rfl⟩ := absorb_of (eNm n) o hat (fun vs fs => ∃ a1 k1 c1 a2 k2 c2, vs = [S n.name, .slice a1 k1 c1, .int .i64 n.under, .slice a2 k2 c2] ∧ fs = [fBd n a1 k1 c1, fMs n.methods a2 k2 c2]) (by
    intro a1 k1 c1 a2 k2 c2
    exact ⟨a1, k1, c1, a2, k2, c2, rfl, rfl⟩)
  exact ⟨a1, k1, c1, a2, k2, c2, h1, h2 _ (by simp), h2 _ (by simp)⟩
attribute [local irreducible] AC AT AO AK AH ACalls Sub Res.cells Res.obj Res.nix Res.own Res.map Exit.then Exit.inBlock bodyPost Code.wp Code.wpIn WL Next Post Kont
section
variable {W0 : World} {L : List Res} {F : List Fact} {R : Value → List Res → List Fact → Prop}
set_option maxRecDepth 100000
set_option maxHeartbeats 8000000
theorem twofold_c (g : Glob W0) (s : List UInt8) (hs : s.length < 4294967281) (hT : namedP s → R (.bool true) L F) (hF : ¬ namedP s → R (.bool false) L F) : ACalls Tryz.prog W0 43 #[S s] L F R := by
  refine Gg Tryz.func43 HZ Tryz.ntmps43 HZ ?_
  refine qs 8 ?_
  refine Ga (Ge HZ HZ (cut_c g s 46 hs ?_))
  cases c8 : (cutD 46 s).2.2
  rotate_left
  ·refine qs 14 ?_
   refine Gc HZ HZ (Ge HZ HZ (HP _ (fun c15 => ?_) (fun c15 => ?_)))
   ·refine qs 3 ?_
    refine Gc HZ HZ (Ge HZ HZ (HP _ (fun c19 => ?_) (fun c19 => ?_)))
    ·refine qs 5 ?_
     first | refine Gb Tryz.results43 HZ (Gf _ _) (hT ?_) | refine Gb Tryz.results43 HZ (Gf _ _) (hF ?_)
     first
     | exact ⟨c8, c15, c19⟩
     | exact fun e => absurd e.2.2 (by rw [c19]; decide)
     | exact fun e => absurd e.2.1 (by rw [c15]; decide)
     | exact fun e => absurd e.1 (by rw [c8]; decide)
    refine qs 5 ?_
    first | refine Gb Tryz.results43 HZ (Gf _ _) (hT ?_) | refine Gb Tryz.results43 HZ (Gf _ _) (hF ?_)
    first
    | exact ⟨c8, c15, c19⟩
    | exact fun e => absurd e.2.2 (by rw [c19]; decide)
    | exact fun e => absurd e.2.1 (by rw [c15]; decide)
    | exact fun e => absurd e.1 (by rw [c8]; decide)
   refine qs 9 ?_
   first | refine Gb Tryz.results43 HZ (Gf _ _) (hT ?_) | refine Gb Tryz.results43 HZ (Gf _ _) (hF ?_)
   first
   | exact ⟨c8, c15, c19⟩
   | exact fun e => absurd e.2.2 (by rw [c19]; decide)
   | exact fun e => absurd e.2.1 (by rw [c15]; decide)
   | exact fun e => absurd e.1 (by rw [c8]; decide)
  refine qs 24 ?_
  first | refine Gb Tryz.results43 HZ (Gf _ _) (hT ?_) | refine Gb Tryz.results43 HZ (Gf _ _) (hF ?_)
  first
  | exact ⟨c8, c15, c19⟩
  | exact fun e => absurd e.2.2 (by rw [c19]; decide)
  | exact fun e => absurd e.2.1 (by rw [c15]; decide)
  | exact fun e => absurd e.1 (by rw [c8]; decide)
theorem methods_c (T : List Ty) (n : Nmd) {a a2 a3 a4 a5 : Option Addr} {k c k2 c2 k3 c3 k4 c4 k5 c5 : Nat} (mL : fL T a k c ∈ F) (mA : fI (asksL T) a3 k3 c3 ∈ F) (mB : fBd n a4 k4 c4 ∈ F) (mS : fMs n.methods a5 k5 c5 ∈ F)
    (hT : methodsP T n → R (.bool true) L F) (hF : ¬ methodsP T n → R (.bool false) L F) : ACalls Tryz.prog W0 46 #[.agg #[.slice a k c, .slice a2 k2 c2], .slice a3 k3 c3, vNm n a4 k4 c4 a5 k5 c5] L F R := by
  refine Gg Tryz.func46 HZ Tryz.ntmps46 HZ ?_
  refine qs 2 ?_
  refine Ga (GL HZ HZ (fun b3 => (Ga (GL HZ HZ (fun b5 => ?_)))))
  refine qs 8 ?_
  refine Ga (Gt HZ HZ (fun hl12 => ?_) (enc := eMt) (lst := n.methods) (hm := mS))
  refine qs 4 ?_
  refine GB (fun (q : Nat) => q ≤ n.methods.length ∧ ∀ j (hj : j < n.methods.length), j < q → methodP T n j hj) (fun q => [(1, .slice a3 k3 c3), (3, .pointer (some ⟨b3, 0, none⟩)), (5, .pointer (some ⟨b5, 0, none⟩)), (11, .slice a5 k5 c5), (12, .int .i64 n.methods.length), (13, .int .i64 (q : Int))]) (fun _ => _) (fun _ => _) (fun q => n.methods.length - q) 0 ⟨Nat.zero_le _, by omega⟩ srA (Gf _ _) ?_
  rintro q ⟨hq, hok⟩
  refine qs 2 ?_
  refine Ga (Gw HZ HZ HZ (fun c14 => ?_) (fun c14 => ?_))
  ·refine qs 11 ?_
   have hql : q < n.methods.length := by omega
   refine Ga (Gd HZ HZ HZ HZ (enc := eMt) (lst := n.methods) memA hql (fun _ _ => ?_))
   refine Ga (GN HZ HZ ?_)
   refine Ga (Gj HZ (fun b8 => ?_))
   refine qs 5 ?_
   refine GP (fun _ => false) [(b8, _, _), (b3, _, _), (b5, _, _)] bxA HZ (fun hx hX => ?_)
   have hk4 := (Gu (hX (fBd n a4 k4 c4) memA)).1
   have hk5 := (Gu (hX (fMs n.methods a5 k5 c5) memA)).1
   obtain ⟨p1, o1, e1, at1⟩ := GA (hX (fMs n.methods a5 k5 c5) memA) hql
   cases e1
   cases hk4
   cases hk5
   refine qt [0, 1] ?_
   refine Gm (i := 2) Ja HZ HZ (fun _ => ?_)
   refine Ge HZ HZ (HP _ (fun c20 => ?_) (fun c20 => ?_))
   ·refine Gi bxA memB ?_
    refine qt [3, 4, 5, 6, 7] ?_
    refine Gm (i := 8) Ja HZ HZ (fun _ => ?_)
    refine Ge HZ HZ (is_c T n.methods[q].sig 5 memA (fun c26 => ?_) (fun c26 => ?_))
    all_goals refine Gi bxA memB ?_
    ·refine qt [9, 10, 11, 12, 13, 14, 15, 16, 17] ?_
     refine Gm (i := 18) Ja HZ HZ (fun _ => ?_)
     refine Ge HZ HZ (fewU_c T n.methods[q].sig n.bounds.length memA (fun c36 => ?_) (fun c36 => ?_))
     all_goals refine Gi bxA memB ?_
     ·refine qt [19, 20, 21, 22] ?_
      refine Hf (i := 23) HZ (Y.gtr HZ HZ) Ja HZ HZ (fun c41 => ?_) (fun c41 => ?_)
      ·replace c41 := of_decide_eq_true c41
       refine qt [24, 25, 26, 27, 28] ?_
       obtain ⟨p2, o2, e2, at2⟩ := GA (i := q - 1) (hX (fMs n.methods (some ⟨p1, o1, none⟩) _ c5) memA) Jb
       cases e2
       have hv2 := mt_cells at2 0 _ rfl
       refine GD (i := 29) HZ (GE (k := q - 1) HZ HZ Jb Jb) Ja HZ HZ ?_
       refine qt [30] ?_
       refine GR (i := 31) HZ (Ho HZ hv2) Ja Ja HZ HZ HZ ?_
       refine qt [32, 33] ?_
       refine Hf (i := 34) HZ (Y.geqS HZ HZ) Ja HZ HZ (fun c52 => ?_) (fun c52 => ?_)
       ·refine qt [35, 36] ?_
        refine Gq Ja ?_
        refine qs 13 ?_
        exact Gb (L' := L) (F' := F) Tryz.results46 rfl subA (hF (fun e => by have h9 := (e.2.1 q hql).2.2.2 Jb; rw [GK default Jb] at h9; simp [h9] at c52))
       refine qt [35, 36] ?_
       refine Gq Ja ?_
       refine qs 9 ?_
       refine Gk (q + 1) ⟨by omega, fun j hj hjq => ?_⟩ Jb srA (Sub.drop.trans subF)
       rcases Nat.lt_succ_iff_lt_or_eq.1 hjq with k9 | rfl
       · exact hok j hj k9
       exact ⟨c20, c26, c36, fun _ => by rw [GK default Jb]; simpa using c52⟩
      replace c41 := of_decide_eq_false c41
      refine qt [24, 25, 26, 27, 28, 29, 30, 31, 32, 33, 34, 35, 36] ?_
      refine Gq Ja ?_
      refine qs 9 ?_
      refine Gk (q + 1) ⟨by omega, fun j hj hjq => ?_⟩ Jb srA (Sub.drop.trans subF)
      rcases Nat.lt_succ_iff_lt_or_eq.1 hjq with k9 | rfl
      · exact hok j hj k9
      exact ⟨c20, c26, c36, fun h0 => absurd h0 Jb⟩
     refine qt [19, 20, 21, 22, 23, 24, 25, 26, 27, 28, 29, 30, 31, 32, 33, 34, 35, 36] ?_
     refine Gq Ja ?_
     refine qs 13 ?_
     exact Gb (L' := L) (F' := F) Tryz.results46 rfl subA (hF (fun e => c36 (e.2.1 q hql).2.2.1))
    refine qt [9, 10, 11, 12, 13, 14, 15, 16, 17, 18, 19, 20, 21, 22, 23, 24, 25, 26, 27, 28, 29, 30, 31, 32, 33, 34, 35, 36] ?_
    refine Gq Ja ?_
    refine qs 13 ?_
    exact Gb (L' := L) (F' := F) Tryz.results46 rfl subA (hF (fun e => c26 (e.2.1 q hql).2.1))
   refine Gi bxA memB ?_
   refine qt [3, 4, 5, 6, 7, 8, 9, 10, 11, 12, 13, 14, 15, 16, 17, 18, 19, 20, 21, 22, 23, 24, 25, 26, 27, 28, 29, 30, 31, 32, 33, 34, 35, 36] ?_
   refine Gq Ja ?_
   refine qs 13 ?_
   exact Gb (L' := L) (F' := F) Tryz.results46 rfl subA (hF (fun e => absurd (e.2.1 q hql).1 (by rw [c20]; decide)))
  refine qs 14 ?_
  refine Ga (Ge HZ HZ (is_c T n.under 7 memA (fun c59 => ?_) (fun c59 => ?_)))
  ·refine qs 13 ?_
   refine Ga (Gt HZ HZ (fun hl68 => ?_) (enc := eMt) (lst := n.methods) (hm := memA))
   refine Ga (HG HZ HZ HZ (fun c69 => ?_) (fun c69 => ?_))
   ·refine qs 5 ?_
    refine Gc HZ HZ (Gt HZ HZ (fun hl75 => ?_) (enc := eMt) (lst := n.methods) (hm := memA))
    refine Gc HZ HZ (Hv HZ HZ HZ (fun c76 => ?_) (fun c76 => ?_))
    ·refine qs 7 ?_
     exact Gb (L' := L) (F' := F) Tryz.results46 rfl subA (hF (fun e => (e.2.2 (List.length_pos_iff.1 Jb)).1 c59))
    refine qs 7 ?_
    exact Gb (L' := L) (F' := F) Tryz.results46 rfl subA (hT ⟨by omega, fun i hi => hok i hi Jb, fun h0 => absurd (List.length_pos_iff.2 h0) Jb⟩)
   refine qs 14 ?_
   exact Gb (L' := L) (F' := F) Tryz.results46 rfl subA (hF (fun e => absurd e.1 Jb))
  refine qs 4 ?_
  refine Gc HZ HZ (Ge HZ HZ (is_c T n.under 1 memA (fun c64 => ?_) (fun c64 => ?_)))
  ·refine qs 8 ?_
   refine Ga (Gt HZ HZ (fun hl68 => ?_) (enc := eMt) (lst := n.methods) (hm := memA))
   refine Ga (HG HZ HZ HZ (fun c69 => ?_) (fun c69 => ?_))
   ·refine qs 5 ?_
    refine Gc HZ HZ (Gt HZ HZ (fun hl75 => ?_) (enc := eMt) (lst := n.methods) (hm := memA))
    refine Gc HZ HZ (Hv HZ HZ HZ (fun c76 => ?_) (fun c76 => ?_))
    ·refine qs 7 ?_
     exact Gb (L' := L) (F' := F) Tryz.results46 rfl subA (hF (fun e => (e.2.2 (List.length_pos_iff.1 Jb)).2 c64))
    refine qs 7 ?_
    exact Gb (L' := L) (F' := F) Tryz.results46 rfl subA (hT ⟨by omega, fun i hi => hok i hi Jb, fun h0 => absurd (List.length_pos_iff.2 h0) Jb⟩)
   refine qs 14 ?_
   exact Gb (L' := L) (F' := F) Tryz.results46 rfl subA (hF (fun e => absurd e.1 Jb))
  refine qs 8 ?_
  refine Ga (Gt HZ HZ (fun hl68 => ?_) (enc := eMt) (lst := n.methods) (hm := memA))
  refine Ga (HG HZ HZ HZ (fun c69 => ?_) (fun c69 => ?_))
  ·refine qs 14 ?_
   exact Gb (L' := L) (F' := F) Tryz.results46 rfl subA (hT ⟨by omega, fun i hi => hok i hi Jb, fun _ => ⟨c59, c64⟩⟩)
  refine qs 14 ?_
  exact Gb (L' := L) (F' := F) Tryz.results46 rfl subA (hF (fun e => absurd e.1 Jb))
theorem at1_c (n : Nmd) (s : List UInt8) {b j : Nat} {e : TypeId} {a1 a2 : Option Addr} {k1 c1 k2 c2 : Nat} (hj : L[j]? = some (Res.cells b #[S s] e)) (hT : n.name = s → R (.bool true) L F) (hF : n.name ≠ s → R (.bool false) L F) : ACalls Tryz.prog W0 113 #[vNm n a1 k1 c1 a2 k2 c2, .pointer (some ⟨b, 0, none⟩)] L F R := by
  refine Gg Tryz.func113 HZ Tryz.ntmps113 HZ ?_
  refine qs 2 ?_
  refine Ga (GL HZ HZ (fun b2 => ?_))
  refine qs 7 ?_
  refine Ga (Gy (cs := [S s]) HZ HZ ?_ (i := j + 1) (hi := hj) (hv := HZ))
  refine Ga (Hi HZ HZ HZ (fun c7 => ?_) (fun c7 => ?_))
  ·refine qs 4 ?_
   first | exact Gb (L' := L) (F' := F) Tryz.results113 rfl Gv (hT c7) | exact Gb (L' := L) (F' := F) Tryz.results113 rfl Gv (hF c7)
  refine qs 4 ?_
  first | exact Gb (L' := L) (F' := F) Tryz.results113 rfl Gv (hT c7) | exact Gb (L' := L) (F' := F) Tryz.results113 rfl Gv (hF c7)
theorem indexN_c (N : List Nmd) (s : List UInt8) {a : Option Addr} {k c : Nat} (m1 : fN N a k c ∈ F) {b j : Nat} {e : TypeId} (hj : L[j]? = some (Res.cells b #[S s] e))
    (hT : ∀ q : Nat, atN N s = some q → R (.int .i64 (q : Int)) L F) (hF : atN N s = none → R (.int .i64 (-1)) L F) : ACalls Tryz.prog W0 112 #[.slice a k c, .func (.func 113) #[] #[.pointer (some ⟨b, 0, none⟩)]] L F R := by
  refine Gg Tryz.func112 HZ Tryz.ntmps112 HZ ?_
  refine qs 9 ?_
  refine Ga (Gt HZ HZ (fun hl7 => ?_) (enc := eNm) (lst := N) (hm := m1))
  refine qs 4 ?_
  refine AC.loopC (fun (q : Nat) => q ≤ N.length ∧ ∀ j (hj : j < N.length), j < q → N[j].name ≠ s) (fun q => [(0, .slice a k c), (1, .func (.func 113) #[] #[.pointer (some ⟨b, 0, none⟩)]), (7, .int .i64 N.length), (8, .int .i64 (q : Int))]) (fun q => N.length - q) 0 ⟨by omega, by omega⟩ srA ?_
  rintro q ⟨hq, hok⟩
  refine qs 2 ?_
  refine Ga (Gw HZ HZ HZ (fun c9 => ?_) (fun c9 => ?_))
  ·refine qs 19 ?_
   have hql : q < N.length := by omega
   refine Ga (Gd HZ HZ HZ HZ (enc := eNm) (lst := N) memA hql (fun _ _ => ?_))
   refine Ga (GN HZ HZ ?_)
   intro a15 k15 z15 d15 e15 f15
   refine Ga (AO.callC (cs := [.pointer (some ⟨b, 0, none⟩)]) HZ HZ HZ (at1_c N[q] s hj (fun c16 => ?_) (fun c16 => ?_)))
   ·refine qs 15 ?_
    first | exact Gb (L' := L) (F' := F) Tryz.results112 rfl subF (hT q (atN_first hql c16 hok)) | exact Gb (L' := L) (F' := F) Tryz.results112 rfl subF (hF (atN_no (fun j hj => hok j hj Jb)))
   refine qs 10 ?_
   refine Gk (q + 1) ⟨by omega, fun j hj hjq => ?_⟩ Jb srA subF
   rcases Nat.lt_succ_iff_lt_or_eq.1 hjq with k9 | rfl
   · exact hok j hj k9
   exact c16
  refine qs 15 ?_
  first | exact Gb (L' := L) (F' := F) Tryz.results112 rfl subF (hT q (atN_first hql c16 hok)) | exact Gb (L' := L) (F' := F) Tryz.results112 rfl subF (hF (atN_no (fun j hj => hok j hj Jb)))
theorem at_c (N : List Nmd) (s : List UInt8) {a a2 : Option Addr} {k c k2 c2 : Nat} (m2 : fN N a2 k2 c2 ∈ F)
    (hT : ∀ q : Nat, atN N s = some q → R (.tuple #[.int .i64 (q : Int), .bool true]) L F) (hF : atN N s = none → R (.tuple #[.int .i64 (-1), .bool false]) L F) : ACalls Tryz.prog W0 54 #[.agg #[.slice a k c, .slice a2 k2 c2], S s] L F R := by
  refine Gg Tryz.func54 HZ Tryz.ntmps54 HZ ?_
  refine qs 2 ?_
  refine Ga (GL HZ HZ (fun b2 => (Ga (GL HZ HZ (fun b3 => ?_)))))
  refine qs 8 ?_
  refine Ga (HO HZ HZ ?_)
  refine Ga (Ge HZ HZ (indexN_c N s m2 (j := 0) HZ (fun q c10 => ?_) (fun c10 => ?_)))
  ·refine qs 7 ?_
   refine Ga (GY HZ HZ HZ (fun c13 => ?_) (fun c13 => absurd c13 Jb))
   refine qs 5 ?_
   first | exact Hp (L' := L) (F' := F) Tryz.results54 rfl rfl subA (hT q c10) | exact Hp (L' := L) (F' := F) Tryz.results54 rfl rfl subA (hF c10)
  refine qs 7 ?_
  refine Ga (GY HZ HZ HZ (fun c13 => absurd c13 Jb) (fun c13 => ?_))
  refine qs 5 ?_
  first | exact Hp (L' := L) (F' := F) Tryz.results54 rfl rfl subA (hT q c10) | exact Hp (L' := L) (F' := F) Tryz.results54 rfl rfl subA (hF c10)
theorem fits_c (N : List Nmd) (t : Ty) {a a2 a3 a4 : Option Addr} {k c k2 c2 k3 c3 k4 c4 : Nat} (m2 : fN N a2 k2 c2 ∈ F) (m4 : fK t a4 k4 c4 ∈ F)
    (hT : fitsU N t → R (.bool true) L F) (hF : ¬ fitsU N t → R (.bool false) L F) : ACalls Tryz.prog W0 49 #[.agg #[.slice a k c, .slice a2 k2 c2], vTy t a3 k3 c3 a4 k4 c4] L F R := by
  refine Gg Tryz.func49 HZ Tryz.ntmps49 HZ ?_
  refine qs 2 ?_
  refine Ga (GL HZ HZ (fun b2 => (Ga (GL HZ HZ (fun b3 => ?_)))))
  refine qs 8 ?_
  refine Ga (GG HZ HZ HZ (fun c9 => ?_) (fun c9 => ?_))
  ·refine qs 10 ?_
   exact Gb (L' := L) (F' := F) Tryz.results49 rfl subA (hT (fun e => absurd e c9))
  refine qs 10 ?_
  refine Ga (Ge HZ HZ (at_c N t.name m2 (fun q c14 => ?_) (fun c14 => ?_)))
  ·refine qs 8 ?_
   refine GP (fun _ => false) [(b2, _, _), (b3, _, _)] bxA HZ (fun hx hX => ?_)
   obtain ⟨hql, _⟩ := atN_some c14
   have hk2 := (Gu (hX (fN N a2 k2 c2) memA)).1
   have hk4 := (Gu (hX (fK t a4 k4 c4) memA)).1
   obtain ⟨p1, o1, e1, at1⟩ := GA (hX (fN N a2 k2 c2) memA) hql
   cases e1
   obtain ⟨w1, x1, y1, w2, x2, y2, hv, hw1, hw2⟩ := nm_cells at1
   have hk1 := (Gu hw1).1
   have hv1 := hv 1 _ rfl
   cases hk2
   cases hk4
   cases hk1
   refine qt [0, 1, 2, 3, 4] ?_
   refine GD (i := 5) HZ (GE (k := q) HZ HZ Jb Jb) Ja HZ HZ ?_
   refine qt [6] ?_
   refine GR (i := 7) HZ (Ho HZ hv1) Ja Ja HZ HZ HZ ?_
   refine qt [8, 9, 10, 11] ?_
   refine Hf (i := 12) HZ (Y.eql HZ HZ) Ja HZ HZ (fun c29 => ?_) (fun c29 => ?_)
   ·replace c29 := eq_of_beq c29
    refine qt [13, 14] ?_
    refine Gq Ja ?_
    refine qs 2 ?_
    exact Gb (L' := L) (F' := F) Tryz.results49 rfl subA (hT (fun _ => ⟨q, c14, by rw [GK default hql]; omega⟩))
   replace c29 := ne_of_beqF c29
   refine qt [13, 14] ?_
   refine Gq Ja ?_
   refine qs 2 ?_
   exact Gb (L' := L) (F' := F) Tryz.results49 rfl subA (hF (fun e => by obtain ⟨i, hi, h9⟩ := e ‹_›; rw [c14] at hi; injection hi with hi; subst hi; rw [GK default hql] at h9; exact c29 Jb))
  refine qs 8 ?_
  refine GP (fun _ => false) [(b2, _, _), (b3, _, _)] bxA HZ (fun hx hX => ?_)
  refine qt [0, 1, 2, 3, 4, 5, 6, 7, 8, 9, 10, 11, 12, 13, 14] ?_
  refine Gq Ja ?_
  refine qs 2 ?_
  exact Gb (L' := L) (F' := F) Tryz.results49 rfl subA (hF (fun e => by obtain ⟨i, hi, _⟩ := e c9; rw [c14] at hi; exact absurd hi (by simp)))
end
end Go.Sy
namespace Go.Sy
open Go Go.Proofs Go.RowKit
structure NmOk (n : Nmd) : Prop where
  name : n.name.length ≤ 1048576
  meth : ∀ m ∈ n.methods, m.name.length ≤ 1048576
attribute [local irreducible] AC AT AO AK AH ACalls Sub Res.cells Res.obj Res.nix Res.own Res.map Exit.then Exit.inBlock bodyPost Code.wp Code.wpIn WL Next Post Kont
section
variable {W0 : World} {L : List Res} {F : List Fact} {R : Value → List Res → List Fact → Prop}
set_option maxRecDepth 100000
set_option maxHeartbeats 16000000
theorem containsFuncT_c (l : List Ty) (hok0 : ∀ t ∈ l, TyOk t) {a : Option Addr} {k c : Nat} (m1 : fL l a k c ∈ F) (g : FuncId) [FnT Tryz.prog g] (cs : List Value) (p : Ty → Prop) (hg : TellsT W0 L F g cs p)
    (hT : (¬ ∀ j (hj : j < l.length), ¬ p l[j]) → R (.bool true) L F) (hF : (∀ j (hj : j < l.length), ¬ p l[j]) → R (.bool false) L F) : ACalls Tryz.prog W0 47 #[.slice a k c, .func (.func g) #[] cs.toArray] L F R := by
  refine Gg Tryz.func47 HZ Tryz.ntmps47 HZ ?_
  refine qs 9 ?_
  refine Ga (Ge HZ HZ (indexFuncT_c l hok0 m1 g cs p hg (fun j7 hj7 c7 => ?_) (fun c7 => ?_)))
  ·refine Ga (GY HZ HZ HZ (fun c8 => ?_) (fun c8 => absurd c8 Jb))
   refine qs 4 ?_
   first | exact Gb (L' := L) (F' := F) Tryz.results47 rfl subF (hT (fun e => e j7 hj7 c7)) | exact Gb (L' := L) (F' := F) Tryz.results47 rfl subF (hF c7)
  refine Ga (GY HZ HZ HZ (fun c8 => absurd c8 Jb) (fun c8 => ?_))
  refine qs 4 ?_
  first | exact Gb (L' := L) (F' := F) Tryz.results47 rfl subF (hT (fun e => e j7 hj7 c7)) | exact Gb (L' := L) (F' := F) Tryz.results47 rfl subF (hF c7)
theorem uright1_c (N : List Nmd) (t : Ty) {b j : Nat} {e : TypeId} {a a2 a3 a4 : Option Addr} {k c k2 c2 k3 c3 k4 c4 : Nat} (m2 : fN N a2 k2 c2 ∈ F) (m4 : fK t a4 k4 c4 ∈ F) (hj : L[j]? = some (Res.cells b #[.slice a k c, .slice a2 k2 c2] e))
    (hT : ¬ fitsU N t → R (.bool true) L F) (hF : ¬ ¬ fitsU N t → R (.bool false) L F) : ACalls Tryz.prog W0 48 #[vTy t a3 k3 c3 a4 k4 c4, .pointer (some ⟨b, 0, none⟩)] L F R := by
  refine Gg Tryz.func48 HZ Tryz.ntmps48 HZ ?_
  refine qs 2 ?_
  refine Ga (GL HZ HZ (fun b2 => ?_))
  refine qs 5 ?_
  refine Ga (HD (cs := [.slice a k c, .slice a2 k2 c2]) HZ HZ ?_ (i := j + 1) (hi := hj))
  refine qs 1 ?_
  refine Ga (Ge HZ HZ (fits_c N t memA memA (fun c6 => ?_) (fun c6 => ?_)))
  ·refine qs 5 ?_
   first | exact Gb (L' := L) (F' := F) Tryz.results48 rfl subA (hF (fun e => e c6)) | exact Gb (L' := L) (F' := F) Tryz.results48 rfl subA (hT c6)
  refine qs 5 ?_
  first | exact Gb (L' := L) (F' := F) Tryz.results48 rfl subA (hF (fun e => e c6)) | exact Gb (L' := L) (F' := F) Tryz.results48 rfl subA (hT c6)
theorem uright_c (g : Glob W0) (T : List Ty) (N : List Nmd) (hok : ∀ t ∈ T, TyOk t) (hno : ∀ n ∈ N, NmOk n) {a a2 : Option Addr} {k c k2 c2 : Nat} (mL : fL T a k c ∈ F) (mN : fN N a2 k2 c2 ∈ F)
    (hT : rightU T N → R (.bool true) L F) (hF : ¬ rightU T N → R (.bool false) L F) : ACalls Tryz.prog W0 10 #[.agg #[.slice a k c, .slice a2 k2 c2]] L F R := by
  refine Gg Tryz.func10 HZ Tryz.ntmps10 HZ ?_
  refine qs 2 ?_
  refine Ga (GL HZ HZ (fun b1 => ?_))
  refine qs 8 ?_
  refine Ga (Ge HZ HZ (right_c g T hok mL (fun c8 => ?_) (fun c8 => ?_)))
  ·refine qs 4 ?_
   refine Gc HZ HZ (Gt HZ HZ (fun hl13 => ?_) (enc := eNm) (lst := N) (hm := mN))
   refine Gc HZ HZ (Hv HZ HZ HZ (fun c14 => ?_) (fun c14 => ?_))
   ·refine qs 11 ?_
    exact Gb (L' := L) (F' := F) Tryz.results10 rfl subA (hF (fun e => absurd e.2.1 Jb))
   refine qs 10 ?_
   refine Ga (Ge HZ HZ (uasks_c T c8 mL (fun a18 k18 z18 => ?_)))
   refine qs 8 ?_
   refine Ga (Gt HZ HZ (fun hl21 => ?_) (enc := eNm) (lst := N) (hm := memA))
   refine qs 4 ?_
   refine GB (fun (q : Nat) => q ≤ N.length ∧ ∀ j (hj : j < N.length), j < q → nameAt T N j hj) (fun q => [(1, .pointer (some ⟨b1, 0, none⟩)), (3, .slice a18 k18 z18), (20, .slice a2 k2 c2), (21, .int .i64 N.length), (22, .int .i64 (q : Int))]) (fun _ => _) (fun _ => _) (fun q => N.length - q) 0 ⟨Nat.zero_le _, by omega⟩ srA (Gf _ _) ?_
   rintro q ⟨hq, hin⟩
   refine qs 2 ?_
   refine Ga (Gw HZ HZ HZ (fun c23 => ?_) (fun c23 => ?_))
   ·refine qs 11 ?_
    have hql : q < N.length := by omega
    refine Ga (Gd HZ HZ HZ HZ (enc := eNm) (lst := N) memA hql (fun _ _ => ?_))
    refine Ga (GN HZ HZ ?_)
    intro a26 k26 z26 d26 e26 f26
    refine Ga (Gj HZ (fun b5 => ?_))
    refine qs 5 ?_
    refine GP (fun _ => false) [(b5, _, _), (b1, _, _)] bxA HZ (fun hx hX => ?_)
    have hk2 := (Gu (hX (fN N a2 k2 c2) memA)).1
    obtain ⟨p1, o1, e1, at1⟩ := GA (hX (fN N a2 k2 c2) memA) hql
    cases e1
    cases hk2
    refine qt [0, 1] ?_
    refine Gm (i := 2) Ja HZ HZ (fun _ => ?_)
    refine Ge HZ HZ (twofold_c g N[q].name (by have := (hno _ (List.getElem_mem hql)).name; omega) (fun c29 => ?_) (fun c29 => ?_))
    all_goals refine Gi bxA memB ?_
    ·refine qt [3, 4, 5] ?_
     refine Hf (i := 6) HZ (Y.gtr HZ HZ) Ja HZ HZ (fun c33 => ?_) (fun c33 => ?_)
     ·replace c33 := of_decide_eq_true c33
      refine qt [7, 8, 9, 10, 11] ?_
      obtain ⟨p2, o2, e2, at2⟩ := GA (i := q - 1) (hX (fN N (some ⟨p1, o1, none⟩) _ c2) memA) Jb
      cases e2
      obtain ⟨w1, x1, y1, w2, x2, y2, hv, hw1, hw2⟩ := nm_cells at2
      have hv2 := hv 0 _ rfl
      refine GD (i := 12) HZ (GE (k := q - 1) HZ HZ Jb Jb) Ja HZ HZ ?_
      refine qt [13] ?_
      refine GR (i := 14) HZ (Ho HZ hv2) Ja Ja HZ HZ HZ ?_
      refine qt [15, 16] ?_
      refine Hf (i := 17) HZ (Y.geqS HZ HZ) Ja HZ HZ (fun c44 => ?_) (fun c44 => ?_)
      ·refine qt [18, 19, 20, 21, 22, 23, 24, 25, 26, 27, 28, 29, 30, 31, 32, 33, 34, 35, 36, 37, 38, 39, 40] ?_
       refine Gq Ja ?_
       refine qs 13 ?_
       exact Gb (L' := L) (F' := F) Tryz.results10 rfl subA (hF (fun e => by have h9 := (e.2.2.1 q hql).2 Jb; rw [GK default Jb] at h9; simp [h9] at c44))
      refine qt [18, 19, 20, 21, 22, 23] ?_
      refine Gm (i := 24) Ja HZ HZ (fun _ => ?_)
      refine Ge HZ HZ (bounds_c T N[q] (show fL T a k c ∈ _ from memA) (show fI (asksL T) _ _ _ ∈ _ from memA) (show fBd N[q] _ _ _ ∈ _ from memA) (fun c51 => ?_) (fun c51 => ?_))
      all_goals refine Gi bxA memB ?_
      ·refine qt [25, 26, 27, 28, 29, 30] ?_
       refine Gm (i := 31) Ja HZ HZ (fun _ => ?_)
       refine Ge HZ HZ (under_c T N[q] (show fL T a k c ∈ _ from memA) (show fI (asksL T) _ _ _ ∈ _ from memA) (show fBd N[q] _ _ _ ∈ _ from memA) (fun c58 => ?_) (fun c58 => ?_))
       all_goals refine Gi bxA memB ?_
       ·refine qt [32, 33, 34, 35, 36, 37] ?_
        refine Gm (i := 38) Ja HZ HZ (fun _ => ?_)
        refine Ge HZ HZ (methods_c T N[q] (show fL T a k c ∈ _ from memA) (show fI (asksL T) _ _ _ ∈ _ from memA) (show fBd N[q] _ _ _ ∈ _ from memA) (show fMs N[q].methods _ _ _ ∈ _ from memA) (fun c65 => ?_) (fun c65 => ?_))
        all_goals refine Gi bxA memB ?_
        ·refine qt [39, 40] ?_
         refine Gq Ja ?_
         refine qs 9 ?_
         refine Gk (q + 1) ⟨by omega, fun j hj hjq => ?_⟩ Jb srA (Sub.drop.trans subF)
         rcases Nat.lt_succ_iff_lt_or_eq.1 hjq with k9 | rfl
         · exact hin j hj k9
         exact ⟨⟨c29, c51, c58, c65⟩, fun _ => by rw [GK default Jb]; simpa using c44⟩
        refine qt [39, 40] ?_
        refine Gq Ja ?_
        refine qs 13 ?_
        exact Gb (L' := L) (F' := F) Tryz.results10 rfl subA (hF (fun e => c65 (e.2.2.1 q hql).1.2.2.2))
       refine qt [32, 33, 34, 35, 36, 37, 38, 39, 40] ?_
       refine Gq Ja ?_
       refine qs 13 ?_
       exact Gb (L' := L) (F' := F) Tryz.results10 rfl subA (hF (fun e => c58 (e.2.2.1 q hql).1.2.2.1))
      refine qt [25, 26, 27, 28, 29, 30, 31, 32, 33, 34, 35, 36, 37, 38, 39, 40] ?_
      refine Gq Ja ?_
      refine qs 13 ?_
      exact Gb (L' := L) (F' := F) Tryz.results10 rfl subA (hF (fun e => c51 (e.2.2.1 q hql).1.2.1))
     replace c33 := of_decide_eq_false c33
     refine qt [7, 8, 9, 10, 11, 12, 13, 14, 15, 16, 17, 18, 19, 20, 21, 22, 23] ?_
     refine Gm (i := 24) Ja HZ HZ (fun _ => ?_)
     refine Ge HZ HZ (bounds_c T N[q] (show fL T a k c ∈ _ from memA) (show fI (asksL T) _ _ _ ∈ _ from memA) (show fBd N[q] _ _ _ ∈ _ from memA) (fun c51 => ?_) (fun c51 => ?_))
     all_goals refine Gi bxA memB ?_
     ·refine qt [25, 26, 27, 28, 29, 30] ?_
      refine Gm (i := 31) Ja HZ HZ (fun _ => ?_)
      refine Ge HZ HZ (under_c T N[q] (show fL T a k c ∈ _ from memA) (show fI (asksL T) _ _ _ ∈ _ from memA) (show fBd N[q] _ _ _ ∈ _ from memA) (fun c58 => ?_) (fun c58 => ?_))
      all_goals refine Gi bxA memB ?_
      ·refine qt [32, 33, 34, 35, 36, 37] ?_
       refine Gm (i := 38) Ja HZ HZ (fun _ => ?_)
       refine Ge HZ HZ (methods_c T N[q] (show fL T a k c ∈ _ from memA) (show fI (asksL T) _ _ _ ∈ _ from memA) (show fBd N[q] _ _ _ ∈ _ from memA) (show fMs N[q].methods _ _ _ ∈ _ from memA) (fun c65 => ?_) (fun c65 => ?_))
       all_goals refine Gi bxA memB ?_
       ·refine qt [39, 40] ?_
        refine Gq Ja ?_
        refine qs 9 ?_
        refine Gk (q + 1) ⟨by omega, fun j hj hjq => ?_⟩ Jb srA (Sub.drop.trans subF)
        rcases Nat.lt_succ_iff_lt_or_eq.1 hjq with k9 | rfl
        · exact hin j hj k9
        exact ⟨⟨c29, c51, c58, c65⟩, fun h0 => absurd h0 Jb⟩
       refine qt [39, 40] ?_
       refine Gq Ja ?_
       refine qs 13 ?_
       exact Gb (L' := L) (F' := F) Tryz.results10 rfl subA (hF (fun e => c65 (e.2.2.1 q hql).1.2.2.2))
      refine qt [32, 33, 34, 35, 36, 37, 38, 39, 40] ?_
      refine Gq Ja ?_
      refine qs 13 ?_
      exact Gb (L' := L) (F' := F) Tryz.results10 rfl subA (hF (fun e => c58 (e.2.2.1 q hql).1.2.2.1))
     refine qt [25, 26, 27, 28, 29, 30, 31, 32, 33, 34, 35, 36, 37, 38, 39, 40] ?_
     refine Gq Ja ?_
     refine qs 13 ?_
     exact Gb (L' := L) (F' := F) Tryz.results10 rfl subA (hF (fun e => c51 (e.2.2.1 q hql).1.2.1))
    refine qt [3, 4, 5, 6, 7, 8, 9, 10, 11, 12, 13, 14, 15, 16, 17, 18, 19, 20, 21, 22, 23, 24, 25, 26, 27, 28, 29, 30, 31, 32, 33, 34, 35, 36, 37, 38, 39, 40] ?_
    refine Gq Ja ?_
    refine qs 13 ?_
    exact Gb (L' := L) (F' := F) Tryz.results10 rfl subA (hF (fun e => c29 (e.2.2.1 q hql).1.1))
   refine qs 13 ?_
   refine Ga (HO HZ HZ ?_)
   refine Ga (Ge HZ HZ (containsFuncT_c T hok memA _ [.pointer (some ⟨b1, 0, none⟩)] (fun t => ¬ fitsU N t) (fun x hx y1 y2 y3 y4 y5 y6 F' hF' n1 n2 R hT hF => uright1_c N x (j := 0) (hF' _ memA) n2 HZ hT hF) (fun c72 => ?_) (fun c72 => ?_)))
   ·refine qs 5 ?_
    exact Gb (L' := L) (F' := F) Tryz.results10 rfl subA (hF (fun e => c72 (fun j hj hn => hn (e.2.2.2 _ (List.getElem_mem hj)))))
   refine qs 5 ?_
   refine Gb (L' := L) (F' := F) Tryz.results10 HZ subA (hT ⟨c8, by omega, fun i hi => hin i hi Jb, fun t ht => ?_⟩)
   obtain ⟨j, hj, rfl⟩ := List.getElem_of_mem ht
   exact Classical.byContradiction (c72 j hj)
  refine qs 17 ?_
  exact Gb (L' := L) (F' := F) Tryz.results10 rfl subA (hF (fun e => c8 e.1))
end
end Go.Sy
namespace Go.Sy
open Go Go.Proofs Go.RowKit
abbrev fS (l : List (List UInt8)) (a : Option Addr) (k c : Nat) : Fact := .slc (.slice a k c) 1 (l.map eS)
attribute [local irreducible] AC AT AO AK AH ACalls Sub Res.cells Res.obj Res.nix Res.own Res.map Exit.then Exit.inBlock bodyPost Code.wp Code.wpIn WL Next Post Kont
section
variable {W0 : World} {L : List Res} {F : List Fact} {R : Value → List Res → List Fact → Prop}
set_option maxRecDepth 100000
set_option maxHeartbeats 16000000
end
end Go.Sy
namespace Go.Sy
open Go Go.Proofs Go.RowKit
attribute [local irreducible] AC AT AO AK AH ACalls Sub Res.cells Res.obj Res.nix Res.own Res.map Exit.then Exit.inBlock bodyPost Code.wp Code.wpIn WL Next Post Kont
section
variable {W0 : World} {L : List Res} {F : List Fact} {R : Value → List Res → List Fact → Prop}
set_option maxRecDepth 100000
set_option maxHeartbeats 16000000
theorem substIn_c (g : Glob W0) (l : List Ty) (hok : ∀ t ∈ l, TyOk t) (hr : rightP l) (n : Nat) (hn : n < l.length) (args : List Int) (_hargs : args.length ≤ 1000) {a a2 : Option Addr} {k c k2 c2 : Nat} (mL : fL l a k c ∈ F) (mA : fI args a2 k2 c2 ∈ F) (mN : Fact.slc (.slice none 0 0) 5 [] ∈ F)
    (h3 : ∀ e, subR l n args = .error e → R (.tuple #[.slice none 0 0, .int .i64 0, .int .i64 e]) L (fL [] none 0 0 :: F))
    (h4 : ∀ o q a k c, subR l n args = .ok (o, q) → R (.tuple #[.slice a k c, .int .i64 q, .int .i64 0]) L (fL o a k c :: F)) :
    ACalls Tryz.prog W0 114 #[.slice a k c, .int .i64 (n : Int), .slice a2 k2 c2] L F R := by
  have h400 := hr.2.1
  have hAl := asks_len l (n + 1) Jb
  have hAget := GK (l := asksL (l.take (n + 1))) (0 : Int) (q := n) Jb
  have hMl : (partsL l n).length = n + 1 := partsN_len l n (n + 1)
  refine Gg Tryz.func114 HZ Tryz.ntmps114 HZ ?_
  refine qs 2 ?_
  refine Ga (GL HZ HZ (fun b3 => ?_))
  refine qs 10 ?_
  refine Ga (Ge HZ HZ (there_c g l hok (n : Int) memA (fun c => absurd hr c) (fun _ c => absurd Jb c) (fun _ _ => ?_)))
  refine qs 6 ?_
  refine Ga (GG HZ HZ HZ (fun c28 => absurd HZ c28) (fun _ => ?_))
  refine qs 9 ?_
  refine Ga (Ge HZ HZ (asks_c l hr n hn memA (fun a32 k32 z32 => ?_)))
  refine qs 5 ?_
  refine Ga (HO HZ HZ ?_)
  refine qs 8 ?_
  refine Ga (Ge HZ HZ (containsFuncI_c args (show fI args a2 k2 c2 ∈ _ from memA) _ [.pointer (some ⟨b3, 0, none⟩)] (fun s => s < 0 ∨ s ≥ l.length) (fun s F' hF' R hT hF => sub1_c l s (i := 0) (hF' _ memA) HZ hT hF) (fun c36 => ?_) (fun c36 => ?_)))
  ·refine qs 21 ?_
   exact Hc (L' := L) (F' := fL [] none 0 0 :: F) Tryz.results114 rfl rfl rfl (Sub.drop.trans (Gh (mem1 memA (fun x hx => by repeat (first | exact hx | refine List.mem_cons_of_mem _ ?_))))) (h3 1 (subR_bad (.inr (bad_of c36))))
  refine qs 2 ?_
  refine Gc HZ HZ (Gt HZ HZ (fun hl39 => ?_) (enc := eI) (lst := args) (hm := (show fI args a2 k2 c2 ∈ _ from memA)))
  refine qs 2 ?_
  refine Gc HZ HZ (Gd (k := n) HZ HZ HZ HZ (enc := eI) (lst := asksL (l.take (n + 1))) memA Jb (fun _ _ => ?_))
  rw [← hAget]
  refine Gc HZ HZ (Gs HZ HZ ?_)
  intros
  refine Gc HZ HZ (Gw HZ HZ HZ (fun c44 => ?_) (fun c44 => ?_))
  ·refine qs 13 ?_
   exact Hc (L' := L) (F' := fL [] none 0 0 :: F) Tryz.results114 rfl rfl rfl (Sub.drop.trans (Gh (mem1 memA (fun x hx => by repeat (first | exact hx | refine List.mem_cons_of_mem _ ?_))))) (h3 1 (subR_bad (.inl c44)))
  refine qs 8 ?_
  refine Ga (AO.makeMap vI vI HZ (fun b46 => ?_))
  refine qs 14 ?_
  have hgood := good_of c36
  have hnb : ¬ badArgs l n args := not_bad hgood Jb
  refine Ga (Ge HZ HZ (parts_c l hr n hn memA (fun a50 k50 z50 => ?_)))
  refine Ga (Gt HZ HZ (fun hl51 => ?_) (enc := eBl) (lst := partsL l n) (hm := memA))
  refine qs 4 ?_
  refine GB (fun (x : Nat × (List Ty × List Int × (Int → Option Int)) × (Option Addr × Nat × Nat)) => x.1 ≤ n + 1 ∧ subN l args (asksL (l.take (n + 1))) (partsL l n) x.1 = .ok (x.2.1.1, x.2.1.2.1) ∧ SubOk l x.1 x.2.1.1 x.2.1.2.1 ∧ MapS (partsL l n) x.2.1.2.1 x.1 x.2.1.2.2) (fun x => [(1, .int .i64 (n : Int)), (2, .slice a2 k2 c2), (3, .pointer (some ⟨b3, 0, none⟩)), (10, .slice a32 k32 z32), (12, .map (some b46)), (13, .slice x.2.2.1 x.2.2.2.1 x.2.2.2.2), (50, .slice a50 k50 z50), (51, .int .i64 (partsL l n).length), (52, .int .i64 (x.1 : Int))]) (fun x => Res.map b46 vI vI x.2.1.2.2 :: Res.cells b3 #[.slice a k c] 22 :: L) (fun x => fL x.2.1.1 x.2.2.1 x.2.2.2.1 x.2.2.2.2 :: _) (fun x => n + 1 - x.1) (0, (l, [], fun _ => none), (a, k, c)) ⟨Nat.zero_le _, rfl, ⟨hr, List.prefix_rfl, rfl, fun p hp => absurd hp (by simp)⟩, fun p hp => absurd hp (by simp)⟩ srA (Gh (mem1 memA (fun x hx => hx))) ?_
  rintro ⟨q, ⟨out, ins, m⟩, ⟨a13, k13, c13⟩⟩ ⟨hq, hs, hso, hm⟩
  simp only at hq hs hso hm ⊢
  refine qs 2 ?_
  refine Ga (Gw HZ HZ HZ (fun c53 => ?_) (fun c53 => ?_))
  ·refine qs 11 ?_
   have hqn : q < n + 1 := by omega
   have hql : q < l.length := by omega
   have hqA : q < (asksL (l.take (n + 1))).length := by omega
   have hqM : q < (partsL l n).length := by omega
   have hMq := GK false hqM
   have hAq := GK (0 : Int) hqA
   have hrt := GT hr hql
   have hout := hso.right.2.1
   have hol := hso.pre.length_le
   refine Ga (Gd HZ HZ HZ HZ (enc := eBl) (lst := partsL l n) memA hqM (fun _ _ => ?_))
   rw [← hMq]
   refine Ga (Gs HZ HZ ?_)
   intros
   refine qs 8 ?_
   refine Ga (Gd HZ HZ HZ HZ (show fL l a k c ∈ _ from memA) hql (fun _ _ => ?_))
   refine Ga (GN HZ HZ ?_)
   intro a60 k60 z60 d60 e60 f60
   refine Ga (Gj HZ (fun b16 => ?_))
   refine qs 12 ?_
   refine AC.cond HZ (fun c61 => ?_) (fun c61 => ?_)
   ·refine qs 9 ?_
    have hM0 : (partsL l n).getD q false = false := by simpa using c61
    exact Gk (q + 1, (out, ins ++ [(q : Int)], m), (a13, k13, c13)) ⟨by simp only; omega, sub_out hs (.inl hM0), hso.step hso.right List.prefix_rfl (by simp only; omega), hm.skip hso.len _ hM0⟩ (by simp only; omega) srA (Sub.drop.trans (Gh (mem1 memA (fun x hx => by repeat (first | exact hx | refine List.mem_cons_of_mem _ ?_)))))
   refine qs 4 ?_
   refine Ga (Gr HZ HZ HZ (fun c67 => ?_) (fun c67 => ?_))
   ·refine qs 11 ?_
    have hM1 : (partsL l n).getD q false = true := by simpa using c61
    have hp9 := hrt.param c67
    have hask := parts_ask hr hn (n + 1) (Nat.le_refl _) hM1
    have hA9 : (asksL (l.take (n + 1))).getD q 0 = l[q].n + 1 := by
     rw [asks_at hn Jb]; unfold ask1 ask0; rw [if_pos c67, hp9.2.2]; rfl
    have hna : l[q].n.toNat < args.length := by omega
    have hga := GK (0 : Int) hna
    have hgr := hgood _ (List.getElem_mem hna)
    refine Ga (Gd (k := l[q].n.toNat) HZ HZ HZ Jb (show fI args a2 k2 c2 ∈ _ from memA) hna (fun _ _ => ?_))
    rw [← hga]
    refine Ga (Gs HZ HZ ?_)
    intros
    refine Ga (Hu (kenc := vI) (venc := vI) (m := m) (i := 1) (q : Int) (args.getD l[q].n.toNat 0) HZ HZ HZ HZ ?_)
    simp only [List.set_cons_zero, List.set_cons_succ]
    refine qs 11 ?_
    exact Gk (q + 1, (out, ins ++ [args.getD l[q].n.toNat 0], upd m (q : Int) (args.getD l[q].n.toNat 0)), (a13, k13, c13)) ⟨by simp only; omega, sub_param hs hM1 Jb hql c67, hso.step hso.right List.prefix_rfl (by simp only; rw [hga]; omega), hm.upd hso.len _⟩ (by simp only; omega) srA (Sub.drop.trans (Gh (mem1 memA (fun x hx => by repeat (first | exact hx | refine List.mem_cons_of_mem _ ?_)))))
   refine qs 8 ?_
   have hM1 : (partsL l n).getD q false = true := by simpa using c61
   refine Ga (Gd HZ HZ HZ HZ (enc := eI) (lst := asksL (l.take (n + 1))) memA hqA (fun _ _ => ?_))
   rw [← hAq]
   refine Ga (Gs HZ HZ ?_)
   intros
   refine Ga (Gr HZ HZ HZ (fun c80 => ?_) (fun c80 => ?_))
   ·refine qs 9 ?_
    refine Ga (Hu (kenc := vI) (venc := vI) (m := m) (i := 1) (q : Int) (q : Int) HZ HZ HZ HZ ?_)
    simp only [List.set_cons_zero, List.set_cons_succ]
    refine qs 11 ?_
    exact Gk (q + 1, (out, ins ++ [(q : Int)], upd m (q : Int) (q : Int)), (a13, k13, c13)) ⟨by simp only; omega, sub_out hs (.inr c80), hso.step hso.right List.prefix_rfl (by simp only; omega), hm.upd hso.len _⟩ (by simp only; omega) srA (Sub.drop.trans (Gh (mem1 memA (fun x hx => by repeat (first | exact hx | refine List.mem_cons_of_mem _ ?_)))))
   refine qs 11 ?_
   refine Ga (Ge HZ HZ (clone_c l[q].kids (by have := hrt.few; omega) (show fK l[q] _ _ _ ∈ _ from memA) (fun a86 k86 z86 => ?_)))
   rw [← kidsS_zero ins l[q].kids]
   refine qs 9 ?_
   refine Ga (AO.lenO (i := 0) HZ HZ HZ (fun hk90 => ?_))
   rw [List.length_map, kidsS_len]
   refine qs 4 ?_
   refine GB (fun (v : Nat) => v ≤ l[q].kids.length) (fun v => [(1, .int .i64 (n : Int)), (2, .slice a2 k2 c2), (3, .pointer (some ⟨b3, 0, none⟩)), (10, .slice a32 k32 z32), (12, .map (some b46)), (13, .slice a13 k13 c13), (50, .slice a50 k50 z50), (51, .int .i64 (partsL l n).length), (52, .int .i64 (q : Int)), (14, .int .i64 (q : Int)), (16, .pointer (some ⟨b16, 0, none⟩)), (89, .slice a86 k86 z86), (90, .int .i64 l[q].kids.length), (91, .int .i64 (v : Int))]) (fun v => Res.own (.slice a86 k86 z86) 3 1 ((kidsS ins l[q].kids v).map eI) :: _) (fun _ => _) (fun v => l[q].kids.length - v) 0 (Nat.zero_le _) srA (Gf _ _) ?_
   rintro v hv
   refine qs 2 ?_
   refine Ga (Gw HZ HZ HZ (fun c92 => ?_) (fun c92 => ?_))
   ·refine qs 11 ?_
    have hkf := hrt.few
    have hvl : v < l[q].kids.length := by omega
    have hb := hrt.kids _ (List.getElem_mem hvl)
    have hMk := parts_kid hr hn Jb hM1 (List.getElem_mem hvl)
    have hmk := hm l[q].kids[v].toNat Jb hMk
    rw [show ((l[q].kids[v].toNat : Nat) : Int) = l[q].kids[v] by omega] at hmk
    have hkl := kidsS_len ins l[q].kids v
    refine Ga (Hb (i := 0) (q := v) HZ HZ HZ HZ HZ (by rw [List.length_map]; omega) (fun bo ho => ?_))
    subst ho
    refine Ga (AO.loadO (i := 0) (q := v) HZ HZ HZ HZ (eIs_get (kidsS_get hvl)) ?_)
    refine qs 10 ?_
    refine Ga (AO.lookup (kenc := vI) (venc := vI) (m := m) (i := 2) l[q].kids[v] HZ HZ HZ HZ ?_)
    rw [hmk]
    refine Ga (Hb (i := 0) (q := v) HZ HZ HZ HZ HZ (by rw [List.length_map]; omega) (fun bo2 ho2 => ?_))
    cases ho2
    refine Ga (AO.storeO (i := 0) (q := v) (v := .int .i64 (ins.getD l[q].kids[v].toNat 0)) HZ HZ HZ HZ HZ (by rw [List.length_map]; omega) ?_)
    rw [eIs_set, kidsS_set hvl]
    refine qs 7 ?_
    refine Gk (v + 1) Jb Jb srA subF
   refine qs 14 ?_
   have hkd : ∀ k ∈ (mapK ins l[q]).kids, 0 ≤ k ∧ k < out.length := mapK_kids hso.ins hrt.kids
   have htok : TyOk (mapK ins l[q]) := mapK_ok hout (Hj hr _ (List.getElem_mem hql)) hkd
   have hput := sub_put hs hM1 c80 hql c67
   rw [kidsS_all ins l[q].kids (show l[q].kids.length ≤ v by omega)]
   refine GH ((Gz (i := 0) HZ).trans Gv) ?_
   refine Ga (Gr HZ HZ HZ (fun c106 => ?_) (fun c106 => ?_))
   ·refine qs 7 ?_
    have hwk : (mapK ins l[q]).words.length = (mapK ins l[q]).kids.length := by unfold mapK; simp only [List.length_map]; exact hrt.iface c106
    refine Ga (Ge HZ HZ (terms_c out hout (mapK ins l[q]) htok.kids hkd hwk (hrt.bare c106) (show fL out a13 k13 c13 ∈ _ from memA) (show fW (mapK ins l[q]) _ _ _ ∈ _ from memA) (show fK (mapK ins l[q]) _ _ _ ∈ _ from memA) (fun c110 => ?_) (fun c110 p1 p2 p3 p4 p5 p6 => ?_)))
    ·refine qs 2 ?_
     refine Ga (AO.extract HZ HZ HZ ?_)
     refine Ga (Gj HZ (fun b19 => ?_))
     refine qs 27 ?_
     exact Hc (L' := L) (F' := fL [] none 0 0 :: F) Tryz.results114 rfl rfl rfl (Sub.drop.trans (Sub.drop.trans (Sub.drop.trans (Sub.drop.trans (Gh (mem1 memA (fun x hx => by repeat (first | exact hx | refine List.mem_cons_of_mem _ ?_)))))))) (h3 11 (HT hnb hqn (hput.trans (put_odd c106 c110))))
    refine qs 2 ?_
    refine Ga (AO.extract HZ HZ HZ ?_)
    refine Ga (Gj HZ (fun b19 => ?_))
    refine qs 23 ?_
    refine Ga (Ge HZ HZ (add2_c g out (Hj hso.right) (termsT out.length (mapK ins l[q])) (termsT_ok hout htok hwk hkd).up (show fL out a13 k13 c13 ∈ _ from memA) (show fW (termsT out.length (mapK ins l[q])) p1 p2 p3 ∈ _ from memA) (show fK (termsT out.length (mapK ins l[q])) p4 p5 p6 ∈ _ from memA) (fun c => absurd hso.right c) (fun _ o2 i2 e2 a119 k119 c119 hP => ?_)))
    rw [put_iface (t := mapK ins l[q]) hso.right c106 c110 hP] at hput
    refine qs 13 ?_
    refine Ga (GG HZ HZ HZ (fun c124 => ?_) (fun c124 => ?_))
    ·refine qs 18 ?_
     rw [if_neg c124] at hput
     first
     | exact Hc (L' := L) (F' := fL [] none 0 0 :: F) Tryz.results114 rfl rfl rfl (Sub.drop.trans (Sub.drop.trans (Sub.drop.trans (Sub.drop.trans (Gh (mem1 memA (fun x hx => by repeat (first | exact hx | refine List.mem_cons_of_mem _ ?_)))))))) (h3 e2 (HT hnb Jb hput))
     | exact Hc (L' := L) (F' := fL [] none 0 0 :: F) Tryz.results114 rfl rfl rfl (Sub.drop.trans (Sub.drop.trans (Sub.drop.trans (Gh (mem1 memA (fun x hx => by repeat (first | exact hx | refine List.mem_cons_of_mem _ ?_))))))) (h3 e2 (HT hnb Jb hput))
    refine qs 11 ?_
    have hmi : m = m := rfl
    refine Ga (Hu (kenc := vI) (venc := vI) (m := m) (q : Int) i2 HZ HZ HZ (by repeat (first | exact has0 | apply hasS)) ?_)
    simp only [List.set_cons_zero, List.set_cons_succ]
    refine qs 7 ?_
    rw [if_pos c124] at hput
    obtain ⟨hr2, hp2, hi2, hi3⟩ := add_pre hso.right hP c124
    first
    | exact Gk (q + 1, (o2, ins ++ [i2], upd m (q : Int) i2), (a119, k119, c119)) ⟨by simp only; omega, hput, hso.step hr2 hp2 ⟨hi2, hi3⟩, hm.upd hso.len _⟩ (by simp only; omega) srA (Sub.drop.trans (Sub.drop.trans (Gh (mem1 memA (fun x hx => by repeat (first | exact hx | refine List.mem_cons_of_mem _ ?_))))))
    | exact Gk (q + 1, (o2, ins ++ [i2], upd m (q : Int) i2), (a119, k119, c119)) ⟨by simp only; omega, hput, hso.step hr2 hp2 ⟨hi2, hi3⟩, hm.upd hso.len _⟩ (by simp only; omega) srA (Sub.drop.trans (Gh (mem1 memA (fun x hx => by repeat (first | exact hx | refine List.mem_cons_of_mem _ ?_)))))
   refine qs 9 ?_
   refine Ga (Ge HZ HZ (add2_c g out (Hj hso.right) (mapK ins l[q]) htok.up (show fL out a13 k13 c13 ∈ _ from memA) (show fW (mapK ins l[q]) _ _ _ ∈ _ from memA) (show fK (mapK ins l[q]) _ _ _ ∈ _ from memA) (fun c => absurd hso.right c) (fun _ o2 i2 e2 a119 k119 c119 hP => ?_)))
   rw [put_plain (t := mapK ins l[q]) hso.right c106 hP] at hput
   refine qs 13 ?_
   refine Ga (GG HZ HZ HZ (fun c124 => ?_) (fun c124 => ?_))
   ·refine qs 18 ?_
    rw [if_neg c124] at hput
    first
    | exact Hc (L' := L) (F' := fL [] none 0 0 :: F) Tryz.results114 rfl rfl rfl (Sub.drop.trans (Sub.drop.trans (Sub.drop.trans (Sub.drop.trans (Gh (mem1 memA (fun x hx => by repeat (first | exact hx | refine List.mem_cons_of_mem _ ?_)))))))) (h3 e2 (HT hnb Jb hput))
    | exact Hc (L' := L) (F' := fL [] none 0 0 :: F) Tryz.results114 rfl rfl rfl (Sub.drop.trans (Sub.drop.trans (Sub.drop.trans (Gh (mem1 memA (fun x hx => by repeat (first | exact hx | refine List.mem_cons_of_mem _ ?_))))))) (h3 e2 (HT hnb Jb hput))
   refine qs 11 ?_
   have hmi : m = m := rfl
   refine Ga (Hu (kenc := vI) (venc := vI) (m := m) (q : Int) i2 HZ HZ HZ (by repeat (first | exact has0 | apply hasS)) ?_)
   simp only [List.set_cons_zero, List.set_cons_succ]
   refine qs 7 ?_
   rw [if_pos c124] at hput
   obtain ⟨hr2, hp2, hi2, hi3⟩ := add_pre hso.right hP c124
   first
   | exact Gk (q + 1, (o2, ins ++ [i2], upd m (q : Int) i2), (a119, k119, c119)) ⟨by simp only; omega, hput, hso.step hr2 hp2 ⟨hi2, hi3⟩, hm.upd hso.len _⟩ (by simp only; omega) srA (Sub.drop.trans (Sub.drop.trans (Gh (mem1 memA (fun x hx => by repeat (first | exact hx | refine List.mem_cons_of_mem _ ?_))))))
   | exact Gk (q + 1, (o2, ins ++ [i2], upd m (q : Int) i2), (a119, k119, c119)) ⟨by simp only; omega, hput, hso.step hr2 hp2 ⟨hi2, hi3⟩, hm.upd hso.len _⟩ (by simp only; omega) srA (Sub.drop.trans (Gh (mem1 memA (fun x hx => by repeat (first | exact hx | refine List.mem_cons_of_mem _ ?_)))))
  refine qs 10 ?_
  refine GP (fun _ => false) [] bxA HZ (fun hx hX => ?_)
  have hq9 : q = n + 1 := by omega
  subst hq9
  have hmn := hm n Jb (parts_self hr hn)
  refine qt [0, 1, 2, 4] ?_
  refine Gm (i := 3) Ja HZ HZ (fun _ => ?_)
  refine AO.lookup (kenc := vI) (venc := vI) (m := m) (i := 0) (n : Int) HZ HZ HZ HZ ?_
  rw [hmn]
  refine Gi bxA memB ?_
  refine qt [5, 6] ?_
  refine Gq Ja ?_
  refine qs 2 ?_
  exact Hc (L' := L) (F' := fL out a13 k13 c13 :: F) Tryz.results114 rfl rfl rfl (Sub.drop.trans (Sub.drop.trans (Gh (mem1 memA (fun x hx => by repeat (first | exact hx | refine List.mem_cons_of_mem _ ?_)))))) (h4 _ _ _ _ _ (subR_ok hnb hs))
end
end Go.Sy
namespace Go.Sy
open Go Go.Proofs Go.RowKit
theorem rep_snoc {α : Type} (z : α) (q : Nat) : List.replicate q z ++ [z] = List.replicate (q + 1) z := List.replicate_succ'.symm
attribute [local irreducible] AC AT AO AK AH ACalls Sub Res.cells Res.obj Res.nix Res.own Res.map Exit.then Exit.inBlock bodyPost Code.wp Code.wpIn WL Next Post Kont
section
variable {W0 : World} {L : List Res} {F : List Fact} {R : Value → List Res → List Fact → Prop}
set_option maxRecDepth 100000
set_option maxHeartbeats 4000000
theorem rasks_c (l : List Ty) (hr : rightP l) (i : Nat) (hi : i < l.length) {a : Option Addr} {k c : Nat} (mL : fL l a k c ∈ F) (h : ∀ a k c, R (.slice a k c) L (fI (asksL (l.take (i + 1))) a k c :: F)) : ACalls Tryz.prog W0 181 #[.slice a k c, .int .i64 (i : Int)] L F R := by
  have h400 := hr.2.1
  refine Gg Tryz.func181 HZ Tryz.ntmps181 HZ ?_
  refine qs 7 ?_
  refine Ga (He HZ (fun b11 => ?_))
  refine GH (Hz (i := 0) (k := 0) (sz := 1) (enc := eI) [] HZ .nil (fun _ => rfl) HZ (by decide)) ?_
  refine qs 9 ?_
  refine Ga (AO.sliceH (j' := i + 1) HZ HZ HZ Jb (enc := eTy) (lst := l) memA Jb (fun a15 k15 c15 => ?_))
  have htl : (l.take (i + 1)).length = i + 1 := by rw [List.length_take]; omega
  refine Ga (Gt HZ HZ (fun hl16 => ?_) (hm := by repeat (first | exact mem0 | assumption | refine memS ?_)))
  refine qs 4 ?_
  refine GB (fun (x : Nat × Option Addr × Nat × Nat) => x.1 ≤ i + 1) (fun x => [(5, .slice x.2.1 x.2.2.1 x.2.2.2), (15, .slice a15 k15 c15), (16, .int .i64 (l.take (i + 1)).length), (17, .int .i64 (x.1 : Int))]) (fun x => Res.own (.slice x.2.1 x.2.2.1 x.2.2.2) 3 1 ((asksL (l.take x.1)).map eI) :: L) (fun _ => _) (fun x => i + 1 - x.1) (0, some ⟨b11, 0, none⟩, 0, 0) (by simp) srA (Gf _ _) ?_
  rintro ⟨q, a5, k5, z5⟩ hq
  simp only at hq ⊢
  refine qs 2 ?_
  refine Ga (Gw HZ HZ HZ (fun c18 => ?_) (fun c18 => ?_))
  ·refine qs 10 ?_
   have hqi : q < i + 1 := by omega
   have hql : q < l.length := by omega
   have hqt : q < (l.take (i + 1)).length := by omega
   have hget : (l.take (i + 1))[q] = l[q] := List.getElem_take
   have hAl := asks_len l q Jb
   have hrt := GT hr hql
   refine Ga (Gd HZ HZ HZ HZ (enc := eTy) (lst := l.take (i + 1)) memA hqt (fun _ _ => ?_))
   rw [hget]
   refine Ga (GN HZ HZ ?_)
   intro a22 k22 z22 d22 e22 f22
   refine Ga (Gj HZ (fun b7 => ?_))
   refine qs 13 ?_
   refine Ga (Gr HZ HZ HZ (fun c23 => ?_) (fun c23 => ?_))
   ·refine qs 6 ?_
    have hp := hrt.param c23
    refine Ga (AO.add HZ HZ HZ Jb Jb ?_)
    refine qs 8 ?_
    refine Ga (Gt HZ HZ (fun hl29 => ?_) (enc := eI) (lst := l[q].kids) (hm := memA))
    refine qs 4 ?_
    have e25 : l[q].n + 1 = ask0 l[q] := (if_pos c23).symm
    refine GB (fun (v : Nat) => v ≤ l[q].kids.length) (fun v => [(5, .slice a5 k5 z5), (15, .slice a15 k15 c15), (16, .int .i64 (l.take (i + 1)).length), (17, .int .i64 (q : Int)), (7, .pointer (some ⟨b7, 0, none⟩)), (8, .int .i64 (askK (asksL (l.take q)) (l[q].n + 1) (l[q].kids.take v))), (28, .slice d22 e22 f22), (29, .int .i64 l[q].kids.length), (30, .int .i64 (v : Int))]) (fun v => _) (fun _ => _) (fun v => l[q].kids.length - v) 0 (Nat.zero_le _) srA (Gf _ _) ?_
    rintro v hv
    refine qs 2 ?_
    refine Ga (Gw HZ HZ HZ (fun c31 => ?_) (fun c31 => ?_))
    ·refine qs 10 ?_
     have hvl : v < l[q].kids.length := by omega
     have hb := hrt.kids _ (List.getElem_mem hvl)
     have hkA := asks_pos hql hb
     refine Ga (Gd HZ HZ HZ HZ (show fK l[q] _ _ _ ∈ _ from memA) hvl (fun _ _ => ?_))
     refine Ga (Gs HZ HZ ?_)
     intros
     refine qs 7 ?_
     refine Ga (Hb (i := 1) (q := l[q].kids[v].toNat) HZ HZ HZ Jb HZ (by rw [List.length_map]; exact hkA) (fun bo ho => ?_))
     subst ho
     refine Ga (AO.loadO (i := 1) (q := l[q].kids[v].toNat) HZ HZ HZ HZ (eI_get hkA) ?_)
     refine qs 1 ?_
     refine Ga (Hv HZ HZ HZ (fun c39 => ?_) (fun c39 => ?_))
     ·refine qs 6 ?_
      refine Ga (Hb (i := 1) (q := l[q].kids[v].toNat) HZ HZ HZ Jb HZ (by rw [List.length_map]; exact hkA) (fun bo2 ho2 => ?_))
      cases ho2
      refine Ga (AO.loadO (i := 1) (q := l[q].kids[v].toNat) HZ HZ HZ HZ (eI_get hkA) ?_)
      refine qs 8 ?_
      first
      | (rw [ask_up hvl c39]; exact Gk (v + 1) Jb Jb srA subF)
      | (rw [ask_no hvl c39]; exact Gk (v + 1) Jb Jb srA subF)
     refine qs 10 ?_
     first
     | (rw [ask_up hvl c39]; exact Gk (v + 1) Jb Jb srA subF)
     | (rw [ask_no hvl c39]; exact Gk (v + 1) Jb Jb srA subF)
    refine qs 12 ?_
    have hkt : l[q].kids.take v = l[q].kids := List.take_of_length_le Jb
    rw [hkt, e25]
    refine Ga (Gl HZ HZ HZ HZ HZ (fun b47 => ?_))
    refine Ga (GJ (i := 1) (enc := eI) (lst := asksL (l.take q)) [askK (asksL (l.take q)) (ask0 l[q]) l[q].kids] HZ HZ HZ HZ (.val .nil) HZ HZ (fun _ => rfl) (by rw [hAl]; simp only [maxLen]; omega) (by rw [hAl]; omega) (fun a48 k48 z48 => ?_))
    have eA : asksL (l.take q) ++ [askK (asksL (l.take q)) (ask0 l[q]) l[q].kids] = asksL (l.take (q + 1)) := (asks_step hql).symm
    rw [eA]
    refine qs 8 ?_
    refine Gk (q + 1, a48, k48, z48) (by simp only; omega) (by simp only; omega) srA (Sub.drop.trans subF)
   refine qs 10 ?_
   refine Ga (Gt HZ HZ (fun hl29 => ?_) (enc := eI) (lst := l[q].kids) (hm := memA))
   refine qs 4 ?_
   have e25 : (0 : Int) = ask0 l[q] := (if_neg c23).symm
   refine GB (fun (v : Nat) => v ≤ l[q].kids.length) (fun v => [(5, .slice a5 k5 z5), (15, .slice a15 k15 c15), (16, .int .i64 (l.take (i + 1)).length), (17, .int .i64 (q : Int)), (7, .pointer (some ⟨b7, 0, none⟩)), (8, .int .i64 (askK (asksL (l.take q)) 0 (l[q].kids.take v))), (28, .slice d22 e22 f22), (29, .int .i64 l[q].kids.length), (30, .int .i64 (v : Int))]) (fun v => _) (fun _ => _) (fun v => l[q].kids.length - v) 0 (Nat.zero_le _) srA (Gf _ _) ?_
   rintro v hv
   refine qs 2 ?_
   refine Ga (Gw HZ HZ HZ (fun c31 => ?_) (fun c31 => ?_))
   ·refine qs 10 ?_
    have hvl : v < l[q].kids.length := by omega
    have hb := hrt.kids _ (List.getElem_mem hvl)
    have hkA := asks_pos hql hb
    refine Ga (Gd HZ HZ HZ HZ (show fK l[q] _ _ _ ∈ _ from memA) hvl (fun _ _ => ?_))
    refine Ga (Gs HZ HZ ?_)
    intros
    refine qs 7 ?_
    refine Ga (Hb (i := 1) (q := l[q].kids[v].toNat) HZ HZ HZ Jb HZ (by rw [List.length_map]; exact hkA) (fun bo ho => ?_))
    subst ho
    refine Ga (AO.loadO (i := 1) (q := l[q].kids[v].toNat) HZ HZ HZ HZ (eI_get hkA) ?_)
    refine qs 1 ?_
    refine Ga (Hv HZ HZ HZ (fun c39 => ?_) (fun c39 => ?_))
    ·refine qs 6 ?_
     refine Ga (Hb (i := 1) (q := l[q].kids[v].toNat) HZ HZ HZ Jb HZ (by rw [List.length_map]; exact hkA) (fun bo2 ho2 => ?_))
     cases ho2
     refine Ga (AO.loadO (i := 1) (q := l[q].kids[v].toNat) HZ HZ HZ HZ (eI_get hkA) ?_)
     refine qs 8 ?_
     first
     | (rw [ask_up hvl c39]; exact Gk (v + 1) Jb Jb srA subF)
     | (rw [ask_no hvl c39]; exact Gk (v + 1) Jb Jb srA subF)
    refine qs 10 ?_
    first
    | (rw [ask_up hvl c39]; exact Gk (v + 1) Jb Jb srA subF)
    | (rw [ask_no hvl c39]; exact Gk (v + 1) Jb Jb srA subF)
   refine qs 12 ?_
   have hkt : l[q].kids.take v = l[q].kids := List.take_of_length_le Jb
   rw [hkt, e25]
   refine Ga (Gl HZ HZ HZ HZ HZ (fun b47 => ?_))
   refine Ga (GJ (i := 1) (enc := eI) (lst := asksL (l.take q)) [askK (asksL (l.take q)) (ask0 l[q]) l[q].kids] HZ HZ HZ HZ (.val .nil) HZ HZ (fun _ => rfl) (by rw [hAl]; simp only [maxLen]; omega) (by rw [hAl]; omega) (fun a48 k48 z48 => ?_))
   have eA : asksL (l.take q) ++ [askK (asksL (l.take q)) (ask0 l[q]) l[q].kids] = asksL (l.take (q + 1)) := (asks_step hql).symm
   rw [eA]
   refine qs 8 ?_
   refine Gk (q + 1, a48, k48, z48) (by simp only; omega) (by simp only; omega) srA (Sub.drop.trans subF)
  refine qs 11 ?_
  refine Ga (HV HZ HZ ?_)
  have hq9 : q = i + 1 := by omega
  subst hq9
  refine GH ((Gz (i := 0) HZ).trans Gv) ?_
  refine qs 4 ?_
  exact Gb (L' := L) (F' := fI (asksL (l.take (i + 1))) _ _ _ :: F) Tryz.results181 rfl (GX (fun x hx => by repeat (first | exact hx | refine List.mem_cons_of_mem _ ?_))) (h _ _ _)
theorem rparts_c (l : List Ty) (hr : rightP l) (i : Nat) (hi : i < l.length) {a : Option Addr} {k c : Nat} (mL : fL l a k c ∈ F) (h : ∀ a k c, R (.slice a k c) L (fB (partsL l i) a k c :: F)) : ACalls Tryz.prog W0 217 #[.slice a k c, .int .i64 (i : Int)] L F R := by
  have h400 := hr.2.1
  refine Gg Tryz.func217 HZ Tryz.ntmps217 HZ ?_
  refine qs 7 ?_
  refine Ga (He HZ (fun b9 => ?_))
  refine GH (Hz (i := 0) (k := 0) (sz := 1) (enc := eBl) [] HZ .nil (fun _ => rfl) HZ (by decide)) ?_
  refine qs 9 ?_
  refine Ga (AO.sliceH (j' := i + 1) HZ HZ HZ Jb (enc := eTy) (lst := l) memA Jb (fun a13 k13 c13 => ?_))
  have htl : (l.take (i + 1)).length = i + 1 := by rw [List.length_take]; omega
  refine Ga (Gt HZ HZ (fun hl14 => ?_) (hm := by repeat (first | exact mem0 | assumption | refine memS ?_)))
  refine qs 4 ?_
  refine GB (fun (x : Nat × Option Addr × Nat × Nat) => x.1 ≤ i + 1) (fun x => [(0, .slice a k c), (1, .int .i64 (i : Int)), (5, .slice x.2.1 x.2.2.1 x.2.2.2), (14, .int .i64 (l.take (i + 1)).length), (15, .int .i64 (x.1 : Int))]) (fun x => Res.own (.slice x.2.1 x.2.2.1 x.2.2.2) 4 1 ((List.replicate x.1 false).map eBl) :: L) (fun _ => _) (fun x => i + 1 - x.1) (0, some ⟨b9, 0, none⟩, 0, 0) (by simp) srA (Gf _ _) ?_
  rintro ⟨q, a5, k5, z5⟩ hq
  simp only at hq ⊢
  refine qs 2 ?_
  refine Ga (Gw HZ HZ HZ (fun c16 => ?_) (fun c16 => ?_))
  ·refine qs 10 ?_
   refine Ga (Gl HZ HZ HZ HZ HZ (fun b18 => ?_))
   refine Ga (GJ (i := 0) (enc := eBl) (lst := List.replicate q false) [false] HZ HZ HZ HZ (.val .nil) HZ HZ (fun _ => rfl) (by simp only [List.length_replicate, maxLen]; omega) (by simp only [List.length_replicate]; omega) (fun a19 k19 z19 => ?_))
   rw [rep_snoc]
   refine qs 8 ?_
   refine Gk (q + 1, a19, k19, z19) (by simp only; omega) (by simp only; omega) srA subF
  refine qs 13 ?_
  have hq9 : q = i + 1 := by omega
  subst hq9
  refine Ga (Hb (i := 0) (q := i) HZ HZ HZ HZ HZ (by rw [List.length_map, List.length_replicate]; omega) (fun bo ho => ?_))
  subst ho
  refine Ga (AO.storeO (i := 0) (q := i) (v := .bool true) HZ HZ HZ HZ HZ (by rw [List.length_map, List.length_replicate]; omega) ?_)
  rw [eB_set]
  refine qs 10 ?_
  refine GB (fun (j : Nat) => j ≤ i + 1) (fun j => [(0, .slice a k c), (5, .slice (some ⟨bo, 0, none⟩) k5 z5), (6, .int .i64 ((i : Int) - (j : Int)))]) (fun j => Res.own (.slice (some ⟨bo, 0, none⟩) k5 z5) 4 1 ((partsN l i j).map eBl) :: L) (fun _ => _) (fun j => i + 1 - j) 0 (Nat.zero_le _) (by have e0 : (i : Int) - ((0 : Nat) : Int) = (i : Int) := Int.sub_zero _; simp only [e0]; exact srA) (Gf _ _) ?_
  rintro j hj
  have hMl := partsN_len l i j
  refine qs 4 ?_
  refine Ga (GY HZ HZ HZ (fun c26 => ?_) (fun c26 => ?_))
  ·refine qs 11 ?_
   refine Ga (Hb (i := 0) (q := i - j) HZ HZ HZ Jb HZ (by rw [List.length_map]; omega) (fun bo2 ho2 => ?_))
   cases ho2
   refine Ga (AO.loadO (i := 0) (q := i - j) HZ HZ HZ HZ (eB_get Jb) ?_)
   refine qs 2 ?_
   refine AC.cond HZ (fun c32 => ?_) (fun c32 => ?_)
   ·refine qs 4 ?_
    have hij : i - j < l.length := by omega
    refine Ga (Gd (k := i - j) HZ HZ HZ Jb (enc := eTy) (lst := l) memA hij (fun _ _ => ?_))
    refine Ga (Ha HZ HZ (fun _ => ?_))
    refine Ga (Gs HZ HZ ?_)
    intro a29 k29 z29
    refine Ga (Gt HZ HZ (fun hl38 => ?_) (enc := eI) (lst := l[i - j].kids) (hm := memA))
    refine qs 4 ?_
    refine GB (fun (v : Nat) => v ≤ l[i - j].kids.length) (fun v => [(0, .slice a k c), (5, .slice (some ⟨bo, 0, none⟩) k5 z5), (6, .int .i64 ((i : Int) - (j : Int))), (37, .slice a29 k29 z29), (38, .int .i64 l[i - j].kids.length), (39, .int .i64 (v : Int))]) (fun v => Res.own (.slice (some ⟨bo, 0, none⟩) k5 z5) 4 1 ((markK (partsN l i j) (l[i - j].kids.take v)).map eBl) :: L) (fun _ => _) (fun v => l[i - j].kids.length - v) 0 (Nat.zero_le _) srA (Gf _ _) ?_
    rintro v hv
    refine qs 2 ?_
    refine Ga (Gw HZ HZ HZ (fun c40 => ?_) (fun c40 => ?_))
    ·refine qs 10 ?_
     have hvl : v < l[i - j].kids.length := by omega
     have hb := (GT hr hij).kids _ (List.getElem_mem hvl)
     have hmk := markK_len (l[i - j].kids.take v) (partsN l i j)
     refine Ga (Gd HZ HZ HZ HZ (show fK l[i - j] _ _ _ ∈ _ from memA) hvl (fun _ _ => ?_))
     refine Ga (Gs HZ HZ ?_)
     intros
     refine qs 6 ?_
     refine Ga (Hb (i := 0) (q := l[i - j].kids[v].toNat) HZ HZ HZ Jb HZ (by rw [List.length_map]; omega) (fun bo3 ho3 => ?_))
     cases ho3
     refine Ga (AO.storeO (i := 0) (q := l[i - j].kids[v].toNat) (v := .bool true) HZ HZ HZ HZ HZ (by rw [List.length_map]; omega) ?_)
     rw [eB_set, ← markK_snoc _ _ hvl]
     refine qs 7 ?_
     refine Gk (v + 1) Jb Jb srA subF
    refine qs 15 ?_
    rw [show (i : Int) - (j : Int) - 1 = (i : Int) - ((j + 1 : Nat) : Int) by omega]
    refine Gk (j + 1) Jb Jb srA ?_
    have hkt : l[i - j].kids.take v = l[i - j].kids := List.take_of_length_le Jb
    rw [hkt, part_yes hi c32]
    exact subF
   refine qs 8 ?_
   rw [show (i : Int) - (j : Int) - 1 = (i : Int) - ((j + 1 : Nat) : Int) by omega]
   refine Gk (j + 1) Jb Jb srA ?_
   rw [part_no c32]
   exact subF
  refine qs 10 ?_
  refine Ga (HV HZ HZ ?_)
  have hj9 : j = i + 1 := by omega
  subst hj9
  refine GH ((Gz (i := 0) HZ).trans Gv) ?_
  refine qs 4 ?_
  exact Gb (L' := L) (F' := fB (partsL l i) _ _ _ :: F) Tryz.results217 rfl (GX (fun x hx => by repeat (first | exact hx | refine List.mem_cons_of_mem _ ?_))) (h _ _ _)
end
end Go.Sy
namespace Go.Sy
open Go Go.Proofs Go.RowKit
theorem mark_step {zs : List Tm} {v : Nat} (hv : v < zs.length) (p : Int) : markOf (zs.take (v + 1)) p = if markP zs[v].1 ∧ zs[v].2 = p ∧ markOf (zs.take v) p ≠ [126] then zs[v].1 else markOf (zs.take v) p := by
  rw [List.take_succ_eq_append_getElem hv, markOf_snoc]
theorem termsR_step (p : Nat) (zs : List Tm) : termsR (p + 1) zs = termsR p zs ++ (if markOf zs (p : Int) = [] then [] else [(markOf zs (p : Int), (p : Int))]) := by
  unfold termsR
  rw [List.range_succ, List.filterMap_append]
  congr 1
  by_cases h : markOf zs (p : Int) = []
  · simp [h]
  simp [h]
theorem termsR_le {zs : List Tm} : ∀ p, (termsR p zs).length ≤ p
  | 0 => by simp [termsR]
  | p + 1 => by
    have ih := termsR_le (zs := zs) p
    rw [termsR_step, List.length_append]
    split <;> simp <;> omega
attribute [local irreducible] AC AT AO AK AH ACalls Sub Res.cells Res.obj Res.nix Res.own Res.map Exit.then Exit.inBlock bodyPost Code.wp Code.wpIn WL Next Post Kont
section
variable {W0 : World} {L : List Res} {F : List Fact} {R : Value → List Res → List Fact → Prop}
set_option maxRecDepth 100000
set_option maxHeartbeats 8000000
theorem rmark2_c (s : List UInt8) (hT : markP s → R (.bool true) L F) (hF : ¬ markP s → R (.bool false) L F) : ACalls Tryz.prog W0 251 #[S s] L F R := by
  refine Gg Tryz.func251 HZ Tryz.ntmps251 HZ ?_
  refine qs 8 ?_
  refine Ga (Hi HZ HZ HZ (fun c4 => ?_) (fun c4 => ?_))
  ·refine qs 8 ?_
   first | exact Gb Tryz.results251 rfl (Gf _ _) (hT (Or.inl c4)) | exact Gb Tryz.results251 rfl (Gf _ _) (hT (Or.inr c7)) | exact Gb Tryz.results251 rfl (Gf _ _) (hF (fun e => e.elim c4 c7))
  refine qs 2 ?_
  refine Gc HZ HZ (Hi HZ HZ HZ (fun c7 => ?_) (fun c7 => ?_))
  ·refine qs 5 ?_
   first | exact Gb Tryz.results251 rfl (Gf _ _) (hT (Or.inl c4)) | exact Gb Tryz.results251 rfl (Gf _ _) (hT (Or.inr c7)) | exact Gb Tryz.results251 rfl (Gf _ _) (hF (fun e => e.elim c4 c7))
  refine qs 5 ?_
  first | exact Gb Tryz.results251 rfl (Gf _ _) (hT (Or.inl c4)) | exact Gb Tryz.results251 rfl (Gf _ _) (hT (Or.inr c7)) | exact Gb Tryz.results251 rfl (Gf _ _) (hF (fun e => e.elim c4 c7))
theorem rodd_c (l : List Ty) (t : Ty) (hwl : t.words.length ≤ 1000) (hk : ∀ k ∈ t.kids, 0 ≤ k ∧ k < l.length) (hwk : t.words.length = t.kids.length) {a a1 a2 : Option Addr} {k c k1 c1 k2 c2 : Nat} (mL : fL l a k c ∈ F) (m1 : fW t a1 k1 c1 ∈ F) (m2 : fK t a2 k2 c2 ∈ F)
    (hT : oddP l t → R (.bool true) L F) (hF : ¬ oddP l t → R (.bool false) L F) : ACalls Tryz.prog W0 218 #[.slice a k c, vTy t a1 k1 c1 a2 k2 c2] L F R := by
  have hzl := zips_len hwk
  refine Gg Tryz.func218 HZ Tryz.ntmps218 HZ ?_
  refine qs 2 ?_
  refine Ga (GL HZ HZ (fun b3 => ?_))
  refine qs 8 ?_
  refine Ga (Gt HZ HZ (fun hl10 => ?_) (hm := by repeat (first | exact mem0 | assumption | refine memS ?_)))
  refine qs 4 ?_
  refine GB (fun (q : Nat) => q ≤ t.words.length ∧ ∀ z ∈ (zips t).take q, markP z.1 → ¬ oddK l z.2) (fun q => [(0, .slice a k c), (3, .pointer (some ⟨b3, 0, none⟩)), (9, .slice a1 k1 c1), (10, .int .i64 t.words.length), (11, .int .i64 (q : Int))]) (fun _ => _) (fun _ => F) (fun q => t.words.length - q) 0 ⟨Nat.zero_le _, fun z hz => by simp at hz⟩ srA (Gf _ _) ?_
  rintro q ⟨hq, hno⟩
  refine qs 2 ?_
  refine Ga (Gw HZ HZ HZ (fun c12 => ?_) (fun c12 => ?_))
  ·refine qs 11 ?_
   have hqw : q < t.words.length := by omega
   have hqk : q < t.kids.length := by omega
   have hqz : q < (zips t).length := by omega
   have hz := zips_get hqw hqk hqz
   have hb := hk _ (List.getElem_mem hqk)
   have hkn : t.kids[q].toNat < l.length := by omega
   have hkt : kindAt l t.kids[q] = l[t.kids[q].toNat].kind := kind_get Jb hkn
   refine Ga (Gd HZ HZ HZ HZ (show fW t _ _ _ ∈ _ from memA) hqw (fun _ _ => ?_))
   refine Ga (Gs HZ HZ ?_)
   intros
   refine qs 9 ?_
   refine Ga (Gd HZ HZ HZ HZ (show fK t _ _ _ ∈ _ from memA) hqk (fun _ _ => ?_))
   refine Ga (Gs HZ HZ ?_)
   intros
   refine qs 6 ?_
   refine Ga (Ge HZ HZ (rmark2_c t.words[q] (fun c22 => ?_) (fun c22 => ?_)))
   ·refine qs 3 ?_
    refine Gc HZ HZ (Gd (k := t.kids[q].toNat) HZ HZ HZ Jb (enc := eTy) (lst := l) memA hkn (fun _ _ => ?_))
    refine Gc HZ HZ (Ha HZ HZ (fun _ => ?_))
    refine Gc HZ HZ (Gs HZ HZ ?_)
    intros
    refine Gc HZ HZ (Gr HZ HZ HZ (fun c29 => ?_) (fun c29 => ?_))
    ·refine qs 31 ?_
     refine Gb (L' := L) (F' := F) Tryz.results218 HZ subA (hT ⟨(zips t)[q], List.getElem_mem hqz, by rw [hz]; exact c22, ?_⟩)
     rw [hz]; simp only; rw [hkt]; omega
    refine qs 3 ?_
    refine Gc HZ HZ (Gd (k := t.kids[q].toNat) HZ HZ HZ Jb (enc := eTy) (lst := l) memA hkn (fun _ _ => ?_))
    refine Gc HZ HZ (Ha HZ HZ (fun _ => ?_))
    refine Gc HZ HZ (Gs HZ HZ ?_)
    intros
    refine Gc HZ HZ (Gr HZ HZ HZ (fun c36 => ?_) (fun c36 => ?_))
    ·refine qs 24 ?_
     refine Gb (L' := L) (F' := F) Tryz.results218 HZ subA (hT ⟨(zips t)[q], List.getElem_mem hqz, by rw [hz]; exact c22, ?_⟩)
     rw [hz]; simp only; rw [hkt]; omega
    refine qs 3 ?_
    refine Gc HZ HZ (GY HZ HZ HZ (fun c40 => ?_) (fun c40 => ?_))
    ·refine qs 2 ?_
     refine Gc HZ HZ (HG HZ HZ HZ (fun c43 => ?_) (fun c43 => ?_))
     ·refine qs 17 ?_
      refine Gb (L' := L) (F' := F) Tryz.results218 HZ subA (hT ⟨(zips t)[q], List.getElem_mem hqz, by rw [hz]; exact c22, ?_⟩)
      rw [hz]; simp only; rw [hkt]; omega
     refine qs 13 ?_
     have hodd : ¬ oddK l (zips t)[q].2 := by
      rw [hz]; simp only; unfold oddK; rw [hkt]; omega
     exact Gk (q + 1) ⟨by omega, HI hqz hno (fun _ => hodd)⟩ Jb srA subF
    refine qs 16 ?_
    have hodd : ¬ oddK l (zips t)[q].2 := by
     rw [hz]; simp only; unfold oddK; rw [hkt]; omega
    exact Gk (q + 1) ⟨by omega, HI hqz hno (fun _ => hodd)⟩ Jb srA subF
   refine qs 34 ?_
   exact Gk (q + 1) ⟨by omega, HI hqz hno (fun hm => absurd hm (by rw [hz]; exact c22))⟩ Jb srA subF
  refine qs 15 ?_
  have hq9 : (zips t).take q = zips t := List.take_of_length_le Jb
  rw [hq9] at hno
  exact Gb (L' := L) (F' := F) Tryz.results218 rfl subA (hF (odd_not hno))
theorem rterms_c (l : List Ty) (h400 : l.length ≤ 400) (t : Ty) (hkl : t.kids.length ≤ 20) (hk : ∀ k ∈ t.kids, 0 ≤ k ∧ k < l.length) (hwk : t.words.length = t.kids.length) {a a1 a2 : Option Addr} {k c k1 c1 k2 c2 : Nat} (mL : fL l a k c ∈ F) (m1 : fW t a1 k1 c1 ∈ F) (m2 : fK t a2 k2 c2 ∈ F)
    (h : ∀ a1 k1 c1 a2 k2 c2, R (vTy (termsT l.length t) a1 k1 c1 a2 k2 c2) L (fW (termsT l.length t) a1 k1 c1 :: fK (termsT l.length t) a2 k2 c2 :: F)) : ACalls Tryz.prog W0 219 #[.slice a k c, vTy t a1 k1 c1 a2 k2 c2] L F R := by
  have hml : 1000000 ≤ maxLen := by decide
  have hzl := zips_len hwk
  have hzin := zips_in hk
  refine Gg Tryz.func219 HZ Tryz.ntmps219 HZ ?_
  refine qs 2 ?_
  refine Ga (GL HZ HZ (fun b3 => (Ga (Gj HZ (fun b4 => ?_)))))
  refine qs 9 ?_
  refine Ga (Gj HZ (fun b5 => ?_))
  refine Ga (Gx HZ HZ HZ HZ ?_)
  refine GH (Hk (L' := Res.cells b5 #[.int .i64 t.kind, S [], .int .i64 t.n, .slice none 0 0, .slice none 0 0] 29 :: _) HZ) ?_
  refine GH ((GZ (e := 9) (sz := 1)).trans (GZ (e := 3) (sz := 1))) ?_
  refine qs 7 ?_
  refine Ga (Gt HZ HZ (fun hl19 => ?_) (hm := by repeat (first | exact mem0 | assumption | refine memS ?_)))
  refine qs 4 ?_
  refine GB (fun (x : Nat × (Option Addr × Nat × Nat) × (Option Addr × Nat × Nat)) => x.1 ≤ t.words.length) (fun x => [(0, .slice a k c), (3, .pointer (some ⟨b3, 0, none⟩)), (4, .pointer (some ⟨b4, 0, none⟩)), (5, .pointer (some ⟨b5, 0, none⟩)), (18, .slice a1 k1 c1), (19, .int .i64 t.words.length), (20, .int .i64 (x.1 : Int))]) (fun x => Res.own (.slice x.2.2.1 x.2.2.2.1 x.2.2.2.2) 3 1 (((declsR ((zips t).take x.1)).map (·.2)).map eI) :: Res.own (.slice x.2.1.1 x.2.1.2.1 x.2.1.2.2) 9 1 (((declsR ((zips t).take x.1)).map (·.1)).map eS) :: Res.cells b5 #[.int .i64 t.kind, S [], .int .i64 t.n, .slice x.2.1.1 x.2.1.2.1 x.2.1.2.2, .slice x.2.2.1 x.2.2.2.1 x.2.2.2.2] 29 :: _) (fun _ => F) (fun x => t.words.length - x.1) (0, (none, 0, 0), (none, 0, 0)) (Nat.zero_le _) srA (Gf _ _) ?_
  rintro ⟨q, ⟨aW, kW, cW⟩, ⟨aK, kK, cK⟩⟩ hq
  simp only at hq ⊢
  refine qs 2 ?_
  refine Ga (Gw HZ HZ HZ (fun c21 => ?_) (fun c21 => ?_))
  ·refine qs 11 ?_
   have hqw : q < t.words.length := by omega
   have hqk : q < t.kids.length := by omega
   have hqz : q < (zips t).length := by omega
   have hz := zips_get hqw hqk hqz
   have hdl := declsR_len ((zips t).take q)
   have hzt : ((zips t).take q).length = q := by rw [List.length_take]; omega
   refine Ga (Gd HZ HZ HZ HZ (show fW t _ _ _ ∈ _ from memA) hqw (fun _ _ => ?_))
   refine Ga (Gs HZ HZ ?_)
   intros
   refine qs 7 ?_
   refine Ga (Ge HZ HZ (rmark2_c t.words[q] (fun c26 => ?_) (fun c26 => ?_)))
   ·refine qs 11 ?_
    have hym : markP (zips t)[q].1 := by rw [hz]; exact c26
    rw [decl_no hqz hym]
    exact Gk (q + 1, (aW, kW, cW), (aK, kK, cK)) (by simp only; omega) (by simp only; omega) srA subF
   refine qs 9 ?_
   refine Ga (Gl HZ HZ HZ HZ HZ (fun b31 => ?_))
   refine Ga (GJ (i := 1) (enc := eS) (lst := (declsR ((zips t).take q)).map (·.1)) [t.words[q]] HZ HZ HZ HZ (.val .nil) HZ HZ (fun _ => rfl) (by simp only [List.length_map]; omega) (by simp only [List.length_map]; omega) (fun a32 k32 z32 => ?_))
   simp only [List.set_cons_zero, List.set_cons_succ]
   refine qs 4 ?_
   refine GP (fun i => Nat.beq i 10) [(b5, _, _), (b3, _, _)] bxA HZ (fun hx hX => ?_)
   have hkk := (Gu (hX (fK t a2 k2 c2) memA)).1
   obtain ⟨p2, o2, rfl, atq⟩ := GA (hX (fK t a2 k2 c2) memA) hqk
   obtain ⟨vq, hvq, hcq⟩ := atq 0 _ rfl
   cases hcq
   refine qt [0, 1, 2, 3, 4, 5] ?_
   refine GR (i := 6) HZ (Ho HZ hvq) Ja Ja HZ HZ HZ ?_
   refine Gm (i := 7) Ja HZ HZ (fun _ => ?_)
   refine Gl HZ HZ HZ HZ HZ (fun b41 => ?_)
   refine GH ((Hg (i := 0) (k := 1) (enc := eI) (sz := 1) [t.kids[q]] HZ (.val .nil) (fun _ => rfl) HZ Jb).trans Gv) ?_
   refine Gi bxA memB ?_
   refine Gm (i := 8) Ja HZ HZ (fun _ => ?_)
   refine GU (i := 0) (enc := eI) (lst := (declsR ((zips t).take q)).map (·.2)) (lst2 := [t.kids[q]]) HZ HZ HZ HZ memA (fun x d hd v hv => Hq hd hv) (fun _ => rfl) (by simp only [List.length_map, List.length_cons, List.length_nil]; omega) (by simp only [List.length_map, List.length_cons, List.length_nil]; omega) (fun a42 k42 z42 => ?_)
   simp only [List.set_cons_zero, List.set_cons_succ]
   refine Gi bxA memB ?_
   refine qt [9] ?_
   refine Gm (i := 10) Ja HZ HZ (fun _ => ?_)
   refine GM HZ HZ HZ ?_
   refine GC HZ ?_
   refine Gq Ja ?_
   refine qs 6 ?_
   have hnm : ¬ markP (zips t)[q].1 := by rw [hz]; exact c26
   have e1 : (declsR ((zips t).take q)).map (·.1) ++ [t.words[q]] = (declsR ((zips t).take (q + 1))).map (·.1) := by rw [← HR hqz hnm, hz]; simp
   have e2 : (declsR ((zips t).take q)).map (·.2) ++ [t.kids[q]] = (declsR ((zips t).take (q + 1))).map (·.2) := by rw [← HR hqz hnm, hz]; simp
   rw [e1, e2]
   exact Gk (q + 1, (a32, k32, z32), (a42, k42, z42)) (by simp only; omega) (by simp only; omega) srA subF
  refine qs 13 ?_
  have hq9 : (zips t).take q = zips t := List.take_of_length_le Jb
  rw [hq9]
  have hdl := declsR_len (zips t)
  refine Ga (Gt HZ HZ (fun hl46 => ?_) (enc := eTy) (lst := l) (hm := memA))
  refine qs 4 ?_
  refine GB (fun (x : Nat × (Option Addr × Nat × Nat) × (Option Addr × Nat × Nat)) => x.1 ≤ l.length) (fun x => [(3, .pointer (some ⟨b3, 0, none⟩)), (4, .pointer (some ⟨b4, 0, none⟩)), (5, .pointer (some ⟨b5, 0, none⟩)), (46, .int .i64 l.length), (47, .int .i64 (x.1 : Int))]) (fun x => Res.own (.slice x.2.2.1 x.2.2.2.1 x.2.2.2.2) 3 1 (((declsR (zips t) ++ termsR x.1 (zips t)).map (·.2)).map eI) :: Res.own (.slice x.2.1.1 x.2.1.2.1 x.2.1.2.2) 9 1 (((declsR (zips t) ++ termsR x.1 (zips t)).map (·.1)).map eS) :: Res.cells b5 #[.int .i64 t.kind, S [], .int .i64 t.n, .slice x.2.1.1 x.2.1.2.1 x.2.1.2.2, .slice x.2.2.1 x.2.2.2.1 x.2.2.2.2] 29 :: _) (fun _ => F) (fun x => l.length - x.1) (0, (aW, kW, cW), (aK, kK, cK)) (Nat.zero_le _) srA (Hk (by rw [show termsR 0 (zips t) = [] from rfl, List.append_nil])) ?_
  rintro ⟨p, ⟨aW, kW, cW⟩, ⟨aK, kK, cK⟩⟩ hp
  simp only at hp ⊢
  have hrl := termsR_le (zs := zips t) p
  have hal : (declsR (zips t) ++ termsR p (zips t)).length ≤ 430 := by rw [List.length_append]; omega
  refine qs 2 ?_
  refine Ga (Gw HZ HZ HZ (fun c48 => ?_) (fun c48 => ?_))
  ·refine qs 24 ?_
   refine Ga (Gt HZ HZ (fun hl52 => ?_) (hm := by repeat (first | exact mem0 | assumption | refine memS ?_)))
   refine qs 4 ?_
   refine GB (fun (v : Nat) => v ≤ t.words.length) (fun v => [(3, .pointer (some ⟨b3, 0, none⟩)), (4, .pointer (some ⟨b4, 0, none⟩)), (5, .pointer (some ⟨b5, 0, none⟩)), (46, .int .i64 l.length), (47, .int .i64 (p : Int)), (8, .int .i64 (p : Int)), (9, S (markOf ((zips t).take v) (p : Int))), (51, .slice a1 k1 c1), (52, .int .i64 t.words.length), (53, .int .i64 (v : Int))]) (fun _ => _) (fun _ => F) (fun v => t.words.length - v) 0 (Nat.zero_le _) srA (Gf _ _) ?_
   rintro v hv
   refine qs 2 ?_
   refine Ga (Gw HZ HZ HZ (fun c54 => ?_) (fun c54 => ?_))
   ·refine qs 11 ?_
    have hvw : v < t.words.length := by omega
    have hvk : v < t.kids.length := by omega
    have hvz : v < (zips t).length := by omega
    have hz := zips_get hvw hvk hvz
    refine Ga (Gd HZ HZ HZ HZ (show fW t _ _ _ ∈ _ from memA) hvw (fun _ _ => ?_))
    refine Ga (Gs HZ HZ ?_)
    intros
    refine qs 7 ?_
    refine Ga (Ge HZ HZ (rmark2_c t.words[v] (fun c59 => ?_) (fun c59 => ?_)))
    ·refine qs 4 ?_
     refine Gc HZ HZ (Gd HZ HZ HZ HZ (show fK t _ _ _ ∈ _ from memA) hvk (fun _ _ => ?_))
     refine Gc HZ HZ (Gs HZ HZ ?_)
     intros
     refine qs 1 ?_
     refine Gc HZ HZ (Gr HZ HZ HZ (fun c67 => ?_) (fun c67 => ?_))
     ·refine qs 3 ?_
      refine Gc HZ HZ (AO.neqS HZ HZ HZ (fun c71 => ?_) (fun c71 => ?_))
      ·refine qs 14 ?_
       have e4 : t.words[v] = markOf ((zips t).take (v + 1)) (p : Int) := by rw [mark_step hvz, hz, if_pos ⟨c59, c67, c71⟩]
       rw [e4]
       exact Gk (v + 1) Jb Jb srA subF
      refine qs 11 ?_
      have e4 : markOf ((zips t).take v) (p : Int) = markOf ((zips t).take (v + 1)) (p : Int) := by rw [mark_step hvz, hz, if_neg (fun h => h.2.2 c71)]
      rw [e4]
      exact Gk (v + 1) Jb Jb srA subF
     refine qs 15 ?_
     have e4 : markOf ((zips t).take v) (p : Int) = markOf ((zips t).take (v + 1)) (p : Int) := by rw [mark_step hvz, hz, if_neg (fun h => c67 h.2.1)]
     rw [e4]
     exact Gk (v + 1) Jb Jb srA subF
    refine qs 23 ?_
    have e4 : markOf ((zips t).take v) (p : Int) = markOf ((zips t).take (v + 1)) (p : Int) := by rw [mark_step hvz, hz, if_neg (fun h => c59 h.1)]
    rw [e4]
    exact Gk (v + 1) Jb Jb srA subF
   refine qs 12 ?_
   have hv9 : (zips t).take v = zips t := List.take_of_length_le Jb
   rw [hv9]
   refine Ga (AO.neqS HZ HZ HZ (fun c76 => ?_) (fun c76 => ?_))
   ·refine qs 8 ?_
    refine Ga (Gl HZ HZ HZ HZ HZ (fun b80 => ?_))
    refine Ga (GJ (i := 1) (enc := eS) (lst := (declsR (zips t) ++ termsR p (zips t)).map (·.1)) [markOf (zips t) (p : Int)] HZ HZ HZ HZ (.val .nil) HZ HZ (fun _ => rfl) (by simp only [List.length_map]; omega) (by simp only [List.length_map]; omega) (fun a81 k81 z81 => ?_))
    simp only [List.set_cons_zero, List.set_cons_succ]
    refine qs 8 ?_
    refine Ga (Gl HZ HZ HZ HZ HZ (fun b86 => ?_))
    refine Ga (GJ (i := 0) (enc := eI) (lst := (declsR (zips t) ++ termsR p (zips t)).map (·.2)) [(p : Int)] HZ HZ HZ HZ (.val .nil) HZ HZ (fun _ => rfl) (by simp only [List.length_map]; omega) (by simp only [List.length_map]; omega) (fun a87 k87 z87 => ?_))
    simp only [List.set_cons_zero, List.set_cons_succ]
    refine qs 9 ?_
    have e5 : termsR (p + 1) (zips t) = termsR p (zips t) ++ [(markOf (zips t) (p : Int), (p : Int))] := by rw [termsR_step, if_neg c76]
    have e6 : (declsR (zips t) ++ termsR p (zips t)).map (·.1) ++ [markOf (zips t) (p : Int)] = (declsR (zips t) ++ termsR (p + 1) (zips t)).map (·.1) := by rw [e5]; simp
    have e7 : (declsR (zips t) ++ termsR p (zips t)).map (·.2) ++ [(p : Int)] = (declsR (zips t) ++ termsR (p + 1) (zips t)).map (·.2) := by rw [e5]; simp
    rw [e6, e7]
    exact Gk (p + 1, (a81, k81, z81), (a87, k87, z87)) (by simp only; omega) (by simp only; omega) srA subF
   refine qs 10 ?_
   have e5 : termsR p (zips t) = termsR (p + 1) (zips t) := by rw [termsR_step, if_pos c76, List.append_nil]
   rw [e5]
   exact Gk (p + 1, (aW, kW, cW), (aK, kK, cK)) (by simp only; omega) (by simp only; omega) srA subF
  refine qs 11 ?_
  have hp9 : p = l.length := by omega
  subst hp9
  refine GH ((Gz (i := 0) HZ).trans (Gz (i := 1) HZ)) ?_
  simp only [List.set_cons_zero, List.set_cons_succ]
  refine Ga (HD HZ HZ ?_)
  refine qs 4 ?_
  exact Gn (rs := [.cell 4 _]) (L' := L) (F' := fW (termsT l.length t) _ _ _ :: fK (termsT l.length t) _ _ _ :: F) Tryz.results219 (.agg (j := 3) rfl rfl rfl .nil) (Sub.drop.trans (Sub.drop.trans (Sub.drop.trans (Sub.drop.trans (Sub.drop.trans (Gh (mem2 memA memA (fun x hx => by repeat (first | exact hx | refine List.mem_cons_of_mem _ ?_))))))))) (h _ _ _ _ _ _)
end
end Go.Sy
namespace Go.Sy
open Go Go.Proofs Go.RowKit
theorem bool_cases {p : Bool → Prop} {b : Bool} (h1 : b = true → p true) (h2 : b = false → p false) : p b := by
  cases b
  · exact h2 rfl
  exact h1 rfl
theorem mapTake {ins ks : List Int} {v : Nat} (hv : v < ks.length) : (ks.take v).map (fun k => ins.getD k.toNat 0) ++ [ins.getD ks[v].toNat 0] = (ks.take (v + 1)).map (fun k => ins.getD k.toNat 0) := by
  rw [List.take_succ_eq_append_getElem hv, List.map_append]; rfl
theorem args_step {l : List Ty} {args : List Int} {u : Nat} (hu : u < args.length) (h : ∀ j (hj : j < args.length), j < u → 0 ≤ args[j] ∧ args[j] < l.length) (h2 : 0 ≤ args[u] ∧ args[u] < l.length) : ∀ j (hj : j < args.length), j < u + 1 → 0 ≤ args[j] ∧ args[j] < l.length := by
  intro j hj hju
  rcases Nat.lt_succ_iff_lt_or_eq.1 hju with k | rfl
  · exact h j hj k
  exact h2
attribute [local irreducible] AC AT AO AK AH ACalls Sub Res.cells Res.obj Res.nix Res.own Res.map Exit.then Exit.inBlock bodyPost Code.wp Code.wpIn WL Next Post Kont
section
variable {W0 : World} {L : List Res} {F : List Fact} {R : Value → List Res → List Fact → Prop}
set_option maxRecDepth 100000
set_option maxHeartbeats 16000000
theorem rsubst_c (l : List Ty) (hr : rightP l) (n : Nat) (hn : n < l.length) (args : List Int) (hargs : args.length ≤ 1000) {a a2 : Option Addr} {k c k2 c2 : Nat} (mL : fL l a k c ∈ F) (mA : fI args a2 k2 c2 ∈ F) (mN : Fact.slc (.slice none 0 0) 5 [] ∈ F)
    (h3 : ∀ e, subR l n args = .error e → R (.agg #[.slice none 0 0, .int .i64 0, .int .i64 e]) L (fL [] none 0 0 :: F))
    (h4 : ∀ o q a k c, subR l n args = .ok (o, q) → R (.agg #[.slice a k c, .int .i64 q, .int .i64 0]) L (fL o a k c :: F)) :
    ACalls Tryz.prog W0 186 #[.slice a k c, .int .i64 (n : Int), .slice a2 k2 c2] L F R := by
  have h400 := hr.2.1
  have hAl := asks_len l (n + 1) Jb
  have hAget := GK (l := asksL (l.take (n + 1))) (0 : Int) (q := n) Jb
  have hMl : (partsL l n).length = n + 1 := partsN_len l n (n + 1)
  refine Gg Tryz.func186 HZ Tryz.ntmps186 HZ ?_
  refine qs 2 ?_
  refine Ga (Gj HZ (fun b6 => ?_))
  refine qs 6 ?_
  refine Ga (Ge HZ HZ (rasks_c l hr n hn memA (fun a21 k21 z21 => ?_)))
  refine qs 7 ?_
  refine Ga (Gt HZ HZ (fun hl23 => ?_) (enc := eI) (lst := args) (hm := (show fI args a2 k2 c2 ∈ _ from memA)))
  refine qs 2 ?_
  refine Ga (Gd (k := n) HZ HZ HZ HZ (enc := eI) (lst := asksL (l.take (n + 1))) memA Jb (fun _ _ => ?_))
  rw [← hAget]
  refine Ga (Gs HZ HZ ?_)
  intros
  refine Ga (Gw HZ HZ HZ (fun c28 => ?_) (fun c28 => ?_))
  ·refine qs 5 ?_
   refine Ga (GO HZ HZ HZ ?_)
   refine qs 5 ?_
   exact Gn (rs := [.cell 6 _]) (L' := L) (F' := fL [] none 0 0 :: F) Tryz.results186 (.agg (j := 0) rfl rfl rfl .nil) (Sub.drop.trans (Gh (mem1 memA (fun x hx => by repeat (first | exact hx | refine List.mem_cons_of_mem _ ?_))))) (h3 1 (subR_bad (.inl c28)))
  refine qs 9 ?_
  refine Ga (Gt HZ HZ (fun hl31 => ?_) (enc := eI) (lst := args) (hm := (show fI args a2 k2 c2 ∈ _ from memA)))
  refine qs 4 ?_
  refine GB (fun (u : Nat) => u ≤ args.length ∧ ∀ j (hj : j < args.length), j < u → 0 ≤ args[j] ∧ args[j] < l.length) (fun u => [(0, .slice a k c), (1, .int .i64 (n : Int)), (2, .slice a2 k2 c2), (6, .pointer (some ⟨b6, 0, none⟩)), (7, .slice a21 k21 z21), (30, .slice a2 k2 c2), (31, .int .i64 args.length), (32, .int .i64 (u : Int))]) (fun _ => _) (fun _ => _) (fun u => args.length - u) 0 ⟨Nat.zero_le _, fun j hj h => absurd h Jb⟩ srA (Gf _ _) ?_
  rintro u ⟨hu, hgo⟩
  refine qs 2 ?_
  refine Ga (Gw HZ HZ HZ (fun c33 => ?_) (fun c33 => ?_))
  ·refine qs 10 ?_
   have hul : u < args.length := by omega
   refine Ga (Gd HZ HZ HZ HZ (show fI args a2 k2 c2 ∈ _ from memA) hul (fun _ _ => ?_))
   refine Ga (Gs HZ HZ ?_)
   intros
   refine qs 6 ?_
   refine Ga (Gw HZ HZ HZ (fun c37 => ?_) (fun c37 => ?_))
   ·refine qs 11 ?_
    refine Ga (GO HZ HZ HZ ?_)
    refine qs 9 ?_
    exact Gn (rs := [.cell 6 _]) (L' := L) (F' := fL [] none 0 0 :: F) Tryz.results186 (.agg (j := 0) rfl rfl rfl .nil) (Sub.drop.trans (Gh (mem1 memA (fun x hx => by repeat (first | exact hx | refine List.mem_cons_of_mem _ ?_))))) (h3 1 (subR_bad (.inr ⟨args[u], List.getElem_mem hul, by omega⟩)))
   refine qs 3 ?_
   refine Gc HZ HZ (Gt HZ HZ (fun hl41 => ?_) (enc := eTy) (lst := l) (hm := (show fL l a k c ∈ _ from memA)))
   refine Gc HZ HZ (GY HZ HZ HZ (fun c42 => ?_) (fun c42 => ?_))
   ·refine qs 6 ?_
    refine Ga (GO HZ HZ HZ ?_)
    refine qs 9 ?_
    exact Gn (rs := [.cell 6 _]) (L' := L) (F' := fL [] none 0 0 :: F) Tryz.results186 (.agg (j := 0) rfl rfl rfl .nil) (Sub.drop.trans (Gh (mem1 memA (fun x hx => by repeat (first | exact hx | refine List.mem_cons_of_mem _ ?_))))) (h3 1 (subR_bad (.inr ⟨args[u], List.getElem_mem hul, by omega⟩)))
   refine qs 11 ?_
   exact Gk (u + 1) ⟨by omega, args_step hul hgo Jb⟩ Jb srA subF
  refine qs 13 ?_
  have hgood : ∀ a ∈ args, 0 ≤ a ∧ a < l.length := fun x hx => by
   obtain ⟨j, hj, rfl⟩ := List.getElem_of_mem hx
   exact hgo j hj Jb
  have hnb : ¬ badArgs l n args := not_bad hgood Jb
  refine Ga (Ge HZ HZ (rparts_c l hr n hn (show fL l a k c ∈ _ from memA) (fun a48 k48 z48 => ?_)))
  refine qs 5 ?_
  refine Ga (He HZ (fun b49 => ?_))
  refine GH (Hz (i := 0) (k := 0) (sz := 1) (enc := eI) [] HZ .nil (fun _ => rfl) HZ (by decide)) ?_
  refine qs 15 ?_
  refine Ga (AO.sliceH (j' := n + 1) HZ HZ HZ Jb (enc := eTy) (lst := l) (show fL l a k c ∈ _ from memA) Jb (fun a54 k54 c54 => ?_))
  have htl : (l.take (n + 1)).length = n + 1 := by rw [List.length_take]; omega
  refine Ga (Gt HZ HZ (fun hl55 => ?_) (enc := eTy) (lst := l.take (n + 1)) (hm := memA))
  refine qs 4 ?_
  refine GB (fun (x : Nat × (List Ty × List Int) × (Option Addr × Nat × Nat) × (Option Addr × Nat × Nat)) => x.1 ≤ n + 1 ∧ subN l args (asksL (l.take (n + 1))) (partsL l n) x.1 = .ok (x.2.1.1, x.2.1.2) ∧ SubOk l x.1 x.2.1.1 x.2.1.2) (fun x => [(0, .slice a k c), (1, .int .i64 (n : Int)), (2, .slice a2 k2 c2), (6, .pointer (some ⟨b6, 0, none⟩)), (7, .slice a21 k21 z21), (10, .slice a48 k48 z48), (11, .slice x.2.2.1.1 x.2.2.1.2.1 x.2.2.1.2.2), (12, .slice x.2.2.2.1 x.2.2.2.2.1 x.2.2.2.2.2), (54, .slice a54 k54 c54), (55, .int .i64 (l.take (n + 1)).length), (56, .int .i64 (x.1 : Int))]) (fun x => Res.own (.slice x.2.2.1.1 x.2.2.1.2.1 x.2.2.1.2.2) 3 1 (x.2.1.2.map eI) :: _) (fun x => fL x.2.1.1 x.2.2.2.1 x.2.2.2.2.1 x.2.2.2.2.2 :: _) (fun x => n + 1 - x.1) (0, (l, []), (some ⟨b49, 0, none⟩, 0, 0), (a, k, c)) ⟨Nat.zero_le _, rfl, ⟨hr, List.prefix_rfl, rfl, fun p hp => absurd hp (by simp)⟩⟩ srA (Gh (mem1 memA (fun x hx => hx))) ?_
  rintro ⟨q, ⟨out, ins⟩, ⟨aI, kI, cI⟩, ⟨aO, kO, cO⟩⟩ ⟨hq, hs, hso⟩
  simp only at hq hs hso ⊢
  refine qs 2 ?_
  refine Ga (Gw HZ HZ HZ (fun c57 => ?_) (fun c57 => ?_))
  ·refine qs 11 ?_
   have hqn : q < n + 1 := by omega
   have hql : q < l.length := by omega
   have hqt : q < (l.take (n + 1)).length := by omega
   have hget : (l.take (n + 1))[q] = l[q] := List.getElem_take
   have hqA : q < (asksL (l.take (n + 1))).length := by omega
   have hqM : q < (partsL l n).length := by omega
   have hMq := GK false hqM
   have hAq := GK (0 : Int) hqA
   have hrt := GT hr hql
   have hout := hso.right.2.1
   have hol := hso.pre.length_le
   have hil := hso.len
   have hkf := hrt.few
   refine Ga (Gd HZ HZ HZ HZ (enc := eTy) (lst := l.take (n + 1)) memA hqt (fun _ _ => ?_))
   rw [hget]
   refine Ga (GN HZ HZ ?_)
   intro a60 k60 z60 d60 e60 f60
   refine Ga (Gj HZ (fun b14 => ?_))
   refine qs 9 ?_
   refine Ga (Gd HZ HZ HZ HZ (enc := eBl) (lst := partsL l n) memA hqM (fun _ _ => ?_))
   rw [← hMq]
   refine Ga (Gs HZ HZ ?_)
   refine bool_cases (b := (partsL l n).getD q false) (p := fun b => AT _ _ _ ((_, .bool b) :: _) _ _) (fun hM => ?_) (fun hM => ?_)
   ·refine qs 4 ?_
    refine Gc HZ HZ (Gd HZ HZ HZ HZ (enc := eI) (lst := asksL (l.take (n + 1))) memA hqA (fun _ _ => ?_))
    rw [← hAq]
    refine Gc HZ HZ (Gs HZ HZ ?_)
    intros
    refine Gc HZ HZ (Gr HZ HZ HZ (fun c71 => ?_) (fun c71 => ?_))
    ·refine qs 8 ?_
     refine Ga (Gl HZ HZ HZ HZ HZ (fun b75 => ?_))
     refine Ga (GJ (i := 1) (enc := eI) (lst := ins) [(q : Int)] HZ HZ HZ HZ (.val .nil) HZ HZ (fun _ => rfl) (by simp only [maxLen]; omega) Jb (fun a76 k76 z76 => ?_))
     simp only [List.set_cons_zero, List.set_cons_succ]
     refine qs 11 ?_
     exact Gk (q + 1, (out, ins ++ [(q : Int)]), (a76, k76, z76), (aO, kO, cO)) ⟨by simp only; omega, sub_out hs (.inr c71), hso.step hso.right List.prefix_rfl (by simp only; omega)⟩ (by simp only; omega) srA (Sub.drop.trans (Gh (mem1 memA (fun x hx => by repeat (first | exact hx | refine List.mem_cons_of_mem _ ?_)))))
    refine qs 11 ?_
    refine Ga (Gr HZ HZ HZ (fun c79 => ?_) (fun c79 => ?_))
    ·refine qs 9 ?_
     have hp9 := hrt.param c79
     have hask := parts_ask hr hn (n + 1) (Nat.le_refl _) hM
     have hA9 : (asksL (l.take (n + 1))).getD q 0 = l[q].n + 1 := by
      rw [asks_at hn Jb]; unfold ask1 ask0; rw [if_pos c79, hp9.2.2]; rfl
     have hna : l[q].n.toNat < args.length := by omega
     have hga := GK (0 : Int) hna
     have hgr := hgood _ (List.getElem_mem hna)
     refine Ga (Gd (k := l[q].n.toNat) HZ HZ HZ Jb (show fI args a2 k2 c2 ∈ _ from memA) hna (fun _ _ => ?_))
     rw [← hga]
     refine Ga (Gs HZ HZ ?_)
     intros
     refine Ga (Gl HZ HZ HZ HZ HZ (fun b86 => ?_))
     refine Ga (GJ (i := 1) (enc := eI) (lst := ins) [args.getD l[q].n.toNat 0] HZ HZ HZ HZ (.val .nil) HZ HZ (fun _ => rfl) (by simp only [maxLen]; omega) Jb (fun a87 k87 z87 => ?_))
     simp only [List.set_cons_zero, List.set_cons_succ]
     refine qs 11 ?_
     exact Gk (q + 1, (out, ins ++ [args.getD l[q].n.toNat 0]), (a87, k87, z87), (aO, kO, cO)) ⟨by simp only; omega, sub_param hs hM c71 hql c79, hso.step hso.right List.prefix_rfl (by simp only; rw [hga]; omega)⟩ (by simp only; omega) srA (Sub.drop.trans (Gh (mem1 memA (fun x hx => by repeat (first | exact hx | refine List.mem_cons_of_mem _ ?_)))))
    refine qs 7 ?_
    refine Ga (He HZ (fun b88 => ?_))
    refine GH (Hz (i := 0) (k := 0) (sz := 1) (enc := eI) [] HZ .nil (fun _ => rfl) HZ (by decide)) ?_
    refine qs 8 ?_
    refine Ga (Gt HZ HZ (fun hl91 => ?_) (enc := eI) (lst := l[q].kids) (hm := (show fK l[q] _ _ _ ∈ _ from memA)))
    refine qs 4 ?_
    refine GB (fun (x : Nat × (Option Addr × Nat × Nat)) => x.1 ≤ l[q].kids.length) (fun x => [(0, .slice a k c), (1, .int .i64 (n : Int)), (2, .slice a2 k2 c2), (6, .pointer (some ⟨b6, 0, none⟩)), (7, .slice a21 k21 z21), (10, .slice a48 k48 z48), (11, .slice aI kI cI), (12, .slice aO kO cO), (54, .slice a54 k54 c54), (55, .int .i64 (l.take (n + 1)).length), (56, .int .i64 (q : Int)), (14, .pointer (some ⟨b14, 0, none⟩)), (15, .slice x.2.1 x.2.2.1 x.2.2.2), (90, .slice d60 e60 f60), (91, .int .i64 l[q].kids.length), (92, .int .i64 (x.1 : Int))]) (fun x => Res.own (.slice x.2.1 x.2.2.1 x.2.2.2) 3 1 (((l[q].kids.take x.1).map (fun k => ins.getD k.toNat 0)).map eI) :: _) (fun _ => _) (fun x => l[q].kids.length - x.1) (0, (some ⟨b88, 0, none⟩, 0, 0)) (Nat.zero_le _) srA (Gf _ _) ?_
    rintro ⟨v, ⟨a15, k15, c15⟩⟩ hv
    simp only at hv ⊢
    refine qs 2 ?_
    refine Ga (Gw HZ HZ HZ (fun c93 => ?_) (fun c93 => ?_))
    ·refine qs 10 ?_
     have hvl : v < l[q].kids.length := by omega
     have hb := hrt.kids _ (List.getElem_mem hvl)
     have hki : l[q].kids[v].toNat < ins.length := by omega
     refine Ga (Gd HZ HZ HZ HZ (show fK l[q] _ _ _ ∈ _ from memA) hvl (fun _ _ => ?_))
     refine Ga (Gs HZ HZ ?_)
     intros
     refine qs 7 ?_
     refine Ga (Hb (i := 2) (q := l[q].kids[v].toNat) HZ HZ HZ Jb HZ (by rw [List.length_map]; exact hki) (fun bo ho => ?_))
     subst ho
     refine Ga (AO.loadO (i := 2) (q := l[q].kids[v].toNat) HZ HZ HZ HZ (eI_get hki) ?_)
     refine Ga (Gl HZ HZ HZ HZ HZ (fun b101 => ?_))
     refine Ga (GJ (i := 0) (enc := eI) (lst := (l[q].kids.take v).map (fun k => ins.getD k.toNat 0)) [ins.getD l[q].kids[v].toNat 0] HZ HZ HZ HZ (.val .nil) HZ HZ (fun _ => rfl) (by simp only [List.length_map, List.length_take, maxLen]; omega) (by simp only [List.length_map, List.length_take]; omega) (fun a102 k102 z102 => ?_))
     simp only [List.set_cons_zero]
     rw [mapTake hvl]
     refine qs 8 ?_
     exact Gk (v + 1, (a102, k102, z102)) (by simp only; omega) (by simp only; omega) srA subF
    refine qs 11 ?_
    have hkd : ∀ k ∈ (mapK ins l[q]).kids, 0 ≤ k ∧ k < out.length := mapK_kids hso.ins hrt.kids
    have htok : TyOk (mapK ins l[q]) := mapK_ok hout (Hj hr _ (List.getElem_mem hql)) hkd
    have hput := sub_put hs hM c71 hql c79
    have hv9 : l[q].kids.take v = l[q].kids := List.take_of_length_le Jb
    rw [hv9]
    refine GH ((Gz (i := 0) HZ).trans Gv) ?_
    refine Ga (HV HZ HZ ?_)
    refine qs 9 ?_
    refine Ga (Gr HZ HZ HZ (fun c108 => ?_) (fun c108 => ?_))
    ·refine qs 8 ?_
     have hwk : (mapK ins l[q]).words.length = (mapK ins l[q]).kids.length := by unfold mapK; simp only [List.length_map]; exact hrt.iface c108
     have hwl : (mapK ins l[q]).words.length ≤ 1000 := by have := htok.words; omega
     refine Ga (Ge HZ HZ (rodd_c out (mapK ins l[q]) hwl hkd hwk (show fL out aO kO cO ∈ _ from memA) (show fW (mapK ins l[q]) _ _ _ ∈ _ from memA) (show fK (mapK ins l[q]) _ _ _ ∈ _ from memA) (fun c111 => ?_) (fun c111 => ?_)))
     ·refine qs 5 ?_
      refine Ga (GO HZ HZ HZ ?_)
      refine qs 11 ?_
      exact Gn (rs := [.cell 6 _]) (L' := L) (F' := fL [] none 0 0 :: F) Tryz.results186 (.agg (j := 2) rfl rfl rfl .nil) (Sub.drop.trans (Sub.drop.trans (Sub.drop.trans (Gh (mem1 memA (fun x hx => by repeat (first | exact hx | refine List.mem_cons_of_mem _ ?_))))))) (h3 11 (HT hnb hqn (hput.trans (put_odd c108 c111))))
     refine qs 8 ?_
     refine Ga (Ge HZ HZ (rterms_c out hout (mapK ins l[q]) htok.kids hkd hwk (show fL out aO kO cO ∈ _ from memA) (show fW (mapK ins l[q]) _ _ _ ∈ _ from memA) (show fK (mapK ins l[q]) _ _ _ ∈ _ from memA) (fun p1 p2 p3 p4 p5 p6 => ?_)))
     refine qs 7 ?_
     refine Ga (Ge HZ HZ (radd_c out Jb (termsT out.length (mapK ins l[q])) (termsT_ok hout htok hwk hkd) (show fL out aO kO cO ∈ _ from memA) (show fW (termsT out.length (mapK ins l[q])) p1 p2 p3 ∈ _ from memA) (show fK (termsT out.length (mapK ins l[q])) p4 p5 p6 ∈ _ from memA) (fun o2 i2 e2 a118 k118 c118 hP => ?_)))
     rw [put_iface (t := mapK ins l[q]) hso.right c108 c111 hP] at hput
     refine Ga (Gj HZ (fun b18 => ?_))
     refine qs 8 ?_
     refine Ga (GG HZ HZ HZ (fun c121 => ?_) (fun c121 => ?_))
     ·refine qs 7 ?_
      refine Ga (GO HZ HZ HZ ?_)
      refine qs 10 ?_
      rw [if_neg c121] at hput
      exact Gn (rs := [.cell 6 _]) (L' := L) (F' := fL [] none 0 0 :: F) Tryz.results186 (.agg (j := 3) rfl rfl rfl .nil) (Sub.drop.trans (Sub.drop.trans (Sub.drop.trans (Sub.drop.trans (Gh (mem1 memA (fun x hx => by repeat (first | exact hx | refine List.mem_cons_of_mem _ ?_)))))))) (h3 e2 (HT hnb Jb hput))
     refine qs 16 ?_
     refine Ga (Gl HZ HZ HZ HZ HZ (fun b130 => ?_))
     refine Ga (GJ (i := 2) (enc := eI) (lst := ins) [i2] HZ HZ HZ HZ (.val .nil) HZ HZ (fun _ => rfl) (by simp only [maxLen]; omega) Jb (fun a131 k131 z131 => ?_))
     simp only [List.set_cons_zero, List.set_cons_succ]
     refine qs 8 ?_
     rw [if_pos c121] at hput
     obtain ⟨hr2, hp2, hi2, hi3⟩ := add_pre hso.right hP c121
     exact Gk (q + 1, (o2, ins ++ [i2]), (a131, k131, z131), (a118, k118, c118)) ⟨by simp only; omega, hput, hso.step hr2 hp2 ⟨hi2, hi3⟩⟩ (by simp only; omega) srA (Sub.drop.trans (Sub.drop.trans (Gh (mem1 memA (fun x hx => by repeat (first | exact hx | refine List.mem_cons_of_mem _ ?_))))))
    refine qs 9 ?_
    refine Ga (Ge HZ HZ (radd_c out Jb (mapK ins l[q]) htok (show fL out aO kO cO ∈ _ from memA) (show fW (mapK ins l[q]) _ _ _ ∈ _ from memA) (show fK (mapK ins l[q]) _ _ _ ∈ _ from memA) (fun o2 i2 e2 a118 k118 c118 hP => ?_)))
    rw [put_plain (t := mapK ins l[q]) hso.right c108 hP] at hput
    refine Ga (Gj HZ (fun b18 => ?_))
    refine qs 8 ?_
    refine Ga (GG HZ HZ HZ (fun c121 => ?_) (fun c121 => ?_))
    ·refine qs 7 ?_
     refine Ga (GO HZ HZ HZ ?_)
     refine qs 10 ?_
     rw [if_neg c121] at hput
     exact Gn (rs := [.cell 6 _]) (L' := L) (F' := fL [] none 0 0 :: F) Tryz.results186 (.agg (j := 3) rfl rfl rfl .nil) (Sub.drop.trans (Sub.drop.trans (Sub.drop.trans (Sub.drop.trans (Gh (mem1 memA (fun x hx => by repeat (first | exact hx | refine List.mem_cons_of_mem _ ?_)))))))) (h3 e2 (HT hnb Jb hput))
    refine qs 16 ?_
    refine Ga (Gl HZ HZ HZ HZ HZ (fun b130 => ?_))
    refine Ga (GJ (i := 2) (enc := eI) (lst := ins) [i2] HZ HZ HZ HZ (.val .nil) HZ HZ (fun _ => rfl) (by simp only [maxLen]; omega) Jb (fun a131 k131 z131 => ?_))
    simp only [List.set_cons_zero, List.set_cons_succ]
    refine qs 8 ?_
    rw [if_pos c121] at hput
    obtain ⟨hr2, hp2, hi2, hi3⟩ := add_pre hso.right hP c121
    exact Gk (q + 1, (o2, ins ++ [i2]), (a131, k131, z131), (a118, k118, c118)) ⟨by simp only; omega, hput, hso.step hr2 hp2 ⟨hi2, hi3⟩⟩ (by simp only; omega) srA (Sub.drop.trans (Sub.drop.trans (Gh (mem1 memA (fun x hx => by repeat (first | exact hx | refine List.mem_cons_of_mem _ ?_))))))
   refine qs 15 ?_
   refine Ga (Gl HZ HZ HZ HZ HZ (fun b75 => ?_))
   refine Ga (GJ (i := 1) (enc := eI) (lst := ins) [(q : Int)] HZ HZ HZ HZ (.val .nil) HZ HZ (fun _ => rfl) (by simp only [maxLen]; omega) Jb (fun a76 k76 z76 => ?_))
   simp only [List.set_cons_zero, List.set_cons_succ]
   refine qs 11 ?_
   exact Gk (q + 1, (out, ins ++ [(q : Int)]), (a76, k76, z76), (aO, kO, cO)) ⟨by simp only; omega, sub_out hs (.inl hM), hso.step hso.right List.prefix_rfl (by simp only; omega)⟩ (by simp only; omega) srA (Sub.drop.trans (Gh (mem1 memA (fun x hx => by repeat (first | exact hx | refine List.mem_cons_of_mem _ ?_)))))
  refine qs 14 ?_
  have hq9 : q = n + 1 := by omega
  subst hq9
  have hil := hso.len
  refine Ga (Hb (i := 0) (q := n) HZ HZ HZ HZ HZ (by rw [List.length_map]; omega) (fun bo ho => ?_))
  subst ho
  refine Ga (AO.loadO (i := 0) (q := n) HZ HZ HZ HZ (eI_get Jb) ?_)
  refine Ga (GO HZ HZ HZ ?_)
  refine qs 4 ?_
  exact Gn (rs := [.cell 6 _]) (L' := L) (F' := fL out aO kO cO :: F) Tryz.results186 (.agg (j := 1) rfl rfl rfl .nil) (Sub.drop.trans (Sub.drop.trans (Gh (mem1 memA (fun x hx => by repeat (first | exact hx | refine List.mem_cons_of_mem _ ?_)))))) (h4 _ _ _ _ _ (subR_ok hnb hs))
end
end Go.Sy
namespace Go.Sy
open Go Go.Proofs Go.RowKit
attribute [local irreducible] AC AT AO AK AH ACalls Sub Res.cells Res.obj Res.nix Res.own Res.map Exit.then Exit.inBlock bodyPost Code.wp Code.wpIn WL Next Post Kont
section
variable {W0 : World} {L : List Res} {F : List Fact} {R : Value → List Res → List Fact → Prop}
set_option maxRecDepth 100000
set_option maxHeartbeats 16000000
theorem rtwofold_c (s : List UInt8) (hs : s.length < 4294967281) (hT : namedP s → R (.bool true) L F) (hF : ¬ namedP s → R (.bool false) L F) : ACalls Tryz.prog W0 119 #[S s] L F R := by
  refine Gg Tryz.func119 HZ Tryz.ntmps119 HZ ?_
  refine qs 12 ?_
  refine GB (fun k => k ≤ s.length ∧ ∀ j (hj : j < s.length), j < k → (s[j].toNat : Int) ≠ 46) (fun k => [(0, S s), (3, .int .i64 (k : Int))]) (fun _ => L) (fun _ => F) (fun k => s.length - k) 0 ⟨by omega, by omega⟩ srA (Gf _ _) ?_
  rintro k ⟨hk, hok⟩
  refine qs 6 ?_
  refine Ga (Gw HZ HZ HZ (fun c7 => ?_) (fun c7 => ?_))
  ·refine qs 11 ?_
   have hkl : k < s.length := by omega
   have hl1 : (s.take k).length ≤ s.length := by simp only [List.length_take]; omega
   have hl2 : (s.drop (k + 1)).length ≤ s.length := by simp only [List.length_drop]; omega
   refine Ga (HF HZ HZ HZ HZ hkl ?_)
   refine Ga (Gr HZ HZ HZ (fun c13 => ?_) (fun c13 => ?_))
   ·refine qs 7 ?_
    refine Ga (AO.sliceSH (j' := k) HZ HZ HZ HZ Jb ?_)
    refine Ga (Ge HZ HZ (rname_c (s.take k) Jb (fun c17 => ?_) (fun c17 => ?_)))
    ·refine qs 4 ?_
     refine Gc HZ HZ (AO.sliceSL (i' := k + 1) HZ HZ HZ Jb Jb ?_)
     refine Gc HZ HZ (Ge HZ HZ (rname_c (s.drop (k + 1)) Jb (fun c23 => ?_) (fun c23 => ?_)))
     ·refine qs 10 ?_
      first | refine Gb Tryz.results119 HZ (Gf _ _) (hT ?_) | refine Gb Tryz.results119 HZ (Gf _ _) (hF ?_)
      first
      | exact (HW hkl c13 hok).2 ⟨c17, c23⟩
      | (rw [HW hkl c13 hok]; exact fun e => absurd e.2 (by rw [c23]; decide))
      | (rw [HW hkl c13 hok]; exact fun e => absurd e.1 (by rw [c17]; decide))
      | exact named_none (fun j hj => hok j hj Jb)
     refine qs 10 ?_
     first | refine Gb Tryz.results119 HZ (Gf _ _) (hT ?_) | refine Gb Tryz.results119 HZ (Gf _ _) (hF ?_)
     first
     | exact (HW hkl c13 hok).2 ⟨c17, c23⟩
     | (rw [HW hkl c13 hok]; exact fun e => absurd e.2 (by rw [c23]; decide))
     | (rw [HW hkl c13 hok]; exact fun e => absurd e.1 (by rw [c17]; decide))
     | exact named_none (fun j hj => hok j hj Jb)
    refine qs 16 ?_
    first | refine Gb Tryz.results119 HZ (Gf _ _) (hT ?_) | refine Gb Tryz.results119 HZ (Gf _ _) (hF ?_)
    first
    | exact (HW hkl c13 hok).2 ⟨c17, c23⟩
    | (rw [HW hkl c13 hok]; exact fun e => absurd e.2 (by rw [c23]; decide))
    | (rw [HW hkl c13 hok]; exact fun e => absurd e.1 (by rw [c17]; decide))
    | exact named_none (fun j hj => hok j hj Jb)
   refine qs 11 ?_
   refine Gk (k + 1) ⟨by omega, ?_⟩ Jb srA (Gf _ _)
   intro j hj hjk
   rcases Nat.lt_succ_iff_lt_or_eq.1 hjk with h | rfl
   · exact hok j hj h
   exact c13
  refine qs 14 ?_
  first | refine Gb Tryz.results119 HZ (Gf _ _) (hT ?_) | refine Gb Tryz.results119 HZ (Gf _ _) (hF ?_)
  first
  | exact (HW hkl c13 hok).2 ⟨c17, c23⟩
  | (rw [HW hkl c13 hok]; exact fun e => absurd e.2 (by rw [c23]; decide))
  | (rw [HW hkl c13 hok]; exact fun e => absurd e.1 (by rw [c17]; decide))
  | exact named_none (fun j hj => hok j hj Jb)
theorem ruat_c (N : List Nmd) (s : List UInt8) {a a2 : Option Addr} {k c k2 c2 : Nat} (m2 : fN N a2 k2 c2 ∈ F)
    (hT : ∀ q : Nat, atN N s = some q → R (.int .i64 (q : Int)) L F) (hF : atN N s = none → R (.int .i64 (-1)) L F) : ACalls Tryz.prog W0 28 #[.agg #[.slice a k c, .slice a2 k2 c2], S s] L F R := by
  refine Gg Tryz.func28 HZ Tryz.ntmps28 HZ ?_
  refine qs 2 ?_
  refine Ga (GL HZ HZ (fun b2 => ?_))
  refine qs 8 ?_
  refine Ga (Gt HZ HZ (fun hl9 => ?_) (enc := eNm) (lst := N) (hm := m2))
  refine qs 4 ?_
  refine GB (fun (q : Nat) => q ≤ N.length ∧ ∀ j (hj : j < N.length), j < q → N[j].name ≠ s) (fun q => [(1, S s), (8, .slice a2 k2 c2), (9, .int .i64 N.length), (10, .int .i64 (q : Int))]) (fun _ => _) (fun _ => F) (fun q => N.length - q) 0 ⟨Nat.zero_le _, by omega⟩ srA (Gf _ _) ?_
  rintro q ⟨hq, hok⟩
  refine qs 2 ?_
  refine Ga (Gw HZ HZ HZ (fun c11 => ?_) (fun c11 => ?_))
  ·refine qs 11 ?_
   have hql : q < N.length := by omega
   refine Ga (Gd HZ HZ HZ HZ (enc := eNm) (lst := N) memA hql (fun _ _ => ?_))
   refine Ga (GN HZ HZ ?_)
   intro a14 k14 z14 d14 e14 f14
   refine Ga (Gj HZ (fun b6 => ?_))
   refine qs 9 ?_
   refine Ga (Hi HZ HZ HZ (fun c18 => ?_) (fun c18 => ?_))
   ·refine qs 15 ?_
    first | exact Gb (L' := L) (F' := F) Tryz.results28 rfl subA (hT q (atN_first hql c18 hok)) | exact Gb (L' := L) (F' := F) Tryz.results28 rfl subA (hF (atN_no (fun j hj => hok j hj Jb)))
   refine qs 10 ?_
   refine Gk (q + 1) ⟨by omega, fun j hj hjq => ?_⟩ Jb srA (Sub.drop.trans subF)
   rcases Nat.lt_succ_iff_lt_or_eq.1 hjq with k9 | rfl
   · exact hok j hj k9
   exact c18
  refine qs 15 ?_
  first | exact Gb (L' := L) (F' := F) Tryz.results28 rfl subA (hT q (atN_first hql c18 hok)) | exact Gb (L' := L) (F' := F) Tryz.results28 rfl subA (hF (atN_no (fun j hj => hok j hj Jb)))
theorem ris_c (T : List Ty) (i x : Int) {a a2 : Option Addr} {k c k2 c2 : Nat} (mL : fL T a k c ∈ F) (hT : isK T i x → R (.bool true) L F) (hF : ¬ isK T i x → R (.bool false) L F) : ACalls Tryz.prog W0 81 #[.agg #[.slice a k c, .slice a2 k2 c2], .int .i64 i, .int .i64 x] L F R := by
  refine Gg Tryz.func81 HZ Tryz.ntmps81 HZ ?_
  refine qs 2 ?_
  refine Ga (GL HZ HZ (fun b3 => ?_))
  refine qs 6 ?_
  refine Ga (GY HZ HZ HZ (fun c8 => ?_) (fun c8 => ?_))
  ·refine qs 4 ?_
   refine Gc HZ HZ (Gt HZ HZ (fun hl13 => ?_) (enc := eTy) (lst := T) (hm := memA))
   refine Gc HZ HZ (Gw HZ HZ HZ (fun c14 => ?_) (fun c14 => ?_))
   ·refine qs 5 ?_
    have hlt : i.toNat < T.length := by omega
    have hkt : kindAt T i = T[i.toNat].kind := kind_get Jb hlt
    refine Gc HZ HZ (Gd (k := i.toNat) HZ HZ HZ Jb (enc := eTy) (lst := T) memA hlt (fun _ _ => ?_))
    refine Gc HZ HZ (Ha HZ HZ (fun _ => ?_))
    refine Gc HZ HZ (Gs HZ HZ ?_)
    intros
    refine qs 1 ?_
    refine Gc HZ HZ (Gr HZ HZ HZ (fun c24 => ?_) (fun c24 => ?_))
    ·refine qs 5 ?_
     exact Gb (L' := L) (F' := F) Tryz.results81 rfl subA (hT ⟨by omega, by omega, hkt.trans c24⟩)
    refine qs 5 ?_
    exact Gb (L' := L) (F' := F) Tryz.results81 rfl subA (hF (fun e => c24 (hkt.symm.trans e.2.2)))
   refine qs 15 ?_
   exact Gb (L' := L) (F' := F) Tryz.results81 rfl subA (hF (fun e => absurd e.2.1 Jb))
  refine qs 21 ?_
  exact Gb (L' := L) (F' := F) Tryz.results81 rfl subA (hF (fun e => absurd e.1 Jb))
theorem rfewU_c (T : List Ty) (hr : rightP T) (i most : Int) {a a2 : Option Addr} {k c k2 c2 : Nat} (mL : fL T a k c ∈ F) (hT : fewA T i most → R (.bool true) L F) (hF : ¬ fewA T i most → R (.bool false) L F) : ACalls Tryz.prog W0 120 #[.agg #[.slice a k c, .slice a2 k2 c2], .int .i64 i, .int .i64 most] L F R := by
  refine Gg Tryz.func120 HZ Tryz.ntmps120 HZ ?_
  refine qs 2 ?_
  refine Ga (GL HZ HZ (fun b3 => ?_))
  refine qs 7 ?_
  refine Ga (Gw HZ HZ HZ (fun c8 => ?_) (fun c8 => ?_))
  ·refine qs 17 ?_
   exact Gb (L' := L) (F' := F) Tryz.results120 rfl subA (hF (fun e => absurd e.1 Jb))
  refine qs 4 ?_
  refine Gc HZ HZ (Gt HZ HZ (fun hl13 => ?_) (enc := eTy) (lst := T) (hm := memA))
  refine Gc HZ HZ (GY HZ HZ HZ (fun c14 => ?_) (fun c14 => ?_))
  ·refine qs 11 ?_
   exact Gb (L' := L) (F' := F) Tryz.results120 rfl subA (hF (fun e => absurd e.2.1 Jb))
  refine qs 11 ?_
  obtain ⟨m, rfl⟩ : ∃ m : Nat, i = (m : Int) := ⟨i.toNat, by omega⟩
  have hml : m < T.length := by omega
  have hfl := asks_len T (m + 1) Jb
  refine Ga (Ge HZ HZ (rasks_c T hr m hml mL (fun a19 k19 z19 => ?_)))
  refine qs 1 ?_
  have hg := (ask_in (N := T) (p := m) hml (Nat.le_refl _)).symm.trans (GK 0 (show m < (asksL (T.take (m + 1))).length by omega))
  refine Ga (Gd HZ HZ HZ HZ (enc := eI) (lst := asksL (T.take (m + 1))) memA (show m < (asksL (T.take (m + 1))).length by omega) (fun _ _ => ?_))
  refine Ga (Gs HZ HZ ?_)
  intros
  refine qs 1 ?_
  refine Ga (HG HZ HZ HZ (fun c24 => ?_) (fun c24 => ?_))
  ·refine qs 4 ?_
   exact Gb (L' := L) (F' := F) Tryz.results120 rfl subA (hT ⟨by omega, by omega, by rw [Int.toNat_natCast, hg]; omega⟩)
  refine qs 4 ?_
  exact Gb (L' := L) (F' := F) Tryz.results120 rfl subA (hF (fun e => by have h9 := e.2.2; rw [Int.toNat_natCast, hg] at h9; omega))
theorem rnamedU_c (T : List Ty) (hr : rightP T) (n : Nmd) (hn : NmOk n) {a a2 a4 a5 : Option Addr} {k c k2 c2 k4 c4 k5 c5 : Nat} (mL : fL T a k c ∈ F) (mB : fBd n a4 k4 c4 ∈ F) (mS : fMs n.methods a5 k5 c5 ∈ F)
    (hT : namedU T n → R (.bool true) L F) (hF : ¬ namedU T n → R (.bool false) L F) : ACalls Tryz.prog W0 64 #[.agg #[.slice a k c, .slice a2 k2 c2], vNm n a4 k4 c4 a5 k5 c5] L F R := by
  have hnn := hn.name
  refine Gg Tryz.func64 HZ Tryz.ntmps64 HZ ?_
  refine qs 2 ?_
  refine Ga (GL HZ HZ (fun b2 => (Ga (GL HZ HZ (fun b3 => ?_)))))
  refine qs 7 ?_
  refine Ga (Gt HZ HZ (fun hl12 => ?_) (enc := eI) (lst := n.bounds) (hm := mB))
  refine qs 8 ?_
  refine Ga (Ge HZ HZ (rtwofold_c n.name Jb (fun c15 => ?_) (fun c15 => ?_)))
  ·refine qs 3 ?_
   refine Gc HZ HZ (Hv HZ HZ HZ (fun c19 => ?_) (fun c19 => ?_))
   ·refine qs 25 ?_
    exact Gb (L' := L) (F' := F) Tryz.results64 rfl subA (hF (fun e => absurd e.2.1.1 Jb))
   refine qs 4 ?_
   refine Gc HZ HZ (Gt HZ HZ (fun hl24 => ?_) (enc := eMt) (lst := n.methods) (hm := mS))
   refine Gc HZ HZ (Hv HZ HZ HZ (fun c25 => ?_) (fun c25 => ?_))
   ·refine qs 19 ?_
    exact Gb (L' := L) (F' := F) Tryz.results64 rfl subA (hF (fun e => absurd e.2.2.2.1 Jb))
   refine qs 6 ?_
   refine Gc HZ HZ (Ge HZ HZ (rfewU_c T hr n.under n.bounds.length mL (fun c32 => ?_) (fun c32 => ?_)))
   ·refine qs 12 ?_
    refine Ga (Gt HZ HZ (fun hl37 => ?_) (enc := eI) (lst := n.bounds) (hm := mB))
    refine qs 4 ?_
    refine GB (fun (q : Nat) => q ≤ n.bounds.length ∧ ∀ j (hj : j < n.bounds.length), j < q → isK T n.bounds[j] 7 ∧ fewA T n.bounds[j] n.bounds.length) (fun q => [(2, .pointer (some ⟨b2, 0, none⟩)), (3, .pointer (some ⟨b3, 0, none⟩)), (5, .int .i64 n.bounds.length), (36, .slice a4 k4 c4), (37, .int .i64 n.bounds.length), (38, .int .i64 (q : Int))]) (fun _ => _) (fun _ => F) (fun q => n.bounds.length - q) 0 ⟨Nat.zero_le _, by omega⟩ srA (Gf _ _) ?_
    rintro q ⟨hq, hbq⟩
    refine qs 2 ?_
    refine Ga (Gw HZ HZ HZ (fun c39 => ?_) (fun c39 => ?_))
    ·refine qs 10 ?_
     have hql : q < n.bounds.length := by omega
     refine Ga (Gd HZ HZ HZ HZ (enc := eI) (lst := n.bounds) memA hql (fun _ _ => ?_))
     refine Ga (Gs HZ HZ ?_)
     intros
     refine qs 7 ?_
     refine Ga (Ge HZ HZ (ris_c T n.bounds[q] 7 memA (fun c44 => ?_) (fun c44 => ?_)))
     ·refine qs 5 ?_
      refine Gc HZ HZ (Ge HZ HZ (rfewU_c T hr n.bounds[q] n.bounds.length memA (fun c50 => ?_) (fun c50 => ?_)))
      ·refine qs 12 ?_
       refine Gk (q + 1) ⟨by omega, fun j hj hjq => ?_⟩ Jb srA subF
       rcases Nat.lt_succ_iff_lt_or_eq.1 hjq with k9 | rfl
       · exact hbq j hj k9
       exact ⟨c44, c50⟩
      refine qs 16 ?_
      exact Gb (L' := L) (F' := F) Tryz.results64 rfl subA (hF (fun e => c50 (e.2.1.2 _ (List.getElem_mem hql)).2))
     refine qs 22 ?_
     exact Gb (L' := L) (F' := F) Tryz.results64 rfl subA (hF (fun e => c44 (e.2.1.2 _ (List.getElem_mem hql)).1))
    refine qs 15 ?_
    have hbd : boundsP T n := ⟨by omega, fun b hb => by obtain ⟨j, hj, rfl⟩ := List.getElem_of_mem hb; exact hbq j hj Jb⟩
    refine Ga (Ge HZ HZ (ris_c T n.under 8 memA (fun c57 => ?_) (fun c57 => ?_)))
    ·refine qs 26 ?_
     exact Gb (L' := L) (F' := F) Tryz.results64 rfl subA (hF (fun e => e.2.2.1.2.1 c57))
    refine qs 4 ?_
    refine Gc HZ HZ (Ge HZ HZ (ris_c T n.under 9 memA (fun c62 => ?_) (fun c62 => ?_)))
    ·refine qs 21 ?_
     exact Gb (L' := L) (F' := F) Tryz.results64 rfl subA (hF (fun e => e.2.2.1.2.2.1 c62))
    refine qs 4 ?_
    refine Gc HZ HZ (GY HZ HZ HZ (fun c67 => ?_) (fun c67 => ?_))
    ·refine qs 3 ?_
     refine Gc HZ HZ (HG HZ HZ HZ (fun c71 => ?_) (fun c71 => ?_))
     ·refine qs 12 ?_
      exact Gb (L' := L) (F' := F) Tryz.results64 rfl subA (hF (fun e => e.2.2.1.2.2.2 ⟨by omega, by omega⟩))
     refine qs 12 ?_
     have hud : underP T n := ⟨c32, c57, c62, by omega⟩
     refine Ga (Gt HZ HZ (fun hl76 => ?_) (enc := eMt) (lst := n.methods) (hm := mS))
     refine qs 4 ?_
     refine GB (fun (q : Nat) => q ≤ n.methods.length ∧ ∀ j (hj : j < n.methods.length), j < q → methodP T n j hj) (fun q => [(2, .pointer (some ⟨b2, 0, none⟩)), (3, .pointer (some ⟨b3, 0, none⟩)), (5, .int .i64 n.bounds.length), (75, .slice a5 k5 c5), (76, .int .i64 n.methods.length), (77, .int .i64 (q : Int))]) (fun _ => _) (fun _ => F) (fun q => n.methods.length - q) 0 ⟨Nat.zero_le _, by omega⟩ srA (Gf _ _) ?_
     rintro w ⟨hw, hmw⟩
     refine qs 2 ?_
     refine Ga (Gw HZ HZ HZ (fun c78 => ?_) (fun c78 => ?_))
     ·refine qs 11 ?_
      have hwl : w < n.methods.length := by omega
      have hwn := hn.meth _ (List.getElem_mem hwl)
      refine Ga (Gd HZ HZ HZ HZ (enc := eMt) (lst := n.methods) memA hwl (fun _ _ => ?_))
      refine Ga (GN HZ HZ ?_)
      refine Ga (Gj HZ (fun b9 => ?_))
      refine qs 9 ?_
      refine Ga (Ge HZ HZ (rname_c n.methods[w].name Jb (fun c84 => ?_) (fun c84 => ?_)))
      ·refine qs 5 ?_
       refine Gc HZ HZ (Ge HZ HZ (ris_c T n.methods[w].sig 5 memA (fun c90 => ?_) (fun c90 => ?_)))
       ·refine qs 7 ?_
        refine Gc HZ HZ (Ge HZ HZ (rfewU_c T hr n.methods[w].sig n.bounds.length memA (fun c98 => ?_) (fun c98 => ?_)))
        ·refine qs 8 ?_
         refine GP (fun _ => false) [(b9, _, _), (b3, _, _)] bxA HZ (fun hx hX => ?_)
         have hk5 := (Gu (hX (fMs n.methods a5 k5 c5) memA)).1
         obtain ⟨p1, o1, e1, at1⟩ := GA (hX (fMs n.methods a5 k5 c5) memA) hwl
         cases e1
         cases hk5
         refine qt [0] ?_
         refine Hf (i := 1) HZ (Y.gtr HZ HZ) Ja HZ HZ (fun c102 => ?_) (fun c102 => ?_)
         ·replace c102 := of_decide_eq_true c102
          refine qt [2, 3, 4, 5, 6] ?_
          obtain ⟨p2, o2, e2, at2⟩ := GA (i := w - 1) (hX (fMs n.methods (some ⟨p1, o1, none⟩) _ c5) memA) Jb
          cases e2
          have hv2 := mt_cells at2 0 _ rfl
          refine GD (i := 7) HZ (GE (k := w - 1) HZ HZ Jb Jb) Ja HZ HZ ?_
          refine qt [8] ?_
          refine GR (i := 9) HZ (Ho HZ hv2) Ja Ja HZ HZ HZ ?_
          refine qt [10, 11] ?_
          refine Hf (i := 12) HZ (Y.geqS HZ HZ) Ja HZ HZ (fun c113 => ?_) (fun c113 => ?_)
          ·refine qt [13] ?_
           refine Gq Ja ?_
           refine qs 13 ?_
           exact Gb (L' := L) (F' := F) Tryz.results64 rfl subA (hF (fun e => by have h9 := (e.2.2.2.2.1 w hwl).2.2.2 Jb; rw [GK default Jb] at h9; simp [h9] at c113))
          refine qt [13] ?_
          refine Gq Ja ?_
          refine qs 9 ?_
          refine Gk (w + 1) ⟨by omega, fun j hj hjq => ?_⟩ Jb srA (Sub.drop.trans subF)
          rcases Nat.lt_succ_iff_lt_or_eq.1 hjq with k9 | rfl
          · exact hmw j hj k9
          exact ⟨c84, c90, c98, fun _ => by rw [GK default Jb]; simpa using c113⟩
         replace c102 := of_decide_eq_false c102
         refine qt [2, 3, 4, 5, 6, 7, 8, 9, 10, 11, 12, 13] ?_
         refine Gq Ja ?_
         refine qs 9 ?_
         refine Gk (w + 1) ⟨by omega, fun j hj hjq => ?_⟩ Jb srA (Sub.drop.trans subF)
         rcases Nat.lt_succ_iff_lt_or_eq.1 hjq with k9 | rfl
         · exact hmw j hj k9
         exact ⟨c84, c90, c98, fun h0 => absurd h0 Jb⟩
        refine qs 17 ?_
        exact Gb (L' := L) (F' := F) Tryz.results64 rfl subA (hF (fun e => c98 (e.2.2.2.2.1 w hwl).2.2.1))
       refine qs 25 ?_
       exact Gb (L' := L) (F' := F) Tryz.results64 rfl subA (hF (fun e => c90 (e.2.2.2.2.1 w hwl).2.1))
      refine qs 31 ?_
      exact Gb (L' := L) (F' := F) Tryz.results64 rfl subA (hF (fun e => absurd (e.2.2.2.2.1 w hwl).1 (by rw [c84]; decide)))
     refine qs 13 ?_
     refine Ga (Gt HZ HZ (fun hl118 => ?_) (enc := eMt) (lst := n.methods) (hm := mS))
     refine Ga (Gr HZ HZ HZ (fun c119 => ?_) (fun c119 => ?_))
     ·refine qs 18 ?_
      exact Gb (L' := L) (F' := F) Tryz.results64 rfl subA (hT ⟨c15, hbd, hud, by omega, fun i hi => hmw i hi Jb, fun h0 => absurd (List.length_pos_iff.2 h0) Jb⟩)
     refine qs 4 ?_
     refine Gc HZ HZ (Ge HZ HZ (ris_c T n.under 7 memA (fun c124 => ?_) (fun c124 => ?_)))
     ·refine qs 13 ?_
      exact Gb (L' := L) (F' := F) Tryz.results64 rfl subA (hF (fun e => (e.2.2.2.2.2 (List.length_pos_iff.1 Jb)).1 c124))
     refine qs 5 ?_
     refine Gc HZ HZ (Ge HZ HZ (ris_c T n.under 1 memA (fun c130 => ?_) (fun c130 => ?_)))
     ·refine qs 7 ?_
      exact Gb (L' := L) (F' := F) Tryz.results64 rfl subA (hF (fun e => (e.2.2.2.2.2 (List.length_pos_iff.1 Jb)).2 c130))
     refine qs 7 ?_
     exact Gb (L' := L) (F' := F) Tryz.results64 rfl subA (hT ⟨c15, hbd, hud, by omega, fun i hi => hmw i hi Jb, fun _ => ⟨c124, c130⟩⟩)
    refine qs 16 ?_
    have hud : underP T n := ⟨c32, c57, c62, by omega⟩
    refine Ga (Gt HZ HZ (fun hl76 => ?_) (enc := eMt) (lst := n.methods) (hm := mS))
    refine qs 4 ?_
    refine GB (fun (q : Nat) => q ≤ n.methods.length ∧ ∀ j (hj : j < n.methods.length), j < q → methodP T n j hj) (fun q => [(2, .pointer (some ⟨b2, 0, none⟩)), (3, .pointer (some ⟨b3, 0, none⟩)), (5, .int .i64 n.bounds.length), (75, .slice a5 k5 c5), (76, .int .i64 n.methods.length), (77, .int .i64 (q : Int))]) (fun _ => _) (fun _ => F) (fun q => n.methods.length - q) 0 ⟨Nat.zero_le _, by omega⟩ srA (Gf _ _) ?_
    rintro w ⟨hw, hmw⟩
    refine qs 2 ?_
    refine Ga (Gw HZ HZ HZ (fun c78 => ?_) (fun c78 => ?_))
    ·refine qs 11 ?_
     have hwl : w < n.methods.length := by omega
     have hwn := hn.meth _ (List.getElem_mem hwl)
     refine Ga (Gd HZ HZ HZ HZ (enc := eMt) (lst := n.methods) memA hwl (fun _ _ => ?_))
     refine Ga (GN HZ HZ ?_)
     refine Ga (Gj HZ (fun b9 => ?_))
     refine qs 9 ?_
     refine Ga (Ge HZ HZ (rname_c n.methods[w].name Jb (fun c84 => ?_) (fun c84 => ?_)))
     ·refine qs 5 ?_
      refine Gc HZ HZ (Ge HZ HZ (ris_c T n.methods[w].sig 5 memA (fun c90 => ?_) (fun c90 => ?_)))
      ·refine qs 7 ?_
       refine Gc HZ HZ (Ge HZ HZ (rfewU_c T hr n.methods[w].sig n.bounds.length memA (fun c98 => ?_) (fun c98 => ?_)))
       ·refine qs 8 ?_
        refine GP (fun _ => false) [(b9, _, _), (b3, _, _)] bxA HZ (fun hx hX => ?_)
        have hk5 := (Gu (hX (fMs n.methods a5 k5 c5) memA)).1
        obtain ⟨p1, o1, e1, at1⟩ := GA (hX (fMs n.methods a5 k5 c5) memA) hwl
        cases e1
        cases hk5
        refine qt [0] ?_
        refine Hf (i := 1) HZ (Y.gtr HZ HZ) Ja HZ HZ (fun c102 => ?_) (fun c102 => ?_)
        ·replace c102 := of_decide_eq_true c102
         refine qt [2, 3, 4, 5, 6] ?_
         obtain ⟨p2, o2, e2, at2⟩ := GA (i := w - 1) (hX (fMs n.methods (some ⟨p1, o1, none⟩) _ c5) memA) Jb
         cases e2
         have hv2 := mt_cells at2 0 _ rfl
         refine GD (i := 7) HZ (GE (k := w - 1) HZ HZ Jb Jb) Ja HZ HZ ?_
         refine qt [8] ?_
         refine GR (i := 9) HZ (Ho HZ hv2) Ja Ja HZ HZ HZ ?_
         refine qt [10, 11] ?_
         refine Hf (i := 12) HZ (Y.geqS HZ HZ) Ja HZ HZ (fun c113 => ?_) (fun c113 => ?_)
         ·refine qt [13] ?_
          refine Gq Ja ?_
          refine qs 13 ?_
          exact Gb (L' := L) (F' := F) Tryz.results64 rfl subA (hF (fun e => by have h9 := (e.2.2.2.2.1 w hwl).2.2.2 Jb; rw [GK default Jb] at h9; simp [h9] at c113))
         refine qt [13] ?_
         refine Gq Ja ?_
         refine qs 9 ?_
         refine Gk (w + 1) ⟨by omega, fun j hj hjq => ?_⟩ Jb srA (Sub.drop.trans subF)
         rcases Nat.lt_succ_iff_lt_or_eq.1 hjq with k9 | rfl
         · exact hmw j hj k9
         exact ⟨c84, c90, c98, fun _ => by rw [GK default Jb]; simpa using c113⟩
        replace c102 := of_decide_eq_false c102
        refine qt [2, 3, 4, 5, 6, 7, 8, 9, 10, 11, 12, 13] ?_
        refine Gq Ja ?_
        refine qs 9 ?_
        refine Gk (w + 1) ⟨by omega, fun j hj hjq => ?_⟩ Jb srA (Sub.drop.trans subF)
        rcases Nat.lt_succ_iff_lt_or_eq.1 hjq with k9 | rfl
        · exact hmw j hj k9
        exact ⟨c84, c90, c98, fun h0 => absurd h0 Jb⟩
       refine qs 17 ?_
       exact Gb (L' := L) (F' := F) Tryz.results64 rfl subA (hF (fun e => c98 (e.2.2.2.2.1 w hwl).2.2.1))
      refine qs 25 ?_
      exact Gb (L' := L) (F' := F) Tryz.results64 rfl subA (hF (fun e => c90 (e.2.2.2.2.1 w hwl).2.1))
     refine qs 31 ?_
     exact Gb (L' := L) (F' := F) Tryz.results64 rfl subA (hF (fun e => absurd (e.2.2.2.2.1 w hwl).1 (by rw [c84]; decide)))
    refine qs 13 ?_
    refine Ga (Gt HZ HZ (fun hl118 => ?_) (enc := eMt) (lst := n.methods) (hm := mS))
    refine Ga (Gr HZ HZ HZ (fun c119 => ?_) (fun c119 => ?_))
    ·refine qs 18 ?_
     exact Gb (L' := L) (F' := F) Tryz.results64 rfl subA (hT ⟨c15, hbd, hud, by omega, fun i hi => hmw i hi Jb, fun h0 => absurd (List.length_pos_iff.2 h0) Jb⟩)
    refine qs 4 ?_
    refine Gc HZ HZ (Ge HZ HZ (ris_c T n.under 7 memA (fun c124 => ?_) (fun c124 => ?_)))
    ·refine qs 13 ?_
     exact Gb (L' := L) (F' := F) Tryz.results64 rfl subA (hF (fun e => (e.2.2.2.2.2 (List.length_pos_iff.1 Jb)).1 c124))
    refine qs 5 ?_
    refine Gc HZ HZ (Ge HZ HZ (ris_c T n.under 1 memA (fun c130 => ?_) (fun c130 => ?_)))
    ·refine qs 7 ?_
     exact Gb (L' := L) (F' := F) Tryz.results64 rfl subA (hF (fun e => (e.2.2.2.2.2 (List.length_pos_iff.1 Jb)).2 c130))
    refine qs 7 ?_
    exact Gb (L' := L) (F' := F) Tryz.results64 rfl subA (hT ⟨c15, hbd, hud, by omega, fun i hi => hmw i hi Jb, fun _ => ⟨c124, c130⟩⟩)
   refine qs 12 ?_
   exact Gb (L' := L) (F' := F) Tryz.results64 rfl subA (hF (fun e => c32 e.2.2.1.1))
  refine qs 29 ?_
  exact Gb (L' := L) (F' := F) Tryz.results64 rfl subA (hF (fun e => c15 e.1))
theorem rfits_c (N : List Nmd) (t : Ty) {a a2 a3 a4 : Option Addr} {k c k2 c2 k3 c3 k4 c4 : Nat} (m2 : fN N a2 k2 c2 ∈ F) (m4 : fK t a4 k4 c4 ∈ F)
    (hT : fitsU N t → R (.bool true) L F) (hF : ¬ fitsU N t → R (.bool false) L F) : ACalls Tryz.prog W0 65 #[.agg #[.slice a k c, .slice a2 k2 c2], vTy t a3 k3 c3 a4 k4 c4] L F R := by
  refine Gg Tryz.func65 HZ Tryz.ntmps65 HZ ?_
  refine qs 2 ?_
  refine Ga (GL HZ HZ (fun b2 => (Ga (GL HZ HZ (fun b3 => ?_)))))
  refine qs 8 ?_
  refine Ga (GG HZ HZ HZ (fun c8 => ?_) (fun c8 => ?_))
  ·refine qs 10 ?_
   exact Gb (L' := L) (F' := F) Tryz.results65 rfl subA (hT (fun e => absurd e c8))
  refine qs 10 ?_
  refine Ga (Ge HZ HZ (ruat_c N t.name m2 (fun q c12 => ?_) (fun c12 => ?_)))
  ·refine qs 4 ?_
   refine GP (fun _ => false) [(b2, _, _), (b3, _, _)] bxA HZ (fun hx hX => ?_)
   obtain ⟨hql, _⟩ := atN_some c12
   have hk2 := (Gu (hX (fN N a2 k2 c2) memA)).1
   have hk4 := (Gu (hX (fK t a4 k4 c4) memA)).1
   obtain ⟨p1, o1, e1, at1⟩ := GA (hX (fN N a2 k2 c2) memA) hql
   cases e1
   obtain ⟨w1, x1, y1, w2, x2, y2, hv, hw1, hw2⟩ := nm_cells at1
   have hk1 := (Gu hw1).1
   have hv1 := hv 1 _ rfl
   cases hk2
   cases hk4
   cases hk1
   refine qt [0] ?_
   refine Hf (i := 1) HZ (Y.geq HZ HZ) Ja HZ HZ (fun _ => ?_) (fun c14 => absurd (of_decide_eq_false c14) Jb)
   refine qt [2, 3, 4, 5] ?_
   refine GD (i := 6) HZ (GE (k := q) HZ HZ Jb Jb) Ja HZ HZ ?_
   refine qt [7] ?_
   refine GR (i := 8) HZ (Ho HZ hv1) Ja Ja HZ HZ HZ ?_
   refine qt [9, 10, 11, 12] ?_
   refine Hf (i := 13) HZ (Y.eql HZ HZ) Ja HZ HZ (fun c26 => ?_) (fun c26 => ?_)
   ·replace c26 := eq_of_beq c26
    refine qt [14, 15] ?_
    refine Gq Ja ?_
    refine qs 2 ?_
    exact Gb (L' := L) (F' := F) Tryz.results65 rfl subA (hT (fun _ => ⟨q, c12, by rw [GK default hql]; omega⟩))
   replace c26 := ne_of_beqF c26
   refine qt [14, 15] ?_
   refine Gq Ja ?_
   refine qs 2 ?_
   exact Gb (L' := L) (F' := F) Tryz.results65 rfl subA (hF (fun e => by obtain ⟨i, hi, h9⟩ := e ‹_›; rw [c12] at hi; injection hi with hi; subst hi; rw [GK default hql] at h9; exact c26 Jb))
  refine qs 4 ?_
  refine GP (fun _ => false) [(b2, _, _), (b3, _, _)] bxA HZ (fun hx hX => ?_)
  refine qt [0] ?_
  refine Hf (i := 1) HZ (Y.geq HZ HZ) Ja HZ HZ (fun c14 => absurd (of_decide_eq_true c14) Jb) (fun _ => ?_)
  refine qt [2, 3, 4, 5, 6, 7, 8, 9, 10, 11, 12, 13, 14, 15] ?_
  refine Gq Ja ?_
  refine qs 2 ?_
  exact Gb (L' := L) (F' := F) Tryz.results65 rfl subA (hF (fun e => by obtain ⟨i, hi, _⟩ := e c8; rw [c12] at hi; exact absurd hi (by simp)))
theorem ruright_c (T : List Ty) (N : List Nmd) (hok : ∀ t ∈ T, TyOk t) (hno : ∀ n ∈ N, NmOk n) {a a2 : Option Addr} {k c k2 c2 : Nat} (mL : fL T a k c ∈ F) (mN : fN N a2 k2 c2 ∈ F)
    (hT : rightU T N → R (.bool true) L F) (hF : ¬ rightU T N → R (.bool false) L F) : ACalls Tryz.prog W0 23 #[.agg #[.slice a k c, .slice a2 k2 c2]] L F R := by
  refine Gg Tryz.func23 HZ Tryz.ntmps23 HZ ?_
  refine qs 2 ?_
  refine Ga (GL HZ HZ (fun b1 => ?_))
  refine qs 8 ?_
  refine Ga (Ge HZ HZ (rright_c T hok mL (fun c9 => ?_) (fun c9 => ?_)))
  ·refine qs 4 ?_
   refine Gc HZ HZ (Gt HZ HZ (fun hl14 => ?_) (enc := eNm) (lst := N) (hm := mN))
   refine Gc HZ HZ (Hv HZ HZ HZ (fun c15 => ?_) (fun c15 => ?_))
   ·refine qs 11 ?_
    exact Gb (L' := L) (F' := F) Tryz.results23 rfl subA (hF (fun e => absurd e.2.1 Jb))
   refine qs 11 ?_
   refine Ga (Gt HZ HZ (fun hl19 => ?_) (enc := eNm) (lst := N) (hm := memA))
   refine qs 4 ?_
   refine GB (fun (q : Nat) => q ≤ N.length ∧ ∀ j (hj : j < N.length), j < q → nameAt T N j hj) (fun q => [(1, .pointer (some ⟨b1, 0, none⟩)), (18, .slice a2 k2 c2), (19, .int .i64 N.length), (20, .int .i64 (q : Int))]) (fun _ => _) (fun _ => _) (fun q => N.length - q) 0 ⟨Nat.zero_le _, by omega⟩ srA (Gf _ _) ?_
   rintro q ⟨hq, hin⟩
   refine qs 2 ?_
   refine Ga (Gw HZ HZ HZ (fun c21 => ?_) (fun c21 => ?_))
   ·refine qs 11 ?_
    have hql : q < N.length := by omega
    refine Ga (Gd HZ HZ HZ HZ (enc := eNm) (lst := N) memA hql (fun _ _ => ?_))
    refine Ga (GN HZ HZ ?_)
    intro a26 k26 z26 d26 e26 f26
    refine Ga (Gj HZ (fun b4 => ?_))
    refine qs 5 ?_
    refine GP (fun _ => false) [(b4, _, _), (b1, _, _)] bxA HZ (fun hx hX => ?_)
    have hk2 := (Gu (hX (fN N a2 k2 c2) memA)).1
    obtain ⟨p1, o1, e1, at1⟩ := GA (hX (fN N a2 k2 c2) memA) hql
    cases e1
    cases hk2
    refine qt [0, 1] ?_
    refine Gm (i := 2) Ja HZ HZ (fun _ => ?_)
    refine Ge HZ HZ (rnamedU_c T c9 N[q] (hno _ (List.getElem_mem hql)) (show fL T a k c ∈ _ from memA) (show fBd N[q] _ _ _ ∈ _ from memA) (show fMs N[q].methods _ _ _ ∈ _ from memA) (fun c27 => ?_) (fun c27 => ?_))
    all_goals refine Gi bxA memB ?_
    ·refine qt [3, 4, 5] ?_
     refine Hf (i := 6) HZ (Y.gtr HZ HZ) Ja HZ HZ (fun c31 => ?_) (fun c31 => ?_)
     ·replace c31 := of_decide_eq_true c31
      refine qt [7, 8, 9, 10, 11] ?_
      obtain ⟨p2, o2, e2, at2⟩ := GA (i := q - 1) (hX (fN N (some ⟨p1, o1, none⟩) _ c2) memA) Jb
      cases e2
      obtain ⟨w1, x1, y1, w2, x2, y2, hv, hw1, hw2⟩ := nm_cells at2
      have hv2 := hv 0 _ rfl
      refine GD (i := 12) HZ (GE (k := q - 1) HZ HZ Jb Jb) Ja HZ HZ ?_
      refine qt [13] ?_
      refine GR (i := 14) HZ (Ho HZ hv2) Ja Ja HZ HZ HZ ?_
      refine qt [15, 16] ?_
      refine Hf (i := 17) HZ (Y.geqS HZ HZ) Ja HZ HZ (fun c42 => ?_) (fun c42 => ?_)
      ·refine qt [18, 19] ?_
       refine Gq Ja ?_
       refine qs 13 ?_
       exact Gb (L' := L) (F' := F) Tryz.results23 rfl subA (hF (fun e => by have h9 := (e.2.2.1 q hql).2 Jb; rw [GK default Jb] at h9; simp [h9] at c42))
      refine qt [18, 19] ?_
      refine Gq Ja ?_
      refine qs 9 ?_
      refine Gk (q + 1) ⟨by omega, fun j hj hjq => ?_⟩ Jb srA (Sub.drop.trans subF)
      rcases Nat.lt_succ_iff_lt_or_eq.1 hjq with k9 | rfl
      · exact hin j hj k9
      exact ⟨c27, fun _ => by rw [GK default Jb]; simpa using c42⟩
     replace c31 := of_decide_eq_false c31
     refine qt [7, 8, 9, 10, 11, 12, 13, 14, 15, 16, 17, 18, 19] ?_
     refine Gq Ja ?_
     refine qs 9 ?_
     refine Gk (q + 1) ⟨by omega, fun j hj hjq => ?_⟩ Jb srA (Sub.drop.trans subF)
     rcases Nat.lt_succ_iff_lt_or_eq.1 hjq with k9 | rfl
     · exact hin j hj k9
     exact ⟨c27, fun h0 => absurd h0 Jb⟩
    refine qt [3, 4, 5, 6, 7, 8, 9, 10, 11, 12, 13, 14, 15, 16, 17, 18, 19] ?_
    refine Gq Ja ?_
    refine qs 13 ?_
    exact Gb (L' := L) (F' := F) Tryz.results23 rfl subA (hF (fun e => c27 (e.2.2.1 q hql).1))
   refine qs 14 ?_
   refine Ga (Gt HZ HZ (fun hl48 => ?_) (enc := eTy) (lst := T) (hm := memA))
   refine qs 4 ?_
   refine GB (fun (q : Nat) => q ≤ T.length ∧ ∀ j (hj : j < T.length), j < q → fitsU N T[j]) (fun q => [(1, .pointer (some ⟨b1, 0, none⟩)), (47, .slice a k c), (48, .int .i64 T.length), (49, .int .i64 (q : Int))]) (fun _ => _) (fun _ => _) (fun q => T.length - q) 0 ⟨Nat.zero_le _, by omega⟩ srA (Gf _ _) ?_
   rintro w ⟨hw, hfw⟩
   refine qs 2 ?_
   refine Ga (Gw HZ HZ HZ (fun c50 => ?_) (fun c50 => ?_))
   ·refine qs 10 ?_
    have hwl : w < T.length := by omega
    refine Ga (Gd HZ HZ HZ HZ (enc := eTy) (lst := T) memA hwl (fun _ _ => ?_))
    refine Ga (GN HZ HZ ?_)
    intro a52 k52 z52 d52 e52 f52
    refine Ga (Gj HZ (fun b6 => ?_))
    refine qs 7 ?_
    refine Ga (Ge HZ HZ (rfits_c N T[w] (show fN N a2 k2 c2 ∈ _ from memA) (show fK T[w] _ _ _ ∈ _ from memA) (fun c55 => ?_) (fun c55 => ?_)))
    ·refine qs 11 ?_
     refine Gk (w + 1) ⟨by omega, fun j hj hjq => ?_⟩ Jb srA (Sub.drop.trans subF)
     rcases Nat.lt_succ_iff_lt_or_eq.1 hjq with k9 | rfl
     · exact hfw j hj k9
     exact c55
    refine qs 15 ?_
    exact Gb (L' := L) (F' := F) Tryz.results23 rfl subA (hF (fun e => c55 (e.2.2.2 _ (List.getElem_mem hwl))))
   refine qs 15 ?_
   refine Gb (L' := L) (F' := F) Tryz.results23 HZ subA (hT ⟨c9, by omega, fun i hi => hin i hi Jb, fun t ht => ?_⟩)
   obtain ⟨j, hj, rfl⟩ := List.getElem_of_mem ht
   exact hfw j hj Jb
  refine qs 17 ?_
  exact Gb (L' := L) (F' := F) Tryz.results23 rfl subA (hF (fun e => c9 e.1))
end
end Go.Sy
namespace Go.Sy
open Go Go.Proofs Go.RowKit
def oneS (t : Ty) : Ty := ⟨t.kind, t.name.take (min t.name.length 50), t.n, t.words.take (min t.words.length 18), t.kids.take (min t.kids.length 18)⟩
def fewS (l : List Ty) (most : Nat) : List Ty := (l.take (min l.length most)).map oneS
structure TyUp (t : Ty) : Prop where
  inn : TyIn t
  word : ∀ w ∈ t.words, w.length ≤ 1048576
theorem oneS_ok {t : Ty} (h : TyUp t) : TyOk (oneS t) := by
  refine ⟨h.inn.kind, h.inn.n, by simp [oneS]; omega, by simp [oneS]; omega, ?_, by simp [oneS]; omega, fun k hk => h.inn.kid k (List.mem_of_mem_take hk)⟩
  intro w hw
  exact h.word w (List.mem_of_mem_take hw)
theorem fewS_ok {l : List Ty} {m : Nat} (h : ∀ t ∈ l, TyUp t) : ∀ t ∈ fewS l m, TyOk t := by
  intro t ht
  unfold fewS at ht
  obtain ⟨x, hx, rfl⟩ := List.mem_map.1 ht
  exact oneS_ok (h x (List.mem_of_mem_take hx))
theorem fewS_step {l : List Ty} {q : Nat} (hq : q < l.length) : (l.take q).map oneS ++ [oneS l[q]] = (l.take (q + 1)).map oneS := by
  rw [List.take_succ_eq_append_getElem hq, List.map_append]; rfl
attribute [local irreducible] AC AT AO AK AH ACalls Sub Res.cells Res.obj Res.nix Res.own Res.map Exit.then Exit.inBlock bodyPost Code.wp Code.wpIn WL Next Post Kont
section
variable {W0 : World} {L : List Res} {F : List Fact} {R : Value → List Res → List Fact → Prop}
set_option maxRecDepth 100000
set_option maxHeartbeats 16000000
theorem rstartO_c (h : ∀ a k c, R (.slice a k c) (Res.own (.slice a k c) 29 5 (startL.map eTy) :: L) F) : ACalls Tryz.prog W0 50 #[] L F R := by
  refine Gg Tryz.func50 HZ Tryz.ntmps50 HZ ?_
  refine qs 7 ?_
  refine Ga (He HZ (fun b4 => ?_))
  refine GH (GI (Hz (i := 0) (k := 0) (sz := 5) (enc := eTy) [] HZ .nil (fun _ => rfl) HZ (by decide)) (Hr (sz := 1))) ?_
  refine qs 6 ?_
  refine Ga (Ge HZ HZ (rnames_c (fun b5 => ?_)))
  refine Ga (Gt HZ HZ (fun hl6 => ?_) (hm := by repeat (first | exact mem0 | assumption | refine memS ?_)))
  refine qs 4 ?_
  refine GB (fun (i : Nat × Option Addr × Nat × Nat) => i.1 ≤ startNames.length) (fun i => [(1, .slice i.2.1 i.2.2.1 i.2.2.2), (5, .slice (some ⟨b5, 0, none⟩) 20 20), (6, .int .i64 startNames.length), (7, .int .i64 (i.1 : Int))]) (fun i => Res.own (.slice i.2.1 i.2.2.1 i.2.2.2) 29 5 (((startNames.take i.1).map basicT).map eTy) :: L) (fun _ => _) (fun i => startNames.length - i.1) (0, some ⟨b4, 0, none⟩, 0, 0) (by simp) srA (Gf _ _) ?_
  rintro ⟨q, a1, k1, c1⟩ hq
  simp only at hq ⊢
  refine qs 2 ?_
  refine Ga (Gw HZ HZ HZ (fun c8 => ?_) (fun c8 => ?_))
  ·refine qs 10 ?_
   have hql : q < startNames.length := by omega
   have hnl := names_len
   have htl : ((startNames.take q).map basicT).length = q := by simp; omega
   refine Ga (Gd HZ HZ HZ HZ memA hql (fun _ _ => ?_))
   refine Ga (Gs HZ HZ ?_)
   intros
   refine qs 6 ?_
   refine Ga (GO HZ HZ HZ ?_)
   refine Ga (Gl HZ HZ HZ HZ HZ (fun b13 => ?_))
   refine Ga (GJ (i := 0) (enc := eTy) (lst := (startNames.take q).map basicT) [basicT startNames[q]] HZ HZ HZ HZ (.val (.val (.val (.slc (.slc .nil memA) memA)))) HZ HZ (fun _ => rfl) (by rw [htl]; simp [maxLen]; omega) (by rw [htl]; omega) (fun a14 k14 c14 => ?_))
   rw [basic_step hql]
   refine qs 8 ?_
   refine Gk (q + 1, a14, k14, c14) (by simp only; omega) (by simp only; omega) srA subF
  refine qs 11 ?_
  refine Ga (HV HZ HZ ?_)
  have hall : startNames.take q = startNames := List.take_of_length_le Jb
  rw [hall]
  refine Ga (GO HZ HZ HZ (Ga (GO HZ HZ HZ ?_)))
  refine Ga (Gl HZ HZ HZ HZ HZ (fun b19 => ?_))
  refine Ga (GJ (i := 0) (enc := eTy) (lst := startNames.map basicT) [⟨7, [], 0, [], []⟩, ⟨7, [], 1, [], []⟩] HZ HZ HZ HZ (.val (.val (.val (.slc (.slc (.val (.val (.val (.slc (.slc .nil memA) memA)))) memA) memA)))) HZ HZ (fun _ => rfl) (by decide) (by decide) (fun a20 k20 c20 => ?_))
  refine qs 10 ?_
  exact Gb (L' := Res.own (.slice a20 k20 c20) 29 5 (startL.map eTy) :: L) (F' := F) Tryz.results50 rfl subF (h _ _ _)
end
end Go.Sy
namespace Go.Sy
open Go Go.Proofs Go.RowKit
def oneN (n : Nmd) : Nmd := ⟨n.name.take (min n.name.length 50), n.bounds.take (min n.bounds.length 18), n.under, n.methods.take (min n.methods.length 18)⟩
def fewN (N : List Nmd) (most : Nat) : List Nmd := (N.take (min N.length most)).map oneN
structure NmUp (n : Nmd) : Prop where
  under : -9223372036854775808 ≤ n.under ∧ n.under ≤ 9223372036854775807
  bound : ∀ b ∈ n.bounds, -9223372036854775808 ≤ b ∧ b ≤ 9223372036854775807
  sig : ∀ m ∈ n.methods, -9223372036854775808 ≤ m.sig ∧ m.sig ≤ 9223372036854775807
  meth : ∀ m ∈ n.methods, m.name.length ≤ 1048576
theorem oneN_ok {n : Nmd} (h : NmUp n) : NmOk (oneN n) := by
  refine ⟨by simp [oneN]; omega, fun m hm => h.meth m (List.mem_of_mem_take hm)⟩
theorem fewN_ok {N : List Nmd} {m : Nat} (h : ∀ n ∈ N, NmUp n) : ∀ n ∈ fewN N m, NmOk n := by
  intro t ht
  unfold fewN at ht
  obtain ⟨x, hx, rfl⟩ := List.mem_map.1 ht
  exact oneN_ok (h x (List.mem_of_mem_take hx))
theorem fewN_step {N : List Nmd} {q : Nat} (hq : q < N.length) : (N.take q).map oneN ++ [oneN N[q]] = (N.take (q + 1)).map oneN := by
  rw [List.take_succ_eq_append_getElem hq, List.map_append]; rfl
attribute [local irreducible] AC AT AO AK AH ACalls Sub Res.cells Res.obj Res.nix Res.own Res.map Exit.then Exit.inBlock bodyPost Code.wp Code.wpIn WL Next Post Kont
section
variable {W0 : World} {L : List Res} {F : List Fact} {R : Value → List Res → List Fact → Prop}
set_option maxRecDepth 100000
set_option maxHeartbeats 16000000
end
end Go.Sy
namespace Go.Sy
open Go Go.Proofs Go.RowKit
theorem put_err {out : List Ty} {ins : List Int} {t : Ty} {e : Int} (h : putS out ins t = .error e) : e ≠ 0 := by
  unfold putS at h
  by_cases c : t.kind = 7 ∧ oddP out t
  · rw [if_pos c] at h; injection h with h; omega
  rw [if_neg c] at h
  by_cases c2 : (addF out (if t.kind = 7 then termsT out.length t else t)).2.2 = 0
  · rw [if_pos c2] at h; cases h
  rw [if_neg c2] at h
  injection h with h
  rw [← h]; exact c2
theorem subN_err {l : List Ty} {args A : List Int} {M : List Bool} {e : Int} : ∀ n, subN l args A M n = .error e → e ≠ 0
  | 0, h => by cases h
  | n + 1, h => by
    rw [subN] at h
    cases hs : subN l args A M n with
    | error e2 => rw [hs] at h; injection h with h; subst h; exact subN_err n hs
    | ok x =>
      obtain ⟨out, ins⟩ := x
      rw [hs] at h
      simp only at h
      unfold stepS at h
      split at h
      · cases h
      split at h
      · cases h
      exact put_err h
theorem subR_err {l : List Ty} {i : Nat} {args : List Int} {e : Int} (h : subR l i args = .error e) : e ≠ 0 := by
  unfold subR at h
  split at h
  · injection h with h; omega
  cases hs : subN l args (asksL (l.take (i + 1))) (partsL l i) (i + 1) with
  | error e2 => rw [hs] at h; injection h with h; subst h; exact subN_err _ hs
  | ok x => obtain ⟨out, ins⟩ := x; rw [hs] at h; cases h
structure OwnS (l own : List Ty) (sf : List Int) (k : Nat) : Prop where
  right : rightP own
  pre : l <+: own
  len : own.length ≤ l.length + k
  many : sf.length = k
  each : ∀ j : Nat, j < k → ∃ q : Nat, ∃ hq : q < own.length, sf[j]? = some (q : Int) ∧ own[q] = paramN (j : Int)
theorem OwnS.step {l own m : List Ty} {self : List Int} {k q : Nat} (h : OwnS l own self k) (hr : rightP m) (hp : own <+: m) (hl : m.length ≤ own.length + 1) (hq : q < m.length) (he : m[q] = paramN (k : Int)) : OwnS l m (self ++ [(q : Int)]) (k + 1) := by
  have hml := hp.length_le
  have hmany := h.many
  refine ⟨hr, h.pre.trans hp, by have := h.len; omega, by rw [List.length_append, hmany]; rfl, fun j hj => ?_⟩
  by_cases e : j = k
  · subst e
    exact ⟨q, hq, by rw [List.getElem?_append_right Jb, hmany]; simp, he⟩
  obtain ⟨p, hpl, e1, e2⟩ := h.each j Jb
  exact ⟨p, by omega, by rw [List.getElem?_append_left Jb]; exact e1, by rw [get_pre hp hpl]; exact e2⟩
structure BothS (z now : List Ty) (args others both : List Int) (u : Nat) : Prop where
  right : rightP now
  pre : z <+: now
  many : both.length = u
  each : ∀ (j : Nat) (a : Int), j < u → args[j]? = some a → ∃ b : Nat, both[j]? = some (b : Int) ∧ SubS now others a.toNat b
theorem BothS.step {z now m : List Ty} {args others both : List Int} {u : Nat} (h : BothS z now args others both u) (hgood : ∀ a ∈ others, 0 ≤ a ∧ a < now.length) (hr : rightP m) (hp : now <+: m) {q : Nat} (hu : u < args.length) (hS : SubS m others args[u].toNat q) : BothS z m args others (both ++ [(q : Int)]) (u + 1) := by
  have hmany := h.many
  refine ⟨hr, h.pre.trans hp, by rw [List.length_append, hmany]; rfl, fun j a hj ha => ?_⟩
  by_cases e : j = u
  · subst e
    rw [List.getElem?_eq_getElem hu] at ha
    injection ha with ha
    subst ha
    exact ⟨q, by rw [List.getElem?_append_right Jb, hmany]; simp, hS⟩
  obtain ⟨b, e1, e2⟩ := h.each j a Jb ha
  exact ⟨b, by rw [List.getElem?_append_left Jb]; exact e1, e2.mono hp hgood⟩
attribute [local irreducible] AC AT AO AK AH ACalls Sub Res.cells Res.obj Res.nix Res.own Res.map Exit.then Exit.inBlock bodyPost Code.wp Code.wpIn WL Next Post Kont
section
variable {W0 : World} {L : List Res} {F : List Fact} {R : Value → List Res → List Fact → Prop}
set_option maxRecDepth 100000
set_option maxHeartbeats 16000000
end
end Go.Sy
namespace Go.Sy
open Go Go.Proofs Go.RowKit
theorem at_und {T : List Ty} {N : List Nmd} (h : rightU T N) {j : Nat} (hj : j < N.length) : ∃ u : Nat, N[j].under = (u : Int) ∧ u < T.length := by
  obtain ⟨h1, h2, _⟩ := (h.2.2.1 j hj).1.2.2.1.1
  exact ⟨N[j].under.toNat, by omega, by omega⟩
attribute [local irreducible] AC AT AO AK AH ACalls Sub Res.cells Res.obj Res.nix Res.own Res.map Exit.then Exit.inBlock bodyPost Code.wp Code.wpIn WL Next Post Kont
section
variable {W0 : World} {L : List Res} {F : List Fact} {R : Value → List Res → List Fact → Prop}
set_option maxRecDepth 100000
set_option maxHeartbeats 16000000
theorem uthere_c (g : Glob W0) (T : List Ty) (N : List Nmd) (hok : ∀ t ∈ T, TyOk t) (hno : ∀ n ∈ N, NmOk n) (i : Int) {a a2 : Option Addr} {k c k2 c2 : Nat} (mL : fL T a k c ∈ F) (mN : fN N a2 k2 c2 ∈ F)
    (h1 : ∀ e, (¬ rightU T N ∧ e = 1) ∨ (rightU T N ∧ ¬(0 ≤ i ∧ i < T.length) ∧ e = 8) → R (.int .i64 e) L F) (h3 : rightU T N → 0 ≤ i ∧ i < T.length → R (.int .i64 0) L F) : ACalls Tryz.prog W0 53 #[.agg #[.slice a k c, .slice a2 k2 c2], .int .i64 i] L F R := by
  refine Gg Tryz.func53 HZ Tryz.ntmps53 HZ ?_
  refine qs 2 ?_
  refine Ga (GL HZ HZ (fun b2 => ?_))
  refine qs 8 ?_
  refine Ga (Ge HZ HZ (uright_c g T N hok hno mL mN (fun c7 => ?_) (fun c7 => ?_)))
  ·refine qs 8 ?_
   refine Ga (Gw HZ HZ HZ (fun c11 => ?_) (fun c11 => ?_))
   ·refine qs 19 ?_
    first | exact Gb (L' := L) (F' := F) Tryz.results53 rfl subA (h1 1 (.inl ⟨c7, rfl⟩)) | exact Gb (L' := L) (F' := F) Tryz.results53 rfl subA (h1 8 (.inr ⟨c7, by omega, rfl⟩)) | exact Gb (L' := L) (F' := F) Tryz.results53 rfl subA (h3 c7 Jb)
   refine qs 4 ?_
   refine Gc HZ HZ (Gt HZ HZ (fun hl16 => ?_) (enc := eTy) (lst := T) (hm := memA))
   refine Gc HZ HZ (GY HZ HZ HZ (fun c17 => ?_) (fun c17 => ?_))
   ·refine qs 13 ?_
    first | exact Gb (L' := L) (F' := F) Tryz.results53 rfl subA (h1 1 (.inl ⟨c7, rfl⟩)) | exact Gb (L' := L) (F' := F) Tryz.results53 rfl subA (h1 8 (.inr ⟨c7, by omega, rfl⟩)) | exact Gb (L' := L) (F' := F) Tryz.results53 rfl subA (h3 c7 Jb)
   refine qs 14 ?_
   first | exact Gb (L' := L) (F' := F) Tryz.results53 rfl subA (h1 1 (.inl ⟨c7, rfl⟩)) | exact Gb (L' := L) (F' := F) Tryz.results53 rfl subA (h1 8 (.inr ⟨c7, by omega, rfl⟩)) | exact Gb (L' := L) (F' := F) Tryz.results53 rfl subA (h3 c7 Jb)
  refine qs 13 ?_
  first | exact Gb (L' := L) (F' := F) Tryz.results53 rfl subA (h1 1 (.inl ⟨c7, rfl⟩)) | exact Gb (L' := L) (F' := F) Tryz.results53 rfl subA (h1 8 (.inr ⟨c7, by omega, rfl⟩)) | exact Gb (L' := L) (F' := F) Tryz.results53 rfl subA (h3 c7 Jb)
theorem uwith_c (g : Glob W0) (l : List Ty) (hok : ∀ t ∈ l, TyOk t) (hr : rightP l) (n : Nat) (hn : n < l.length) (args : List Int) (hargs : args.length ≤ 1000) {a a2 a3 : Option Addr} {k c k2 c2 k3 c3 : Nat} (mL : fL l a k c ∈ F) (mA : fI args a3 k3 c3 ∈ F) (mN : Fact.slc (.slice none 0 0) 5 [] ∈ F)
    (h3 : ∀ e, e ≠ 0 → subR l n args = .error e → R (.tuple #[.agg #[.slice none 0 0, .slice none 0 0], .int .i64 0, .int .i64 e]) L F)
    (h4 : ∀ o q a k c, subR l n args = .ok (o, q) → R (.tuple #[.agg #[.slice a k c, .slice a2 k2 c2], .int .i64 q, .int .i64 0]) L (fL o a k c :: F)) :
    ACalls Tryz.prog W0 55 #[.agg #[.slice a k c, .slice a2 k2 c2], .int .i64 (n : Int), .slice a3 k3 c3] L F R := by
  refine Gg Tryz.func55 HZ Tryz.ntmps55 HZ ?_
  refine qs 2 ?_
  refine Ga (GL HZ HZ (fun b3 => (Ga (Gj HZ (fun b6 => ?_)))))
  refine qs 10 ?_
  refine Ga (Ge HZ HZ (substIn_c g l hok hr n hn args hargs mL mA mN (fun e he => ?_) (fun o q a17 k17 c17 hq => ?_)))
  ·refine qs 13 ?_
   refine Ga (GG HZ HZ HZ (fun c22 => ?_) (fun c22 => absurd c22 (subR_err he)))
   refine qs 5 ?_
   refine Ga (GO HZ HZ HZ ?_)
   refine qs 8 ?_
   first
   | exact Gn (rs := [.cell 6 _, .tmp 7, .tmp 8]) (L' := L) (F' := F) Tryz.results55 (.agg (j := 0) rfl rfl rfl (.tmp rfl (.tmp rfl .nil))) subA (h3 e (subR_err he) he)
   | exact Gn (rs := [.cell 6 _, .tmp 7, .tmp 8]) (L' := L) (F' := fL o a17 k17 c17 :: F) Tryz.results55 (.agg (j := 0) rfl rfl rfl (.tmp rfl (.tmp rfl .nil))) (Sub.drop.trans Gv) (h4 o q a17 k17 c17 hq)
  refine qs 13 ?_
  refine Ga (GG HZ HZ HZ (fun c22 => absurd HZ c22) (fun _ => ?_))
  refine qs 22 ?_
  first
  | exact Gn (rs := [.cell 6 _, .tmp 7, .tmp 8]) (L' := L) (F' := F) Tryz.results55 (.agg (j := 0) rfl rfl rfl (.tmp rfl (.tmp rfl .nil))) subA (h3 e (subR_err he) he)
  | exact Gn (rs := [.cell 6 _, .tmp 7, .tmp 8]) (L' := L) (F' := fL o a17 k17 c17 :: F) Tryz.results55 (.agg (j := 0) rfl rfl rfl (.tmp rfl (.tmp rfl .nil))) (Sub.drop.trans Gv) (h4 o q a17 k17 c17 hq)
theorem uunder_c (g : Glob W0) (T : List Ty) (N : List Nmd) (hok : ∀ t ∈ T, TyOk t) (hno : ∀ n ∈ N, NmOk n) (i : Int) {a a2 : Option Addr} {k c k2 c2 : Nat} (mL : fL T a k c ∈ F) (mN : fN N a2 k2 c2 ∈ F) (mE : Fact.slc (.slice none 0 0) 5 [] ∈ F)
    (h1 : ¬ rightU T N → R (.tuple #[.agg #[.slice none 0 0, .slice none 0 0], .int .i64 0, .int .i64 1]) L F)
    (h2 : rightU T N → ¬(0 ≤ i ∧ i < T.length) → R (.tuple #[.agg #[.slice none 0 0, .slice none 0 0], .int .i64 0, .int .i64 8]) L F)
    (h3 : rightU T N → ∀ n : Nat, i = n → ∀ hn : n < T.length, T[n].kind ≠ 8 → R (.tuple #[.agg #[.slice a k c, .slice a2 k2 c2], .int .i64 i, .int .i64 0]) L (fL T a k c :: F))
    (h4 : rightU T N → ∀ n : Nat, i = n → ∀ hn : n < T.length, T[n].kind = 8 → ∀ j (hj : j < N.length), atN N T[n].name = some j → ∀ u : Nat, N[j].under = u → u < T.length → ∀ e, e ≠ 0 → subR T u T[n].kids = .error e → R (.tuple #[.agg #[.slice none 0 0, .slice none 0 0], .int .i64 0, .int .i64 e]) L F)
    (h5 : rightU T N → ∀ n : Nat, i = n → ∀ hn : n < T.length, T[n].kind = 8 → ∀ j (hj : j < N.length), atN N T[n].name = some j → ∀ u : Nat, N[j].under = u → u < T.length → ∀ o q a k c, subR T u T[n].kids = .ok (o, q) → R (.tuple #[.agg #[.slice a k c, .slice a2 k2 c2], .int .i64 q, .int .i64 0]) L (fL o a k c :: F)) :
    ACalls Tryz.prog W0 15 #[.agg #[.slice a k c, .slice a2 k2 c2], .int .i64 i] L F R := by
  refine Gg Tryz.func15 HZ Tryz.ntmps15 HZ ?_
  refine qs 2 ?_
  refine Ga (GL HZ HZ (fun b2 => (Ga (Gj HZ (fun b4 => ?_)))))
  refine qs 9 ?_
  refine Ga (Ge HZ HZ (uthere_c g T N hok hno i mL mN (fun e he => ?_) (fun c13 d13 => ?_)))
  ·refine qs 6 ?_
   refine Ga (GG rfl rfl rfl (fun _ => ?_) (fun c15 => absurd c15 (by rcases he with ⟨_, h⟩ | ⟨_, _, h⟩ <;> omega)))
   refine qs 5 ?_
   refine Ga (GO HZ HZ HZ ?_)
   refine qs 8 ?_
   rcases he with ⟨h, rfl⟩ | ⟨h, h', rfl⟩
   · exact Gn (rs := [.cell 4 _, .tmp 5, .tmp 6]) (L' := L) (F' := F) Tryz.results15 (.agg (j := 0) rfl rfl rfl (.tmp rfl (.tmp rfl .nil))) subA (h1 h)
   exact Gn (rs := [.cell 4 _, .tmp 5, .tmp 6]) (L' := L) (F' := F) Tryz.results15 (.agg (j := 0) rfl rfl rfl (.tmp rfl (.tmp rfl .nil))) subA (h2 h h')
  refine qs 6 ?_
  refine Ga (GG HZ HZ HZ (fun c15 => absurd HZ c15) (fun _ => ?_))
  refine qs 10 ?_
  obtain ⟨n, rfl⟩ : ∃ n : Nat, i = (n : Int) := ⟨i.toNat, by omega⟩
  have hn : n < T.length := by omega
  have hkl := (hok _ (List.getElem_mem hn)).kids
  refine Ga (Gd HZ HZ HZ HZ (enc := eTy) (lst := T) memA hn (fun _ _ => ?_))
  refine Ga (GN HZ HZ ?_)
  intro a22 k22 z22 d22 e22 f22
  refine Ga (Gj HZ (fun b8 => ?_))
  refine qs 8 ?_
  refine Ga (GG HZ HZ HZ (fun c25 => ?_) (fun c25 => ?_))
  ·refine qs 14 ?_
   exact Gn (rs := [.cell 4 _, .tmp 5, .tmp 6]) (L' := L) (F' := fL T a k c :: F) Tryz.results15 (.agg (j := 1) rfl rfl rfl (.tmp rfl (.tmp rfl .nil))) (Sub.drop.trans (Sub.drop.trans (Sub.drop.trans (Gh (mem1 memA (fun x hx => by repeat (first | exact hx | refine List.mem_cons_of_mem _ ?_))))))) (h3 c13 n rfl hn c25)
  refine qs 10 ?_
  refine Ga (Ge rfl rfl (at_c N T[n].name memA (fun j c32 => ?_) (fun c32 => by obtain ⟨i, hi, _⟩ := c13.2.2.2 _ (List.getElem_mem hn) c25; rw [c32] at hi; exact absurd hi (by simp))))
  refine qs 8 ?_
  refine GP (fun i => Nat.beq i 13) [(b2, _, _), (b8, _, _)] bxA HZ (fun hx hX => ?_)
  obtain ⟨hjl, _⟩ := atN_some c32
  obtain ⟨u, hu, hul⟩ := at_und c13 hjl
  have hk2 := (Gu (hX (fN N a2 k2 c2) memA)).1
  obtain ⟨p1, o1, e1, at1⟩ := GA (hX (fN N a2 k2 c2) memA) hjl
  cases e1
  obtain ⟨w1, x1, y1, w2, x2, y2, hv, hw1, hw2⟩ := nm_cells at1
  have hv2 := hv 2 _ rfl
  rw [hu] at hv2
  cases hk2
  refine qt [0, 1, 2, 3] ?_
  refine GD (i := 4) HZ (GE (k := j) HZ HZ Jb Jb) Ja HZ HZ ?_
  refine qt [5] ?_
  refine GR (i := 6) HZ (Ho HZ hv2) Ja Ja HZ HZ HZ ?_
  refine qt [7, 8] ?_
  refine Gm (i := 9) Ja HZ HZ (fun _ => ?_)
  refine Ge HZ HZ (uwith_c g T hok c13.1 u hul T[n].kids Jb (show fL T a k c ∈ _ from memA) (show fK T[n] _ _ _ ∈ _ from memA) memA (fun e h0 he => ?_) (fun o q a44 k44 c44 hq => ?_))
  all_goals refine Gi bxA memB ?_
  ·refine qt [10, 11, 12] ?_
   refine Gm (i := 13) Ja HZ HZ (fun _ => ?_)
   refine Gx HZ HZ HZ HZ ?_
   refine GC HZ ?_
   refine qt [14, 15] ?_
   refine Gq Ja ?_
   refine qs 2 ?_
   exact Gn (rs := [.cell 4 _, .tmp 5, .tmp 6]) (L' := L) (F' := F) Tryz.results15 (.agg (j := 1) rfl rfl rfl (.tmp rfl (.tmp rfl .nil))) subA (h4 c13 n rfl hn c25 j hjl c32 u hu hul e h0 he)
  refine qt [10, 11, 12] ?_
  refine Gm (i := 13) Ja HZ HZ (fun _ => ?_)
  refine Gx HZ HZ HZ HZ ?_
  refine GC HZ ?_
  refine qt [14, 15] ?_
  refine Gq Ja ?_
  refine qs 2 ?_
  exact Gn (rs := [.cell 4 _, .tmp 5, .tmp 6]) (L' := L) (F' := fL o a44 k44 c44 :: F) Tryz.results15 (.agg (j := 1) rfl rfl rfl (.tmp rfl (.tmp rfl .nil))) (Sub.drop.trans (Sub.drop.trans (Sub.drop.trans (GX (fun x hx => by repeat (first | exact hx | refine List.mem_cons_of_mem _ ?_)))))) (h5 c13 n rfl hn c25 j hjl c32 u hu hul o q a44 k44 c44 hq)
end
end Go.Sy
namespace Go.Sy
open Go Go.Proofs
theorem kind_at {N : List Ty} {p : Nat} (hp : p < N.length) : kindAt N (p : Int) = N[p].kind := kind_get rfl hp
theorem kind_pre {N M : List Ty} (h : N <+: M) {p : Nat} (hp : p < N.length) : kindAt M (p : Int) = kindAt N (p : Int) := by
  rw [kind_at hp, kind_at (Nat.lt_of_lt_of_le hp h.length_le), get_pre h hp]
theorem subs_kind {N : List Ty} {args : List Int} {p q : Nat} (h : SubS N args p q) (h9 : kindAt N (p : Int) ≠ 9) : kindAt N (q : Int) = kindAt N (p : Int) := by
  cases h with
  | stay hp _ => rfl
  | param hp h _ => rw [kind_at hp] at h9; exact absurd h h9
  | made g hp _ _ _ _ hq hN => rw [kind_at hp, kind_at hq, hN, norm_kind]; rfl
open Classical in
theorem put_add {out : List Ty} {ins : List Int} {t m : Ty} (hm : m = normT out.length t) (hr : rightP out) {l' : List Ty} {i e : Int} (hP : AddP out m l' i e) :
    putS out ins t = if t.kind = 7 ∧ oddP out t then .error 11 else if e = 0 then .ok (l', ins ++ [i]) else .error e := by
  subst hm
  unfold putS
  by_cases c : t.kind = 7 ∧ oddP out t
  · rw [if_pos c, if_pos c]
  rw [if_neg c, if_neg c]
  unfold normT at hP
  rw [addF_is hr hP]
theorem put_mem {out : List Ty} {ins : List Int} {t : Ty} (hr : rightP out) {o : List Ty} {ins2 : List Int} (h : putS out ins t = .ok (o, ins2)) : ∀ x ∈ o, x ∈ out ∨ x = normT out.length t := by
  obtain ⟨m, i, e, hP⟩ := add_has out (normT out.length t)
  rw [put_add rfl hr hP] at h
  split at h
  · cases h
  split at h
  · rename_i he
    injection h with h; injection h with h h'
    subst h
    rcases hP with ⟨q, hq, h1, h2, h3, h4⟩ | ⟨n, ⟨_, h2, _, h4⟩ | ⟨_, _, h2, _, h4⟩ | ⟨hm, hl, h2, h3, h4⟩⟩
    · subst h2; exact fun x hx => .inl hx
    · omega
    · omega
    subst h2
    intro x hx
    rcases List.mem_append.1 hx with h | h
    · exact .inl h
    exact .inr (by simpa using h)
  cases h
theorem put_not1 {out : List Ty} {ins : List Int} {t : Ty} (hr : rightP out) (hm : (t.kind = 7 → ¬ oddP out t) → madeP out (normT out.length t)) {e : Int} (h : putS out ins t = .error e) : e ≠ 1 := by
  obtain ⟨m, i, e2, hP⟩ := add_has out (normT out.length t)
  rw [put_add rfl hr hP] at h
  split at h
  · injection h with h; omega
  rename_i c
  have hmade := hm (fun h7 ho => c ⟨h7, ho⟩)
  split at h
  · cases h
  injection h with h
  subst h
  rcases hP with ⟨q, hq, h1, h2, h3, h4⟩ | ⟨n, ⟨h1, h2, _, h4⟩ | ⟨_, _, h2, _, h4⟩ | ⟨_, hl, h2, h3, h4⟩⟩
  · omega
  · exact absurd hmade h1
  · omega
  omega
theorem zips_mapK (ins : List Int) (t : Ty) : zips (mapK ins t) = (zips t).map fun z => (z.1, ins.getD z.2.toNat 0) := by
  unfold zips mapK; simp only; rw [List.zip_map_right]; rfl
theorem declsR_all {ds : List Tm} (h : ∀ z ∈ ds, ¬ markP z.1) : declsR ds = ds := by
  unfold declsR
  rw [List.filter_eq_self]
  intro z hz
  simpa using h z hz
theorem elems_sub {l out : List Ty} {t : Ty} {ins : List Int} (hE : elemsP l t) (hK : ∀ k ∈ t.kids, kindAt l k = 5 → kindAt out (ins.getD k.toNat 0) = 5) (ho : ¬ oddP out (mapK ins t)) : elemsP out (termsT out.length (mapK ins t)) := by
  obtain ⟨hlen, hn0, hn3, hall⟩ := hE
  obtain ⟨ds, ms, hz, hd, hm, _⟩ := elems_parts (l := l) ⟨hlen, hn0, hn3, hall⟩
  have hzl := zips_kids hlen
  generalize hf : (fun z : Tm => (z.1, ins.getD z.2.toNat 0)) = f
  have hdz : declsR (zips (mapK ins t)) = ds.map f := by
    rw [zips_mapK, hf, hz, List.map_append, declsR_app, declsR_all (fun z hz => ?_), declsR_marks (fun z hz => ?_), List.append_nil]
    · obtain ⟨x, hx, rfl⟩ := List.mem_map.1 hz
      subst hf; exact hm x hx
    obtain ⟨x, hx, rfl⟩ := List.mem_map.1 hz
    subst hf; exact hd x hx
  have hdl : ds.length ≤ t.words.length := by
    have : (zips t).length = ds.length + ms.length := by rw [hz, List.length_append]
    omega
  have hdg : ∀ j (hj : j < ds.length), ds[j] = (t.words[j]'Jb, t.kids[j]'Jb) := by
    intro j hj
    have h1 : (zips t)[j]'Jb = ds[j] := by
      simp only [hz]; rw [List.getElem_append_left hj]
    rw [← h1]; simp [zips]
  refine ⟨by simp [termsT], hn0, hn3, ?_⟩
  intro i hi
  generalize hD : declsR (zips (mapK ins t)) ++ termsR out.length (zips (mapK ins t)) = D
  have hTw : (termsT out.length (mapK ins t)).words = D.map (·.1) := by unfold termsT; simp only [hD]
  have hTk : (termsT out.length (mapK ins t)).kids = D.map (·.2) := by unfold termsT; simp only [hD]
  have hTn : (termsT out.length (mapK ins t)).n = t.n := rfl
  have hiD : i < D.length := by rw [hTw, List.length_map] at hi; exact hi
  have hw : (termsT out.length (mapK ins t)).words[i] = D[i].1 := by simp only [hTw, List.getElem_map]
  have hk : kidAt (termsT out.length (mapK ins t)) i = D[i].2 := by
    unfold kidAt; rw [hTk, GK _ (by rw [List.length_map]; exact hiD), List.getElem_map]
  have hwp : 0 < i → (termsT out.length (mapK ins t)).words.getD (i - 1) [] = (D[i - 1]'Jb).1 := fun h0 => by
    rw [hTw, GK _ (by rw [List.length_map]; omega), List.getElem_map]
  have hkp : 0 < i → kidAt (termsT out.length (mapK ins t)) (i - 1) = (D[i - 1]'Jb).2 := fun h0 => by
    unfold kidAt; rw [hTk, GK _ (by rw [List.length_map]; omega), List.getElem_map]
  have hDd : ∀ j (hj : j < ds.length), D[j]'(by rw [← hD, List.length_append, hdz, List.length_map]; omega) = f ds[j] := by
    intro j hj
    simp only [← hD]
    rw [List.getElem_append_left (by rw [hdz, List.length_map]; exact hj)]
    simp only [hdz, List.getElem_map]
  have hDm : ∀ j (hj : j < D.length), ds.length ≤ j → ∃ h : j - ds.length < (termsR out.length (zips (mapK ins t))).length, D[j] = (termsR out.length (zips (mapK ins t)))[j - ds.length] := by
    intro j hj hge
    have hl9 : (declsR (zips (mapK ins t))).length = ds.length := by rw [hdz, List.length_map]
    have hl8 : D.length = ds.length + (termsR out.length (zips (mapK ins t))).length := by rw [← hD, List.length_append, hl9]
    refine ⟨by omega, ?_⟩
    simp only [← hD]
    rw [List.getElem_append_right Jb]
    simp only [hl9]
  unfold elemAtP
  rw [hw, hk]
  by_cases c : i < ds.length
  · right
    have hEi := hall i Jb
    have hdi := hd _ (List.getElem_mem c)
    rw [hdg i c] at hdi
    have hki : kidAt t i = t.kids[i]'Jb := by unfold kidAt; exact GK _ _
    rcases hEi with h | ⟨h1, h2, h3, h4⟩
    · exact absurd h.1 hdi
    rw [hDd i c, hdg i c]
    subst hf
    simp only
    rw [hki] at h3
    refine ⟨h1, h2, hK _ (List.getElem_mem _) h3, fun h0 => ?_⟩
    rw [hwp h0, hDd (i - 1) Jb, hdg (i - 1) Jb]
    have := h4 h0
    rw [GK _ Jb] at this
    exact this
  left
  obtain ⟨hx, hDi⟩ := hDm i hiD Jb
  have hzm : D[i] ∈ termsR out.length (zips (mapK ins t)) := hDi ▸ List.getElem_mem hx
  have hmk := termsR_mark hzm
  obtain ⟨e1, e2, e3, e4⟩ := (termsR_mem _ _ _).1 hzm
  obtain ⟨z0, hz0, hm0, hk0⟩ := markOf_kid _ _ (by rw [← e1]; exact e2)
  have hodd : ¬ (kindAt out D[i].2 = 7 ∨ kindAt out D[i].2 = 9 ∨ (14 ≤ D[i].2 ∧ D[i].2 ≤ 19)) := fun h => ho ⟨z0, hz0, hm0, by rw [hk0]; exact h⟩
  have hn2 : 2 ≤ t.n := by
    rw [zips_mapK] at hz0
    obtain ⟨y, hy, rfl⟩ := List.mem_map.1 hz0
    obtain ⟨j, hj, rfl⟩ := List.getElem_of_mem hy
    have hg : (zips t)[j].1 = t.words[j]'Jb := by simp [zips]
    rcases hall j Jb with h | h
    · exact h.2.1
    simp only [hg] at hm0; exact absurd hm0 h.1
  refine ⟨hmk, hn2, fun h => hodd (.inl h), fun h => hodd (.inr (.inl h)), fun h => hodd (.inr (.inr h)), fun h0 hmp => ?_⟩
  rw [hwp h0] at hmp
  rw [hkp h0]
  by_cases c2 : i - 1 < ds.length
  · rw [hDd _ c2] at hmp
    subst hf
    exact absurd hmp (hd ds[i - 1] (List.getElem_mem c2))
  obtain ⟨hx2, hDp⟩ := hDm (i - 1) Jb Jb
  rw [hDi, hDp]
  exact List.pairwise_iff_getElem.1 (termsR_sorted out.length (zips (mapK ins t))) _ _ hx2 hx Jb
theorem made_sub {l out : List Ty} {t : Ty} {ins : List Int} (hM : madeP l t) (h9 : t.kind ≠ 9) (hin : ∀ k ∈ t.kids, 0 ≤ ins.getD k.toNat 0 ∧ ins.getD k.toNat 0 < out.length) (hK : ∀ k ∈ t.kids, kindAt l k = 5 → kindAt out (ins.getD k.toNat 0) = 5) (ho : t.kind = 7 → ¬ oddP out (mapK ins t)) :
    madeP out (normT out.length (mapK ins t)) := by
  obtain ⟨hkids, h16, hname, hwords, hm⟩ := hM
  have hmk : ∀ k ∈ (mapK ins t).kids, 0 ≤ k ∧ k < out.length := by
    intro k hk
    obtain ⟨x, hx, rfl⟩ := List.mem_map.1 hk
    exact hin x hx
  have hml : (mapK ins t).kids.length = t.kids.length := by simp [mapK]
  by_cases h7 : t.kind = 7
  · have hE := (madeK_7 h7).1 hm
    have hn : normT out.length (mapK ins t) = termsT out.length (mapK ins t) := by unfold normT; rw [if_pos (show (mapK ins t).kind = 7 from h7)]
    have hwl : (mapK ins t).words.length = (mapK ins t).kids.length := by rw [hml]; exact hE.1
    rw [hn]
    refine ⟨fun k hk => ?_, by have := (termsT_len hwl hmk).1; omega, fun _ => rfl, fun _ e => absurd h7 e, (madeK_7 (show (termsT out.length (mapK ins t)).kind = 7 from h7)).2 (elems_sub hE hK (ho h7))⟩
    have := (terms_kids hwl hmk k).1 hk
    exact hmk k this
  have hn : normT out.length (mapK ins t) = mapK ins t := by unfold normT; rw [if_neg (show ¬ (mapK ins t).kind = 7 from h7)]
  rw [hn]
  refine ⟨hmk, by omega, hname, hwords, ?_⟩
  unfold madeK at hm ⊢
  simp only [mapK, List.length_map] at hm ⊢
  rcases hm with h | h | h | h | h | h | h | h | h
  · exact .inl h
  · exact .inr (.inl h)
  · exact .inr (.inr (.inl h))
  · exact .inr (.inr (.inr (.inl h)))
  · exact .inr (.inr (.inr (.inr (.inl h))))
  · exact .inr (.inr (.inr (.inr (.inr (.inl h)))))
  · exact absurd h.1 h7
  · exact .inr (.inr (.inr (.inr (.inr (.inr (.inr (.inl h)))))))
  exact absurd h.1 h9
section
variable {l : List Ty} {args : List Int} {i : Nat}
theorem ask_start {l : List Ty} (hr : rightP l) {q : Nat} (hq : q < l.length) (h22 : q < 22) : askAt l q = 0 := by
  have h := hr.2.2 q hq
  unfold rowAt at h
  rw [if_pos h22] at h
  have hql : q < startL.length := by rw [start_len]; exact h22
  rw [start_get hql] at h
  obtain ⟨h1, _, h3, _⟩ := start_plain _ (List.getElem_mem hql)
  rw [ask_one hq, h]
  unfold ask1 ask0
  rw [h1, if_neg h3]; rfl
theorem right_made {l : List Ty} (hr : rightP l) {q : Nat} (hq : q < l.length) (h : askAt l q ≠ 0) : madeP (l.take q) l[q] := by
  have h2 := hr.2.2 q hq
  unfold rowAt at h2
  by_cases c : q < 22
  · exact absurd (ask_start hr hq c) h
  rw [if_neg c] at h2; exact h2.1
theorem sub_made (hr : rightP l) (hi : i < l.length) (hgood : ∀ a ∈ args, 0 ≤ a ∧ a < l.length) (hlen : (asksL (l.take (i + 1))).getD i 0 ≤ args.length) {q : Nat} (hq : q < i + 1) {out : List Ty} {ins : List Int} (hs : subN l args (asksL (l.take (i + 1))) (partsL l i) q = .ok (out, ins))
    (hM : (partsL l i).getD q false = true) (hA : (asksL (l.take (i + 1))).getD q 0 ≠ 0) (hql : q < l.length) (h9 : l[q].kind ≠ 9) : ((mapK ins l[q]).kind = 7 → ¬ oddP out (mapK ins l[q])) → madeP out (normT out.length (mapK ins l[q])) := by
  intro ho
  obtain ⟨hso, hS⟩ := sub_sound hr hi hgood hlen q Jb out ins hs
  have hmade := right_made hr hql (by rw [← ask_in hi Jb]; exact hA)
  have hrt := GT hr hql
  have hol := hso.pre.length_le
  refine made_sub hmade h9 (fun k hk => ?_) (fun k hk h5 => ?_) ho
  · have := hrt.kids k hk
    exact hso.ins k.toNat Jb
  have hb := hrt.kids k hk
  have hkl : k.toNat < l.length := by omega
  have e : ((k.toNat : Nat) : Int) = k := by omega
  have hSk := hS k.toNat Jb (parts_kid hr hi Jb hM hk)
  have h5' : kindAt out ((k.toNat : Nat) : Int) = 5 := by
    rw [kind_pre hso.pre hkl, e, ← h5]
    unfold kindAt
    rw [List.getElem?_take_of_lt Jb]
  have hin := hso.ins k.toNat Jb
  have := subs_kind hSk (by rw [h5']; decide)
  rw [h5'] at this
  have e2 : (((ins.getD k.toNat 0).toNat : Nat) : Int) = ins.getD k.toNat 0 := by omega
  rwa [e2] at this
theorem sub_not1 (hr : rightP l) (hi : i < l.length) (hgood : ∀ a ∈ args, 0 ≤ a ∧ a < l.length) (hlen : (asksL (l.take (i + 1))).getD i 0 ≤ args.length) {e : Int} : ∀ q, q ≤ i + 1 → subN l args (asksL (l.take (i + 1))) (partsL l i) q = .error e → e ≠ 1
  | 0, _, h => by cases h
  | q + 1, hq, h => by
    cases hs : subN l args (asksL (l.take (i + 1))) (partsL l i) q with
    | error e2 =>
      rw [subN, hs] at h
      injection h with h
      subst h
      exact sub_not1 hr hi hgood hlen q Jb hs
    | ok x =>
      obtain ⟨out, ins⟩ := x
      obtain ⟨hso, _⟩ := sub_sound hr hi hgood hlen q Jb out ins hs
      have hql : q < l.length := by omega
      by_cases c : (partsL l i).getD q false = false ∨ (asksL (l.take (i + 1))).getD q 0 = 0
      · rw [sub_out hs c] at h; cases h
      have hM1 : (partsL l i).getD q false = true := by
        cases hx : (partsL l i).getD q false
        · exact absurd (.inl hx) c
        rfl
      have hA : (asksL (l.take (i + 1))).getD q 0 ≠ 0 := fun h0 => c (.inr h0)
      by_cases h9 : l[q].kind = 9
      · rw [sub_param hs hM1 hA hql h9] at h; cases h
      rw [sub_put hs hM1 hA hql h9] at h
      exact put_not1 hso.right (sub_made hr hi hgood hlen Jb hs hM1 hA hql h9) h
theorem fits_sub {N : List Nmd} {t : Ty} (ins : List Int) (m : Nat) (h : fitsU N t) : fitsU N (normT m (mapK ins t)) := by
  intro h8
  rw [norm_kind] at h8
  have hn : normT m (mapK ins t) = mapK ins t := by unfold normT; rw [if_neg (by rw [h8]; decide)]
  rw [hn]
  obtain ⟨j, h1, h2⟩ := h h8
  exact ⟨j, h1, by rw [h2]; simp [mapK]⟩
theorem sub_fits {N : List Nmd} (hr : rightP l) (hi : i < l.length) (hgood : ∀ a ∈ args, 0 ≤ a ∧ a < l.length) (hlen : (asksL (l.take (i + 1))).getD i 0 ≤ args.length) (hf : ∀ t ∈ l, fitsU N t) : ∀ q, q ≤ i + 1 → ∀ out ins, subN l args (asksL (l.take (i + 1))) (partsL l i) q = .ok (out, ins) → ∀ t ∈ out, fitsU N t
  | 0, _, out, ins, h => by
    injection h with h; injection h with h h'
    subst h; exact hf
  | q + 1, hq, out2, ins2, h => by
    cases hs : subN l args (asksL (l.take (i + 1))) (partsL l i) q with
    | error e => rw [subN, hs] at h; cases h
    | ok x =>
      obtain ⟨out, ins⟩ := x
      have ih := sub_fits hr hi hgood hlen hf q Jb out ins hs
      obtain ⟨hso, _⟩ := sub_sound hr hi hgood hlen q Jb out ins hs
      have hql : q < l.length := by omega
      by_cases c : (partsL l i).getD q false = false ∨ (asksL (l.take (i + 1))).getD q 0 = 0
      · rw [sub_out hs c] at h
        injection h with h; injection h with h h'
        subst h; exact ih
      have hM1 : (partsL l i).getD q false = true := by
        cases hx : (partsL l i).getD q false
        · exact absurd (.inl hx) c
        rfl
      have hA : (asksL (l.take (i + 1))).getD q 0 ≠ 0 := fun h0 => c (.inr h0)
      by_cases h9 : l[q].kind = 9
      · rw [sub_param hs hM1 hA hql h9] at h
        injection h with h; injection h with h h'
        subst h; exact ih
      rw [sub_put hs hM1 hA hql h9] at h
      intro t ht
      rcases put_mem hso.right h t ht with e | e
      · exact ih t e
      rw [e]; exact fits_sub ins _ (hf _ (List.getElem_mem hql))
theorem subR_fits {N : List Nmd} (hr : rightP l) (hi : i < l.length) (hf : ∀ t ∈ l, fitsU N t) {o : List Ty} {q : Int} (h : subR l i args = .ok (o, q)) : ∀ t ∈ o, fitsU N t := by
  by_cases hb : badArgs l i args
  · rw [subR_bad hb] at h; cases h
  obtain ⟨hgood, hlen⟩ := good_args hb
  cases hs : subN l args (asksL (l.take (i + 1))) (partsL l i) (i + 1) with
  | error e => rw [HT hb (Nat.le_refl _) hs] at h; cases h
  | ok x =>
    obtain ⟨out, ins⟩ := x
    rw [subR_ok hb hs] at h
    injection h with h; injection h with h h'
    subst h
    exact sub_fits hr hi hgood hlen hf (i + 1) (Nat.le_refl _) out ins hs
end
theorem isK_pre {N M : List Ty} (h : N <+: M) {i x : Int} (h0 : 0 ≤ i) (hi : i < N.length) : isK M i x ↔ isK N i x := by
  have hl := h.length_le
  obtain ⟨n, rfl⟩ : ∃ n : Nat, i = (n : Int) := ⟨i.toNat, by omega⟩
  unfold isK
  rw [kind_pre h Jb]
  constructor
  · rintro ⟨a, b, c⟩; exact ⟨a, hi, c⟩
  rintro ⟨a, b, c⟩; exact ⟨a, by omega, c⟩
theorem isK_up {N M : List Ty} (h : N <+: M) {i x : Int} (hk : isK N i x) : isK M i x := (isK_pre h hk.1 hk.2.1).2 hk
theorem few_up {N M : List Ty} (h : N <+: M) {i x : Int} (hk : fewA N i x) : fewA M i x := by
  have hl := h.length_le
  obtain ⟨h1, h2, h3⟩ := hk
  exact ⟨h1, by omega, by rw [ask_pre h Jb]; exact h3⟩
theorem named_up {T M : List Ty} (h : T <+: M) {n : Nmd} (hn : namedU T n) : namedU M n := by
  obtain ⟨h1, ⟨h2, h3⟩, ⟨h4, h5, h6, h7⟩, h8, h9, h10⟩ := hn
  have hu := h4
  refine ⟨h1, ⟨h2, fun b hb => ⟨isK_up h (h3 b hb).1, few_up h (h3 b hb).2⟩⟩, ⟨few_up h h4, fun e => h5 ((isK_pre h hu.1 hu.2.1).1 e), fun e => h6 ((isK_pre h hu.1 hu.2.1).1 e), h7⟩, h8, fun i hi => ?_, fun hne => ⟨fun e => (h10 hne).1 ((isK_pre h hu.1 hu.2.1).1 e), fun e => (h10 hne).2 ((isK_pre h hu.1 hu.2.1).1 e)⟩⟩
  obtain ⟨a, b, c, d⟩ := h9 i hi
  exact ⟨a, isK_up h b, few_up h c, d⟩
theorem rightU_up {T M : List Ty} {N : List Nmd} (h : T <+: M) (hu : rightU T N) (hr : rightP M) (hf : ∀ t ∈ M, fitsU N t) : rightU M N :=
  ⟨hr, hu.2.1, fun i hi => ⟨named_up h (hu.2.2.1 i hi).1, (hu.2.2.1 i hi).2⟩, hf⟩
theorem rightU_sub {T : List Ty} {N : List Nmd} (hu : rightU T N) {u : Nat} (hul : u < T.length) {args : List Int} {o : List Ty} {q : Int} (h : subR T u args = .ok (o, q)) : rightU o N ∧ T <+: o ∧ 0 ≤ q ∧ q < o.length ∧ SubS o args u q.toNat := by
  obtain ⟨_, h1, h2, h3, h4, h5⟩ := subR_sound hu.1 hul h
  exact ⟨rightU_up h2 hu h1 (subR_fits hu.1 hul hu.2.2.2 h), h2, h3, h4, h5⟩
end Go.Sy
namespace Go.Sy
open Go Go.Proofs Go.RowKit
def ownZ (zs : List Tm) : List Mth := (zs.filter fun z => isName z.1).map fun z => ⟨z.1, false, z.2⟩
theorem ownZ_yes {zs : List Tm} {q : Nat} (hq : q < zs.length) (h : isName zs[q].1 = true) : ownZ (zs.take q) ++ [⟨zs[q].1, false, zs[q].2⟩] = ownZ (zs.take (q + 1)) := by
  unfold ownZ
  rw [List.take_succ_eq_append_getElem hq, List.filter_append, List.map_append]
  simp [h]
theorem ownZ_no {zs : List Tm} {q : Nat} (hq : q < zs.length) (h : isName zs[q].1 = false) : ownZ (zs.take q) = ownZ (zs.take (q + 1)) := by
  unfold ownZ
  rw [List.take_succ_eq_append_getElem hq, List.filter_append, List.map_append]
  simp [h]
theorem ownZ_len (zs : List Tm) : (ownZ zs).length ≤ zs.length := by
  unfold ownZ; rw [List.length_map]; exact List.length_filter_le ..
def msOk (T : List Ty) (ms : List Mth) : Prop := ∀ i (hi : i < ms.length), isK T ms[i].sig 5 ∧ (0 < i → Op.bytesLess (ms[i - 1]'Jb).name ms[i].name = true)
attribute [local irreducible] AC AT AO AK AH ACalls Sub Res.cells Res.obj Res.nix Res.own Res.map Exit.then Exit.inBlock bodyPost Code.wp Code.wpIn WL Next Post Kont
section
variable {W0 : World} {L : List Res} {F : List Fact} {R : Value → List Res → List Fact → Prop}
set_option maxRecDepth 100000
set_option maxHeartbeats 16000000
theorem own_c (t : Ty) (hw : t.words.length = t.kids.length) (hl : t.kids.length ≤ 20) {a3 a4 : Option Addr} {k3 c3 k4 c4 : Nat} (m3 : fW t a3 k3 c3 ∈ F) (m4 : fK t a4 k4 c4 ∈ F)
    (h : ∀ a k c, R (.slice a k c) L (fMs (ownZ (zips t)) a k c :: F)) : ACalls Tryz.prog W0 57 #[vTy t a3 k3 c3 a4 k4 c4] L F R := by
  have hzl := zips_len hw
  refine Gg Tryz.func57 HZ Tryz.ntmps57 HZ ?_
  refine qs 2 ?_
  refine Ga (GL HZ HZ (fun b1 => ?_))
  refine qs 13 ?_
  refine Ga (Gt HZ HZ (fun hl8 => ?_) (enc := eS) (lst := t.words) (hm := m3))
  refine qs 4 ?_
  refine GB (fun (x : Nat × Option Addr × Nat × Nat) => x.1 ≤ t.words.length) (fun x => [(1, .pointer (some ⟨b1, 0, none⟩)), (3, .slice x.2.1 x.2.2.1 x.2.2.2), (7, .slice a3 k3 c3), (8, .int .i64 t.words.length), (9, .int .i64 (x.1 : Int))]) (fun x => Res.own (.slice x.2.1 x.2.2.1 x.2.2.2) 44 3 ((ownZ ((zips t).take x.1)).map eMt) :: _) (fun _ => F) (fun x => t.words.length - x.1) (0, none, 0, 0) (by simp) srA GZ ?_
  rintro ⟨q, a5, k5, c5⟩ hq
  simp only at hq ⊢
  refine qs 2 ?_
  refine Ga (Gw HZ HZ HZ (fun c10 => ?_) (fun c10 => ?_))
  ·refine qs 11 ?_
   have hql : q < t.words.length := by omega
   have hqk : q < t.kids.length := by omega
   have hqz : q < (zips t).length := by omega
   have hzg := zips_get hql hqk hqz
   have hol := ownZ_len ((zips t).take q)
   have htl : ((zips t).take q).length = q := by rw [List.length_take]; omega
   refine Ga (Gd HZ HZ HZ HZ (show fW t _ _ _ ∈ _ from memA) hql (fun _ _ => ?_))
   refine Ga (Gs HZ HZ ?_)
   intros
   refine qs 7 ?_
   refine Ga (Ge HZ HZ (HP t.words[q] (fun c15 => ?_) (fun c15 => ?_)))
   ·refine qs 9 ?_
    refine Ga (Gd HZ HZ HZ HZ (show fK t _ _ _ ∈ _ from memA) hqk (fun _ _ => ?_))
    refine Ga (Gs HZ HZ ?_)
    intros
    refine Ga (GO HZ HZ HZ ?_)
    refine Ga (Gl HZ HZ HZ HZ HZ (fun b24 => ?_))
    refine Ga (GJ (i := 0) (enc := eMt) (lst := ownZ ((zips t).take q)) [⟨t.words[q], false, t.kids[q]⟩] HZ HZ HZ HZ (.val (.val (.val .nil))) HZ HZ (fun _ => rfl) (by simp only [maxLen]; omega) Jb (fun a25 k25 c25 => ?_))
    have hy := ownZ_yes hqz (by rw [hzg]; exact c15)
    rw [hzg] at hy
    rw [hy]
    refine qs 8 ?_
    exact Gk (q + 1, a25, k25, c25) (by simp only; omega) (by simp only; omega) srA subF
   refine qs 10 ?_
   refine Gk (q + 1, a5, k5, c5) (by simp only; omega) (by simp only; omega) srA ?_
   rw [ownZ_no hqz (by rw [hzg]; exact c15)]
   exact subF
  refine qs 11 ?_
  refine Ga (HV HZ HZ ?_)
  have hall : (zips t).take q = zips t := List.take_of_length_le Jb
  rw [hall]
  refine GH (Gz (i := 0) HZ) ?_
  refine qs 4 ?_
  exact Gb (L' := L) (F' := fMs (ownZ (zips t)) a5 k5 c5 :: F) Tryz.results57 rfl (Sub.drop.trans (Sub.drop.trans (GX (fun x hx => by repeat (first | exact hx | refine List.mem_cons_of_mem _ ?_))))) (h _ _ _)
theorem cloneM_c (ms : List Mth) (hl : ms.length ≤ 1000) {a : Option Addr} {k c : Nat} (m1 : fMs ms a k c ∈ F) (h : ∀ a k c, R (.slice a k c) (Res.own (.slice a k c) 44 3 (ms.map eMt) :: L) F) : ACalls Tryz.prog W0 58 #[.slice a k c] L F R := by
  refine Gg Tryz.func58 HZ Tryz.ntmps58 HZ ?_
  refine qs 9 ?_
  refine Ga (AO.eqlSN Tryz.underlying40 HZ HZ HZ (fun c4 => ?_) (fun b4 c4 => ?_))
  ·refine qs 10 ?_
   first
   | exact Gb Tryz.results58 rfl (Gf _ _) (h a7 k7 z7)
   | (subst c4; exact Gb (F' := F) Tryz.results58 rfl (Sub.ownNone m1) (h none 0 0))
  refine qs 7 ?_
  refine Ga (He HZ (fun b5 => ?_))
  refine GH (Hz (i := 0) (k := 0) (sz := 3) (enc := eMt) [] HZ .nil (fun _ => rfl) HZ (by decide)) ?_
  refine qs 1 ?_
  refine Ga (GU (i := 0) (enc := eMt) (lst := []) (lst2 := ms) rfl rfl rfl rfl memA (fun x d hd v hv => by subst hv; simp at hd; rcases hd with rfl | rfl | rfl <;> rfl) (fun _ => rfl) (by simp only [maxLen, List.length_nil]; omega) (by simp only [List.length_nil]; omega) (fun a7 k7 z7 => ?_))
  refine qs 4 ?_
  first
  | exact Gb Tryz.results58 rfl (Gf _ _) (h a7 k7 z7)
  | (subst c4; exact Gb (F' := F) Tryz.results58 rfl (Sub.ownNone m1) (h none 0 0))
structure MthU (T : List Ty) (N : List Nmd) (ms : List Mth) (q : Nat) (o : List Ty) (out : List Mth) : Prop where
  right : rightU o N
  pre : T <+: o
  len : out.length = ms.length
  done : ∀ j (hj : j < out.length) (hm : j < ms.length), j < q → out[j].name = ms[j].name ∧ isK o out[j].sig 5
  rest : ∀ j (hj : j < out.length) (hm : j < ms.length), q ≤ j → out[j] = ms[j]
theorem MthU.step {T : List Ty} {N : List Nmd} {ms : List Mth} {q : Nat} {o : List Ty} {out : List Mth} (h : MthU T N ms q o out) (_ : q < ms.length) (hq2 : q < out.length) {o2 : List Ty} {x : Int} (hr : rightU o2 N) (hp : o <+: o2) (hk : isK o2 x 5) : MthU T N ms (q + 1) o2 (out.set q ⟨out[q].name, out[q].ptr, x⟩) := by
  refine ⟨hr, h.pre.trans hp, by rw [List.length_set]; exact h.len, fun j hj hm hjq => ?_, fun j hj hm hjq => ?_⟩
  · rw [List.length_set] at hj
    by_cases e : q = j
    · subst e
      rw [List.getElem_set_self]
      exact ⟨by rw [h.rest q hj hm (Nat.le_refl _)], hk⟩
    rw [List.getElem_set_ne e]
    have := h.done j hj hm Jb
    exact ⟨this.1, isK_up hp this.2⟩
  rw [List.length_set] at hj
  rw [List.getElem_set_ne Jb]
  exact h.rest j hj hm Jb
theorem MthU.ok {T : List Ty} {N : List Nmd} {n : Nmd} {o : List Ty} {out : List Mth} (hm : methodsP T n) (h : MthU T N n.methods n.methods.length o out) : msOk o out := by
  intro i hi
  have hl := h.len
  have h1 := h.done i hi Jb Jb
  refine ⟨h1.2, fun h0 => ?_⟩
  have h2 := h.done (i - 1) Jb Jb Jb
  have h3 := (hm.2.1 i Jb).2.2.2 h0
  rw [GK default Jb] at h3
  rw [h1.1, h2.1]
  exact h3
end
end Go.Sy
namespace Go.Sy
open Go Go.Proofs
def stepsN {σ ε : Type} (f : Nat → σ → Except ε σ) (s : σ) : Nat → Except ε σ
  | 0 => .ok s
  | q + 1 => match stepsN f s q with
    | .error e => .error e
    | .ok x => f q x
section
variable {σ ε : Type} {f : Nat → σ → Except ε σ} {s x : σ} {e : ε} {q : Nat}
theorem stepsN_ok (h : stepsN f s q = .ok x) : stepsN f s (q + 1) = f q x := by simp only [stepsN, h]
theorem stepsN_err (h : stepsN f s q = .error e) : ∀ r, q ≤ r → stepsN f s r = .error e
  | 0, hr => by obtain rfl : q = 0 := by omega
                exact h
  | r + 1, hr => by
    by_cases c : q = r + 1
    · subst c; exact h
    simp only [stepsN, stepsN_err h r Jb]
theorem stepsN_bad (h : stepsN f s q = .ok x) (h2 : f q x = .error e) {r : Nat} (hr : q < r) : stepsN f s r = .error e := stepsN_err (q := q + 1) (by rw [stepsN_ok h]; exact h2) r hr
theorem stepsN_inv (I : Nat → σ → Prop) (h0 : I 0 s) (hs : ∀ q x y, I q x → f q x = .ok y → I (q + 1) y) : ∀ q x, stepsN f s q = .ok x → I q x
  | 0, x, h => by injection h with h; exact h ▸ h0
  | q + 1, y, h => by
    cases hq : stepsN f s q with
    | error e => simp [stepsN, hq] at h
    | ok x => rw [stepsN_ok hq] at h; exact hs q x y (stepsN_inv I h0 hs q x hq) h
end
structure Ent where
  typ : Int
  via : Bool
  many : Bool
  path : List Int
deriving DecidableEq
structure Wht where
  under : Int
  ms : List Mth
deriving DecidableEq
structure SelV where
  method : Bool
  typ : Int
  ptr : Bool
  via : Bool
  path : List Int
deriving DecidableEq
instance : Inhabited Ent := ⟨⟨0, false, false, []⟩⟩
instance : Inhabited Wht := ⟨⟨0, []⟩⟩
abbrev eEn (e : Ent) : List D := [.val (.int .i64 e.typ), .val (.bool e.via), .val (.bool e.many), .slc 1 (e.path.map eI)]
abbrev eWh (w : Wht) : List D := [.val (.int .i64 w.under), .slc 3 (w.ms.map eMt)]
abbrev eSl (s : SelV) : List D := [.val (.bool s.method), .val (.int .i64 s.typ), .val (.bool s.ptr), .val (.bool s.via), .slc 1 (s.path.map eI)]
abbrev vEn (e : Ent) (a : Option Addr) (k c : Nat) : Value := .agg #[.int .i64 e.typ, .bool e.via, .bool e.many, .slice a k c]
abbrev vWh (w : Wht) (a : Option Addr) (k c : Nat) : Value := .agg #[.int .i64 w.under, .slice a k c]
abbrev vSl (s : SelV) (a : Option Addr) (k c : Nat) : Value := .agg #[.bool s.method, .int .i64 s.typ, .bool s.ptr, .bool s.via, .slice a k c]
abbrev fEn (l : List Ent) (a : Option Addr) (k c : Nat) : Fact := .slc (.slice a k c) 4 (l.map eEn)
abbrev fWh (l : List Wht) (a : Option Addr) (k c : Nat) : Fact := .slc (.slice a k c) 2 (l.map eWh)
abbrev fSl (l : List SelV) (a : Option Addr) (k c : Nat) : Fact := .slc (.slice a k c) 5 (l.map eSl)
def tyAt (T : List Ty) (i : Int) : Ty := T.getD i.toNat (basicT [])
theorem tyAt_get {T : List Ty} {n : Nat} (h : n < T.length) : tyAt T (n : Int) = T[n] := by unfold tyAt; rw [Int.toNat_natCast]; exact GK _ h
theorem tyAt_get' {T : List Ty} {i : Int} (h0 : 0 ≤ i) (h : i < T.length) : ∃ hn : i.toNat < T.length, tyAt T i = T[i.toNat] := ⟨by omega, by unfold tyAt; exact GK _ Jb⟩
theorem tyAt_pre {T M : List Ty} (h : T <+: M) {i : Int} (h0 : 0 ≤ i) (hi : i < T.length) : tyAt M i = tyAt T i := by
  have := h.length_le
  obtain ⟨hn, e⟩ := tyAt_get' h0 hi
  obtain ⟨hn2, e2⟩ := tyAt_get' (T := M) h0 Jb
  rw [e, e2, get_pre h hn]
noncomputable def undR (T : List Ty) (N : List Nmd) (i : Int) : Except Int (List Ty × Int) :=
  if (tyAt T i).kind = 8 then match atN N (tyAt T i).name with
    | some j => subR T (N.getD j default).under.toNat (tyAt T i).kids
    | none => .error 1
  else .ok (T, i)
noncomputable def turnR (kids : List Int) (ms : List Mth) (T : List Ty) : Nat → Except Int (List Ty × List Mth) :=
  stepsN (fun q x => match subR x.1 (ms.getD q default).sig.toNat kids with
    | .error e => .error e
    | .ok (o, y) => .ok (o, x.2 ++ [⟨(ms.getD q default).name, (ms.getD q default).ptr, y⟩])) (T, [])
noncomputable def ownR (T : List Ty) (N : List Nmd) (i : Int) : Except Int (List Ty × List Mth) :=
  if (tyAt T i).kind = 7 then .ok (T, ownZ (zips (tyAt T i)))
  else if (tyAt T i).kind = 8 then match atN N (tyAt T i).name with
    | some j => turnR (tyAt T i).kids (N.getD j default).methods T (N.getD j default).methods.length
    | none => .error 1
  else .ok (T, [])
noncomputable def lookR (T : List Ty) (N : List Nmd) (i : Int) : Except Int (List Ty × Wht) :=
  match undR T N i with
  | .error e => .error e
  | .ok (T1, k) => match ownR T1 N (if (tyAt T1 k).kind = 7 then k else i) with
    | .error e => .error e
    | .ok (T2, ms) => .ok (T2, ⟨k, ms⟩)
noncomputable def looksR (N : List Nmd) (T : List Ty) (lev : List Ent) : Nat → Except Int (List Ty × List Wht) :=
  stepsN (fun q x => match lookR x.1 N (lev.getD q default).typ with
    | .error e => .error e
    | .ok (o, w) => .ok (o, x.2 ++ [w])) (T, [])
noncomputable def firstR (T : List Ty) (N : List Nmd) (i : Int) : Except Int (List Ty × List Ent) :=
  if (tyAt T i).kind = 1 then match undR T N ((tyAt T i).kids.getD 0 0) with
    | .error e => .error e
    | .ok (T1, k) => if (tyAt T1 k).kind = 1 ∨ (tyAt T1 k).kind = 7 then .ok (T, []) else .ok (T1, [⟨(tyAt T i).kids.getD 0 0, true, false, []⟩])
  else .ok (T, [⟨i, false, false, []⟩])
def plusW (w : List UInt8) : Bool := w.head? == some 43
def entE (T : List Ty) (e : Ent) (t : Ty) (k : Nat) : Ent :=
  if (tyAt T (t.kids.getD k 0)).kind = 1 then ⟨(tyAt T (t.kids.getD k 0)).kids.getD 0 0, true, e.many, e.path ++ [(k : Int)]⟩ else ⟨t.kids.getD k 0, e.via, e.many, e.path ++ [(k : Int)]⟩
def typs (l : List Ent) : List Int := l.map (·.typ)
def manyE (t : Int) (e : Ent) : Ent := if e.typ = t then ⟨e.typ, e.via, true, e.path⟩ else e
def addE (out : List Ent) (seen : List Int) (x : Ent) : List Ent :=
  if x.typ ∈ typs out then out.map (manyE x.typ) else if x.typ ∈ seen then out else out ++ [x]
def innerN (T : List Ty) (e : Ent) (t : Ty) (seen : List Int) (out : List Ent) : Nat → List Ent
  | 0 => out
  | k + 1 => if plusW (t.words.getD k []) = true then addE (innerN T e t seen out k) seen (entE T e t k) else innerN T e t seen out k
def outerN (T : List Ty) (lev : List Ent) (ws : List Wht) (seen : List Int) : Nat → List Ent
  | 0 => []
  | q + 1 => if (tyAt T (ws.getD q default).under).kind = 6 then innerN T (lev.getD q default) (tyAt T (ws.getD q default).under) seen (outerN T lev ws seen q) (tyAt T (ws.getD q default).under).words.length else outerN T lev ws seen q
def nextL (T : List Ty) (lev : List Ent) (ws : List Wht) (seen : List Int) : List Ent := outerN T lev ws seen lev.length
def hadM (w : Wht) (e : Ent) (s : List UInt8) : Nat → List SelV
  | 0 => []
  | k + 1 => if (w.ms.getD k default).name = s then hadM w e s k ++ [⟨true, (w.ms.getD k default).sig, (w.ms.getD k default).ptr, e.via, e.path⟩] else hadM w e s k
def hadF (t : Ty) (e : Ent) (s : List UInt8) (l : List SelV) : Nat → List SelV
  | 0 => l
  | k + 1 => if fieldN (t.words.getD k []) = s then hadF t e s l k ++ [⟨false, t.kids.getD k 0, false, e.via, e.path ++ [(k : Int)]⟩] else hadF t e s l k
def had1 (T : List Ty) (w : Wht) (e : Ent) (s : List UInt8) (l : List SelV) : List SelV :=
  let m := l ++ hadM w e s w.ms.length
  if (tyAt T w.under).kind = 6 then hadF (tyAt T w.under) e s m (tyAt T w.under).words.length else m
def hadE (T : List Ty) (w : Wht) (e : Ent) (s : List UInt8) : List SelV := if e.many = true then had1 T w e s [] ++ had1 T w e s [] else had1 T w e s []
def foundN (T : List Ty) (lev : List Ent) (ws : List Wht) (s : List UInt8) : Nat → List SelV
  | 0 => []
  | q + 1 => foundN T lev ws s q ++ hadE T (ws.getD q default) (lev.getD q default) s
noncomputable def runL {σ : Type} (N : List Nmd) (stp : σ → List Ty → List Ent → List Wht → σ) (go : σ → Bool) : Nat → List Ty → List Ent → List Int → σ → σ × Except Int (List Ty)
  | 0, T, _, _, s => (s, .ok T)
  | n + 1, T, lev, seen, s => match looksR N T lev lev.length with
    | .error e => (s, .error e)
    | .ok (T1, ws) => if lev = [] then (s, .ok T1) else
      if go (stp s T1 lev ws) = true then runL N stp go n T1 (nextL T1 lev ws seen) (seen ++ typs (nextL T1 lev ws seen)) (stp s T1 lev ws) else (stp s T1 lev ws, .ok T1)
noncomputable def levelsL {σ : Type} (N : List Nmd) (stp : σ → List Ty → List Ent → List Wht → σ) (go : σ → Bool) (T : List Ty) (i : Int) (s : σ) : σ × Except Int (List Ty) :=
  match firstR T N i with
  | .error e => (s, .error e)
  | .ok (T1, lev) => runL N stp go 7 T1 lev (typs lev) s
def stpF (s : List UInt8) (l : List SelV) (T : List Ty) (lev : List Ent) (ws : List Wht) : List SelV := l ++ foundN T lev ws s lev.length
def tellF : List SelV × Except Int (List Ty) → Except Int (List Ty × SelV)
  | (_, .error e) => .error e
  | ([], .ok _) => .error 8
  | ([x], .ok T) => .ok (T, x)
  | (_ :: _ :: _, .ok _) => .error 9
noncomputable def findR (N : List Nmd) (T : List Ty) (i : Int) (s : List UInt8) : Except Int (List Ty × SelV) := tellF (levelsL N (stpF s) List.isEmpty T i [])
noncomputable def docL (N : List Nmd) (T : List Ty) (lev : List Ent) (seen : List Int) : Except Int (List Ty × List Ent × List Wht × List Int) :=
  match looksR N T lev lev.length with
  | .error e => .error e
  | .ok (T1, ws) => .ok (T1, lev, ws, seen)
noncomputable def docF (N : List Nmd) (s : List UInt8) : Nat → Except Int (List Ty × List Ent × List Wht × List Int) → Except Int (List Ty × SelV)
  | 0, _ => .error 8
  | _ + 1, .error e => .error e
  | n + 1, .ok (T, lev, ws, seen) => match foundN T lev ws s lev.length with
    | [x] => .ok (T, x)
    | _ :: _ :: _ => .error 9
    | [] => if lev = [] then .error 8 else docF N s n (docL N T (nextL T lev ws seen) (seen ++ typs (nextL T lev ws seen)))
noncomputable def docFirst (N : List Nmd) (T : List Ty) (i : Int) : Except Int (List Ty × List Ent × List Wht × List Int) :=
  match firstR T N i with
  | .error e => .error e
  | .ok (T1, lev) => docL N T1 lev (typs lev)
theorem run_doc (N : List Nmd) (s : List UInt8) : ∀ (n : Nat) (T : List Ty) (lev : List Ent) (seen : List Int), tellF (runL N (stpF s) List.isEmpty n T lev seen []) = docF N s n (docL N T lev seen)
  | 0, T, lev, seen => rfl
  | n + 1, T, lev, seen => by
    unfold runL docL
    cases hl : looksR N T lev lev.length with
    | error e => rfl
    | ok x =>
      obtain ⟨T1, ws⟩ := x
      simp only
      by_cases c : lev = []
      · subst c; rfl
      rw [if_neg c]
      have hst : stpF s [] T1 lev ws = foundN T1 lev ws s lev.length := rfl
      rw [hst]
      cases hf : foundN T1 lev ws s lev.length with
      | nil => simp only [List.isEmpty_nil, if_true, docF, hf, if_neg c]; exact run_doc N s n T1 _ _
      | cons x l =>
        cases l with
        | nil => simp [docF, hf, tellF]
        | cons y l => simp [docF, hf, tellF]
theorem find_doc (N : List Nmd) (T : List Ty) (i : Int) (s : List UInt8) : findR N T i s = docF N s 7 (docFirst N T i) := by
  unfold findR levelsL docFirst
  cases firstR T N i with
  | error e => rfl
  | ok x => exact run_doc N s 7 _ _ _
end Go.Sy
namespace Go.Sy
abbrev GS := @tyAt_get'
abbrev HQ := @tyAt_get
end Go.Sy
namespace Go.Sy
open Go Go.Proofs
theorem made_of_kind {T : List Ty} (h : rightP T) {n : Nat} (hn : n < T.length) (hk : T[n].kind ≠ 0) (h7 : T[n].kind ≠ 7) : madeP (T.take n) T[n] := by
  have hr := h.2.2 n hn
  unfold rowAt at hr
  by_cases c : n < 22
  · rw [if_pos c] at hr
    have hql : n < startL.length := by rw [start_len]; exact c
    have e : T[n] ∈ startL := by rw [hr, start_get hql]; exact List.getElem_mem hql
    have : ∀ t ∈ startL, t.kind = 0 ∨ t.kind = 7 := by decide
    rcases this _ e with e | e
    · exact absurd e hk
    exact absurd e h7
  rw [if_neg c] at hr
  exact hr.1
theorem struct_of {T : List Ty} (h : rightP T) {n : Nat} (hn : n < T.length) (h6 : T[n].kind = 6) : T[n].words.length = T[n].kids.length ∧ fieldsP T[n].words := by
  obtain ⟨_, _, _, _, hm⟩ := made_of_kind h hn Jb Jb
  unfold madeK at hm
  rcases hm with h | h | h | h | h | h | h | h | h
  all_goals first | omega | exact ⟨h.2.2.2, h.2.2.1⟩
theorem ptr_of {T : List Ty} (h : rightP T) {n : Nat} (hn : n < T.length) (h1 : T[n].kind = 1) : T[n].kids.length = 1 := by
  obtain ⟨_, _, _, _, hm⟩ := made_of_kind h hn Jb Jb
  unfold madeK at hm
  rcases hm with h | h | h | h | h | h | h | h | h
  all_goals first | omega | exact h.2.2
theorem isName_ne {w : List UInt8} (h : isName w = true) : w ≠ [] := by
  intro e; subst e; exact absurd h (by decide)
theorem field_ne {ws : List (List UInt8)} (h : fieldsP ws) {i : Nat} (hi : i < ws.length) : ws[i] ≠ [] := by
  have h1 := isName_ne (h i hi).1
  intro e
  rw [e] at h1
  exact h1 rfl
theorem undR_ok {T : List Ty} {N : List Nmd} (hu : rightU T N) {i : Int} (h0 : 0 ≤ i) (hi : i < T.length) {o : List Ty} {k : Int} (h : undR T N i = .ok (o, k)) : rightU o N ∧ T <+: o ∧ 0 ≤ k ∧ k < o.length := by
  unfold undR at h
  split at h
  · split at h
    · rename_i j hj
      obtain ⟨hjl, _⟩ := atN_some hj
      obtain ⟨u, hu1, hu2⟩ := at_und hu hjl
      rw [GK default hjl, hu1, Int.toNat_natCast] at h
      obtain ⟨h1, h2, h3, h4, _⟩ := rightU_sub hu hu2 h
      exact ⟨h1, h2, h3, h4⟩
    cases h
  injection h with h; injection h with h1 h2
  subst h1 h2
  exact ⟨hu, List.prefix_rfl, h0, hi⟩
theorem turnR_ok {T : List Ty} {N : List Nmd} (hu : rightU T N) {kids : List Int} {ms : List Mth} (hm : ∀ m ∈ ms, 0 ≤ m.sig ∧ m.sig < T.length) : ∀ q, q ≤ ms.length → ∀ o out, turnR kids ms T q = .ok (o, out) → rightU o N ∧ T <+: o ∧ out.length = q := by
  intro q hq o out h
  have := stepsN_inv (s := ((T, []) : List Ty × List Mth)) (fun q x => q ≤ ms.length → rightU x.1 N ∧ T <+: x.1 ∧ x.2.length = q) (fun _ => ⟨hu, List.prefix_rfl, rfl⟩) (fun q x y hI hf hq => ?_) q (o, out) h hq
  · exact this
  obtain ⟨h1, h2, h3⟩ := hI Jb
  have hql : q < ms.length := by omega
  have hs := hm _ (List.getElem_mem hql)
  have hl := h2.length_le
  rw [GK default hql] at hf
  split at hf
  · cases hf
  rename_i o2 y2 hx
  injection hf with hf
  subst hf
  obtain ⟨e1, e2, _⟩ := rightU_sub h1 (u := ms[q].sig.toNat) Jb hx
  exact ⟨e1, h2.trans e2, by simp [h3]⟩
theorem ownR_ok {T : List Ty} {N : List Nmd} (hu : rightU T N) {i : Int} (h0 : 0 ≤ i) (hi : i < T.length) {o : List Ty} {ms : List Mth} (h : ownR T N i = .ok (o, ms)) : rightU o N ∧ T <+: o ∧ ms.length ≤ 20 := by
  obtain ⟨hn, e⟩ := GS h0 hi
  unfold ownR at h
  rw [e] at h
  split at h
  · injection h with h; injection h with h1 h2
    subst h1 h2
    have hrt := GT hu.1 hn
    have h1 := ownZ_len (zips T[i.toNat])
    have h2 : (zips T[i.toNat]).length ≤ T[i.toNat].kids.length := by unfold zips; rw [List.length_zip]; omega
    exact ⟨hu, List.prefix_rfl, by have := hrt.few; omega⟩
  split at h
  · split at h
    · rename_i j hj
      obtain ⟨hjl, _⟩ := atN_some hj
      rw [GK default hjl] at h
      have hms := (hu.2.2.1 j hjl).1.2.2.2
      obtain ⟨e1, e2, e3⟩ := turnR_ok hu (fun m hm => by
        obtain ⟨q, hq, rfl⟩ := List.getElem_of_mem hm
        have := (hms.2.1 q hq).2.1
        exact ⟨this.1, this.2.1⟩) _ (Nat.le_refl _) _ _ h
      exact ⟨e1, e2, by have := hms.1; omega⟩
    cases h
  injection h with h; injection h with h1 h2
  subst h1 h2
  exact ⟨hu, List.prefix_rfl, by simp⟩
def whP (T : List Ty) (w : Wht) : Prop := 0 ≤ w.under ∧ w.under < T.length ∧ w.ms.length ≤ 20
theorem whP.up {T M : List Ty} {w : Wht} (h : whP T w) (hp : T <+: M) : whP M w := ⟨h.1, by have := hp.length_le; have := h.2.1; omega, h.2.2⟩
theorem lookR_ok {T : List Ty} {N : List Nmd} (hu : rightU T N) {i : Int} (h0 : 0 ≤ i) (hi : i < T.length) {o : List Ty} {w : Wht} (h : lookR T N i = .ok (o, w)) : rightU o N ∧ T <+: o ∧ whP o w := by
  unfold lookR at h
  cases h1 : undR T N i with
  | error e => rw [h1] at h; cases h
  | ok x =>
    obtain ⟨T1, k⟩ := x
    obtain ⟨a1, a2, a3, a4⟩ := undR_ok hu h0 hi h1
    have hl := a2.length_le
    rw [h1] at h
    simp only at h
    cases h2 : ownR T1 N (if (tyAt T1 k).kind = 7 then k else i) with
    | error e => rw [h2] at h; cases h
    | ok y =>
      obtain ⟨T2, ms⟩ := y
      rw [h2] at h
      injection h with h; injection h with e1 e2
      subst e1 e2
      obtain ⟨b1, b2, b3⟩ := ownR_ok a1 (by split <;> omega) (by split <;> omega) h2
      have hl2 := b2.length_le
      exact ⟨b1, a2.trans b2, a3, by simp only; omega, b3⟩
def levP (T : List Ty) (p : Nat) (lev : List Ent) : Prop := (∀ e ∈ lev, (0 ≤ e.typ ∧ e.typ < T.length) ∧ e.path.length ≤ p) ∧ (typs lev).Nodup
theorem levP.up {T M : List Ty} {p : Nat} {lev : List Ent} (h : levP T p lev) (hp : T <+: M) : levP M p lev := ⟨fun e he => ⟨⟨(h.1 e he).1.1, by have := hp.length_le; have := (h.1 e he).1.2; omega⟩, (h.1 e he).2⟩, h.2⟩
theorem nodup_len : ∀ (n : Nat) (l : List Int), l.Nodup → (∀ x ∈ l, 0 ≤ x ∧ x < (n : Int)) → l.length ≤ n
  | 0, l, _, h => by
    cases l with
    | nil => simp
    | cons x l => have := h x (List.mem_cons_self ..); omega
  | n + 1, l, hn, h => by
    have h1 := nodup_len n (l.filter (· ≠ (n : Int))) (hn.filter _) (fun x hx => by
      obtain ⟨hx1, hx2⟩ := List.mem_filter.1 hx
      have := h x hx1
      have : x ≠ (n : Int) := by simpa using hx2
      omega)
    have h2 : l.length ≤ (l.filter (· ≠ (n : Int))).length + 1 := by
      clear h h1
      induction l with
      | nil => simp
      | cons x l ih =>
        obtain ⟨hx, hl⟩ := List.nodup_cons.1 hn
        by_cases c : x = (n : Int)
        · subst c
          have : l.filter (· ≠ (n : Int)) = l := List.filter_eq_self.2 (fun y hy => by simpa using fun e => hx (by rw [← e]; exact hy))
          rw [List.filter_cons_of_neg (by simp), this]; simp
        rw [List.filter_cons_of_pos (by simpa using c)]
        have := ih hl
        simp only [List.length_cons]; omega
    omega
theorem levP.few {T : List Ty} {p : Nat} {lev : List Ent} (h : levP T p lev) : lev.length ≤ T.length := by
  have := nodup_len T.length (typs lev) h.2 (fun x hx => by
    obtain ⟨e, he, rfl⟩ := List.mem_map.1 hx
    exact (h.1 e he).1)
  simpa [typs] using this
theorem looksR_ok {T : List Ty} {N : List Nmd} (hu : rightU T N) {p : Nat} {lev : List Ent} (hl : levP T p lev) : ∀ q, q ≤ lev.length → ∀ o ws, looksR N T lev q = .ok (o, ws) → rightU o N ∧ T <+: o ∧ ws.length = q ∧ ∀ w ∈ ws, whP o w := by
  intro q hq o ws h
  have := stepsN_inv (s := ((T, []) : List Ty × List Wht)) (fun q x => q ≤ lev.length → rightU x.1 N ∧ T <+: x.1 ∧ x.2.length = q ∧ ∀ w ∈ x.2, whP x.1 w) (fun _ => ⟨hu, List.prefix_rfl, rfl, fun w hw => by cases hw⟩) (fun q x y hI hf hq => ?_) q (o, ws) h hq
  · exact this
  obtain ⟨h1, h2, h3, h4⟩ := hI Jb
  have hql : q < lev.length := by omega
  have hs := (hl.1 _ (List.getElem_mem hql)).1
  have hle := h2.length_le
  rw [GK default hql] at hf
  split at hf
  · cases hf
  rename_i o2 w2 hx
  injection hf with hf
  subst hf
  obtain ⟨e1, e2, e3⟩ := lookR_ok h1 hs.1 Jb hx
  refine ⟨e1, h2.trans e2, by simp [h3], fun w hw => ?_⟩
  rcases List.mem_append.1 hw with hw | hw
  · exact (h4 w hw).up e2
  rw [List.mem_singleton.1 hw]; exact e3
theorem firstR_ok {T : List Ty} {N : List Nmd} (hu : rightU T N) {i : Int} (h0 : 0 ≤ i) (hi : i < T.length) {o : List Ty} {lev : List Ent} (h : firstR T N i = .ok (o, lev)) : rightU o N ∧ T <+: o ∧ levP o 0 lev := by
  obtain ⟨hn, e⟩ := GS h0 hi
  unfold firstR at h
  rw [e] at h
  split at h
  · rename_i h1
    have hk1 := ptr_of hu.1 hn h1
    have hkd := (GT hu.1 hn).kids _ (List.getElem_mem (show 0 < T[i.toNat].kids.length by omega))
    rw [GK _ (show 0 < T[i.toNat].kids.length by omega)] at h
    split at h
    · cases h
    rename_i T1 k hx
    obtain ⟨a1, a2, a3, a4⟩ := undR_ok hu hkd.1 Jb hx
    have hl := a2.length_le
    split at h
    · injection h with h; injection h with e1 e2
      subst e1 e2
      exact ⟨hu, List.prefix_rfl, fun e he => by simp at he, by simp [typs]⟩
    injection h with h; injection h with e1 e2
    subst e1 e2
    exact ⟨a1, a2, fun e he => by
      rw [List.mem_singleton.1 he]; simp only [List.length_nil]; omega, by simp [typs]⟩
  injection h with h; injection h with e1 e2
  subst e1 e2
  exact ⟨hu, List.prefix_rfl, fun e he => by
    rw [List.mem_singleton.1 he]; simp only [List.length_nil]; omega, by simp [typs]⟩
theorem typs_many (t : Int) (l : List Ent) : typs (l.map (manyE t)) = typs l := by
  unfold typs
  rw [List.map_map]
  apply List.map_congr_left
  intro e _
  simp only [Function.comp_apply, manyE]
  split <;> rfl
theorem manyE_path (t : Int) (e : Ent) : (manyE t e).path = e.path ∧ (manyE t e).typ = e.typ := by unfold manyE; split <;> exact ⟨rfl, rfl⟩
theorem addE_ok {T : List Ty} {p : Nat} {out : List Ent} {seen : List Int} {x : Ent} (h : levP T p out) (hx : (0 ≤ x.typ ∧ x.typ < T.length) ∧ x.path.length ≤ p) : levP T p (addE out seen x) := by
  unfold addE
  split
  · refine ⟨fun e he => ?_, by rw [typs_many]; exact h.2⟩
    obtain ⟨y, hy, rfl⟩ := List.mem_map.1 he
    rw [(manyE_path _ _).1, (manyE_path _ _).2]
    exact h.1 y hy
  rename_i hn
  split
  · exact h
  refine ⟨fun e he => ?_, ?_⟩
  · rcases List.mem_append.1 he with he | he
    · exact h.1 e he
    rw [List.mem_singleton.1 he]; exact hx
  unfold typs at hn ⊢
  rw [List.map_append, List.nodup_append]
  refine ⟨h.2, by simp, fun a ha b hb => ?_⟩
  simp at hb
  subst hb
  intro e
  exact hn (e ▸ ha)
theorem entE_ok {T : List Ty} (hr : rightP T) {e : Ent} {t : Ty} {p : Nat} (he : e.path.length ≤ p) {k : Nat} (hk : k < t.kids.length) (hkids : ∀ x ∈ t.kids, 0 ≤ x ∧ x < T.length) : (0 ≤ (entE T e t k).typ ∧ (entE T e t k).typ < T.length) ∧ (entE T e t k).path.length ≤ p + 1 := by
  have h1 := hkids _ (List.getElem_mem hk)
  unfold entE
  rw [GK _ hk]
  obtain ⟨hn, hty⟩ := GS h1.1 h1.2
  rw [hty]
  split
  · rename_i c
    have hk1 := ptr_of hr hn c
    have hkd := (GT hr hn).kids _ (List.getElem_mem (show 0 < T[t.kids[k].toNat].kids.length by omega))
    rw [GK _ (show 0 < T[t.kids[k].toNat].kids.length by omega)]
    exact ⟨⟨hkd.1, by simp only; omega⟩, by simp; omega⟩
  exact ⟨h1, by simp; omega⟩
theorem innerN_ok {T : List Ty} (hr : rightP T) {e : Ent} {t : Ty} {p : Nat} (he : e.path.length ≤ p) (hkids : ∀ x ∈ t.kids, 0 ≤ x ∧ x < T.length) {seen : List Int} {out : List Ent} (h : levP T (p + 1) out) : ∀ k, k ≤ t.kids.length → levP T (p + 1) (innerN T e t seen out k)
  | 0, _ => h
  | k + 1, hk => by
    unfold innerN
    split
    · exact addE_ok (innerN_ok hr he hkids h k Jb) (entE_ok hr he Jb hkids)
    exact innerN_ok hr he hkids h k Jb
theorem kids_in {T : List Ty} (hr : rightP T) {i : Int} (h0 : 0 ≤ i) (hi : i < T.length) : ∀ x ∈ (tyAt T i).kids, 0 ≤ x ∧ x < T.length := by
  obtain ⟨hn, e⟩ := GS h0 hi
  rw [e]
  intro x hx
  have := (GT hr hn).kids x hx
  omega
theorem words_kids {T : List Ty} (hr : rightP T) {i : Int} (h0 : 0 ≤ i) (hi : i < T.length) (h6 : (tyAt T i).kind = 6) : (tyAt T i).words.length = (tyAt T i).kids.length ∧ fieldsP (tyAt T i).words := by
  obtain ⟨hn, e⟩ := GS h0 hi
  rw [e] at h6 ⊢
  exact struct_of hr hn h6
theorem outerN_ok {T : List Ty} (hr : rightP T) {p : Nat} {lev : List Ent} {ws : List Wht} {seen : List Int} (hl : levP T p lev) (hw : ws.length = lev.length) (hws : ∀ w ∈ ws, whP T w) : ∀ q, q ≤ lev.length → levP T (p + 1) (outerN T lev ws seen q)
  | 0, _ => ⟨fun e he => absurd he (by simp [outerN]), by simp [typs, outerN]⟩
  | q + 1, hq => by
    unfold outerN
    have hwq := hws _ (List.getElem_mem (show q < ws.length by omega))
    rw [GK default (show q < ws.length by omega), GK default (show q < lev.length by omega)]
    split
    · rename_i c
      have := words_kids hr hwq.1 hwq.2.1 c
      exact innerN_ok hr (hl.1 _ (List.getElem_mem (show q < lev.length by omega))).2 (kids_in hr hwq.1 hwq.2.1) (outerN_ok hr hl hw hws q Jb) _ Jb
    exact outerN_ok hr hl hw hws q Jb
theorem nextL_ok {T : List Ty} (hr : rightP T) {p : Nat} {lev : List Ent} {ws : List Wht} {seen : List Int} (hl : levP T p lev) (hw : ws.length = lev.length) (hws : ∀ w ∈ ws, whP T w) : levP T (p + 1) (nextL T lev ws seen) := outerN_ok hr hl hw hws _ (Nat.le_refl _)
theorem hadM_len {w : Wht} {e : Ent} {s : List UInt8} : ∀ k, (hadM w e s k).length ≤ k
  | 0 => Nat.le_refl _
  | k + 1 => by unfold hadM; have := hadM_len (w := w) (e := e) (s := s) k; split <;> simp <;> omega
theorem hadF_len {t : Ty} {e : Ent} {s : List UInt8} {l : List SelV} : ∀ k, (hadF t e s l k).length ≤ l.length + k
  | 0 => Nat.le_refl _
  | k + 1 => by unfold hadF; have := hadF_len (t := t) (e := e) (s := s) (l := l) k; split <;> simp <;> omega
theorem had1_len {T : List Ty} (hr : rightP T) {w : Wht} (hw : whP T w) {e : Ent} {s : List UInt8} {l : List SelV} : (had1 T w e s l).length ≤ l.length + 40 := by
  unfold had1
  have h1 := hadM_len (w := w) (e := e) (s := s) w.ms.length
  have h2 := hw.2.2
  simp only
  split
  · rename_i c
    have h3 := hadF_len (t := tyAt T w.under) (e := e) (s := s) (l := l ++ hadM w e s w.ms.length) (tyAt T w.under).words.length
    have h4 := words_kids hr hw.1 hw.2.1 c
    obtain ⟨hn, e1⟩ := GS hw.1 hw.2.1
    have h5 := (GT hr hn).few
    rw [← e1] at h5
    simp only [List.length_append] at h3
    omega
  simp only [List.length_append]; omega
theorem hadE_len {T : List Ty} (hr : rightP T) {w : Wht} (hw : whP T w) {e : Ent} {s : List UInt8} : (hadE T w e s).length ≤ 80 := by
  have h1 := had1_len hr hw (e := e) (s := s) (l := [])
  simp only [List.length_nil] at h1
  unfold hadE
  split <;> simp <;> omega
theorem foundN_len {T : List Ty} (hr : rightP T) {lev : List Ent} {ws : List Wht} (hl : ws.length = lev.length) (hws : ∀ w ∈ ws, whP T w) {s : List UInt8} : ∀ q, q ≤ lev.length → (foundN T lev ws s q).length ≤ q * 80
  | 0, _ => Nat.zero_le _
  | q + 1, hq => by
    have h1 := foundN_len hr hl hws (s := s) q Jb
    have h2 := hadE_len hr (hws _ (List.getElem_mem (show q < ws.length by omega))) (e := lev.getD q default) (s := s)
    unfold foundN
    rw [List.length_append, GK default (show q < ws.length by omega), Nat.add_mul]
    omega
end Go.Sy
