/- Joined of my own texts: SeA, SeB, SeC, SeD, SeE, SeF, SeG, SeH, SeI, SeJ, SeK, SeL, SeM. -/
import Derived.Test.YtinolpaapcpijaaGreatDoorP17
namespace Go.Sy
open Go Go.Proofs Go.RowKit
theorem plus_eq (s : List UInt8) : Lib.hasPrefix s [43] = plusW s := by
  cases s with
  | nil => rfl
  | cons x s =>
    simp only [Lib.hasPrefix, plusW, List.isPrefixOf, List.head?_cons, Bool.and_true]
    rw [Bool.eq_iff_iff]
    constructor
    · intro h; have := eq_of_beq h; subst this; rfl
    intro h; have h2 : some x = some 43 := eq_of_beq h; injection h2 with h2; subst h2; rfl
attribute [local irreducible] AC AT AO AK AH ACalls Sub Res.cells Res.obj Res.nix Res.own Res.map Exit.then Exit.inBlock bodyPost Code.wp Code.wpIn WL Next Post Kont
section
variable {W0 : World} {L : List Res} {F : List Fact} {R : Value → List Res → List Fact → Prop}
set_option maxRecDepth 100000
set_option maxHeartbeats 16000000
theorem hasp_c (s : List UInt8) (h : R (.bool (plusW s)) L F) : ACalls Tryz.prog W0 190 #[S s, S [43]] L F R := by
  refine ACalls.lib0 (fun w _ => ?_) h
  have := Tryz.strings_HasPrefix ⟨s.toArray⟩ ⟨#[43]⟩ w
  have e : Lib.hasPrefix (⟨s.toArray⟩ : ByteArray).data.toList (⟨#[43]⟩ : ByteArray).data.toList = plusW s := plus_eq s
  rw [e] at this
  exact this
theorem sfield_c (s : List UInt8) (h : R (S (fieldN s)) L F) : ACalls Tryz.prog W0 92 #[S s] L F R := by
  refine Gh Tryz.func92 HV Tryz.ntmps92 HV ?_
  refine qs 8 ?_
  refine Ga (Gf HV HV (trimp_c s ?_))
  refine qs 4 ?_
  exact Gb Tryz.results92 rfl (Gc _ _) h
theorem clipI_c (l : List Int) {a : Option Addr} {k c : Nat} (m1 : fI l a k c ∈ F) (h : ∀ a, R (.slice a l.length l.length) L (fI l a l.length l.length :: F)) : ACalls Tryz.prog W0 177 #[.slice a k c] L F R := by
  refine Gh Tryz.func177 HV Tryz.ntmps177 HV ?_
  refine qs 9 ?_
  refine Ga (Gn HV HV (fun hl5 => ?_) (hm := by repeat (first | exact mem0 | assumption | refine memS ?_)))
  refine qs 1 ?_
  refine Ga (Gn HV HV (fun hl7 => ?_) (hm := by repeat (first | exact mem0 | assumption | refine memS ?_)))
  refine Ga (AO.sliceFull (lst := l) (enc := eI) HV HV HV HV HV HV memA (fun a8 => ?_))
  refine qs 4 ?_
  exact Gb Tryz.results177 rfl (Gc _ _) (h _)
theorem uundE_c (g : Glob W0) (T : List Ty) (N : List Nmd) (hno : ∀ n ∈ N, NmOk n) (hu : rightU T N) (i : Int) (h0 : 0 ≤ i) (hi : i < T.length) {a a2 : Option Addr} {k c k2 c2 : Nat} (mL : fL T a k c ∈ F) (mN : fN N a2 k2 c2 ∈ F) (mE : Fact.slc (.slice none 0 0) 5 [] ∈ F)
    (hE : ∀ e, e ≠ 0 → undR T N i = .error e → R (.tuple #[.agg #[.slice none 0 0, .slice none 0 0], .int .i64 0, .int .i64 e]) L F)
    (hO : ∀ o q a k c, undR T N i = .ok (o, q) → R (.tuple #[.agg #[.slice a k c, .slice a2 k2 c2], .int .i64 q, .int .i64 0]) L (fL o a k c :: F)) :
    ACalls Tryz.prog W0 15 #[.agg #[.slice a k c, .slice a2 k2 c2], .int .i64 i] L F R := by
  have hund : ∀ n : Nat, i = n → ∀ hn : n < T.length, T[n].kind = 8 → ∀ j, ∀ hj : j < N.length, atN N T[n].name = some j → ∀ u : Nat, N[j].under = u → undR T N i = subR T u T[n].kids := by
    intro n e hn h8 j hj hat u hju
    subst e
    unfold undR
    rw [HE hn, if_pos h8, hat]
    simp only
    rw [GH default hj, hju, Int.toNat_natCast]
  refine uunder_c g T N (Hu hu.1) hno i mL mN mE (fun c => absurd hu c) (fun _ c => absurd ⟨h0, hi⟩ c) (fun _ n e hn hk => ?_) (fun _ n e hn hk j hj hat u hju hul x hx0 hx => hE x hx0 ?_) (fun _ n e hn hk j hj hat u hju hul o q a k c hx => hO o q a k c ?_)
  · refine hO T i a k c ?_
    subst e
    unfold undR
    rw [HE hn, if_neg hk]
  · rw [hund n e hn hk j hj hat u hju]; exact hx
  rw [hund n e hn hk j hj hat u hju]; exact hx
theorem turn_out (T : List Ty) {kids : List Int} {ms : List Mth} {q : Nat} {o : List Ty} {out : List Mth} {x : Int} (h : turnR kids ms T q = .ok (o, out)) (hq : q < ms.length) {o2 : List Ty} (hx : subR o ms[q].sig.toNat kids = .ok (o2, x)) : turnR kids ms T (q + 1) = .ok (o2, out ++ [⟨ms[q].name, ms[q].ptr, x⟩]) := by
  unfold turnR at h ⊢
  rw [stepsN_ok h]
  simp only
  rw [GH default hq, hx]
theorem turn_bad {T : List Ty} {kids : List Int} {ms : List Mth} {q : Nat} {o : List Ty} {out : List Mth} {e : Int} (h : turnR kids ms T q = .ok (o, out)) (hq : q < ms.length) (hx : subR o ms[q].sig.toNat kids = .error e) : turnR kids ms T ms.length = .error e := by
  unfold turnR at h ⊢
  refine stepsN_bad h ?_ hq
  simp only
  rw [GH default hq, hx]
theorem own_8 {T : List Ty} {N : List Nmd} {n : Nat} (hn : n < T.length) (h8 : T[n].kind = 8) {j : Nat} (hj : j < N.length) (hat : atN N T[n].name = some j) : ownR T N (n : Int) = turnR T[n].kids N[j].methods T N[j].methods.length := by
  unfold ownR
  rw [HE hn, if_neg HY, if_pos h8, hat]
  simp only
  rw [GH default hj]
theorem own_7 {T : List Ty} {N : List Nmd} {n : Nat} (hn : n < T.length) (h7 : T[n].kind = 7) : ownR T N (n : Int) = .ok (T, ownZ (zips T[n])) := by
  unfold ownR
  rw [HE hn, if_pos h7]
theorem own_none {T : List Ty} {N : List Nmd} {n : Nat} (hn : n < T.length) (h7 : T[n].kind ≠ 7) (h8 : T[n].kind ≠ 8) : ownR T N (n : Int) = .ok (T, []) := by
  unfold ownR
  rw [HE hn, if_neg h7, if_neg h8]
theorem eMt_turn {out ms : List Mth} {q : Nat} (hl : out.length = q) (hq : q < ms.length) (x : Int) : (((out ++ ms.drop q).map eMt).set q ((eMt ms[q]).set 2 (.val (.int .i64 x)))) = ((out ++ [(⟨ms[q].name, ms[q].ptr, x⟩ : Mth)]) ++ ms.drop (q + 1)).map eMt := by
  subst hl
  rw [List.drop_eq_getElem_cons hq, List.map_append, List.map_cons, List.set_append_right _ _ (by simp)]
  simp only [List.length_map, Nat.sub_self, List.set_cons_zero, List.append_assoc, List.map_append, List.map_cons]
  rfl
theorem umethE_c (g : Glob W0) (T : List Ty) (N : List Nmd) (hno : ∀ n ∈ N, NmOk n) (hu : rightU T N) (i : Int) (h0 : 0 ≤ i) (hi : i < T.length) {a a2 : Option Addr} {k c k2 c2 : Nat} (mL : fL T a k c ∈ F) (mN : fN N a2 k2 c2 ∈ F) (mE : Fact.slc (.slice none 0 0) 5 [] ∈ F) (mM : Fact.slc (.slice none 0 0) 3 [] ∈ F)
    (hE : ∀ e, e ≠ 0 → ownR T N i = .error e → R (.tuple #[.agg #[.slice none 0 0, .slice none 0 0], .slice none 0 0, .int .i64 e]) L F)
    (hO : ∀ o ms a k c a' k' c', ownR T N i = .ok (o, ms) → R (.tuple #[.agg #[.slice a k c, .slice a2 k2 c2], .slice a' k' c', .int .i64 0]) L (fL o a k c :: fMs ms a' k' c' :: F)) :
    ACalls Tryz.prog W0 17 #[.agg #[.slice a k c, .slice a2 k2 c2], .int .i64 i] L F R := by
  have hok := Hu hu.1
  obtain ⟨n, rfl⟩ : ∃ n : Nat, i = (n : Int) := ⟨i.toNat, by omega⟩
  have hn : n < T.length := by omega
  refine Gh Tryz.func17 HV Tryz.ntmps17 HV ?_
  refine qs 2 ?_
  refine Ga (GO HV HV (fun b2 => (Ga (Gl HV (fun b4 => ?_)))))
  refine qs 9 ?_
  refine Ga (Gf rfl rfl (uthere_c g T N hok hno n mL mN (fun e he => by rcases he with ⟨h, _⟩ | ⟨_, h, _⟩; exact absurd hu h; exact absurd ⟨h0, hi⟩ h) (fun c13 d13 => ?_)))
  refine qs 6 ?_
  refine Ga (GL HV HV HV (fun c21 => absurd HV c21) (fun _ => ?_))
  refine qs 10 ?_
  have hkl := (hok _ (List.getElem_mem hn)).kids
  refine Ga (Gd HV HV HV HV (enc := eTy) (lst := T) memA hn (fun _ _ => ?_))
  refine Ga (GJ HV HV ?_)
  intro a28 k28 z28 d28 e28 f28
  refine Ga (Gl HV (fun b8 => ?_))
  refine qs 13 ?_
  refine Ga (Gr HV HV HV (fun c32 => ?_) (fun c32 => ?_))
  ·refine qs 5 ?_
   refine GP (fun _ => false) [(b2, _, _), (b8, _, _)] bxA HV (fun hx hX => ?_)
   refine qt [0, 1] ?_
   refine Gm (i := 2) HW HV HV (fun _ => ?_)
   refine Gf HV HV (own_c T[n] ((GV c13.1 hn).iface c32) hkl (show fW T[n] _ _ _ ∈ _ from memA) (show fK T[n] _ _ _ ∈ _ from memA) (fun a35 k35 z35 => ?_))
   refine Gk bxA memB ?_
   refine Gm (i := 3) HW HV HV (fun _ => ?_)
   refine GF HV HV HV HV ?_
   refine Gk bxA memB ?_
   refine qt [4, 5] ?_
   refine Gq HW ?_
   refine qs 4 ?_
   exact Gx (rs := [.cell 4 _, .tmp 5, .tmp 6]) (L' := L) (F' := fL T a k c :: fMs (ownZ (zips T[n])) a35 k35 z35 :: F) Tryz.results17 (.agg (j := 1) rfl rfl rfl (.tmp rfl (.tmp rfl .nil))) (Sub.drop.trans (Sub.drop.trans (Sub.drop.trans (Gj (mem2 memA memA (fun x hx => by repeat (first | exact hx | refine List.mem_cons_of_mem _ ?_))))))) (hO T _ a k c a35 k35 z35 (own_7 hn c32))
  refine qs 6 ?_
  refine Ga (Gr HV HV HV (fun c37 => ?_) (fun c37 => ?_))
  ·refine qs 9 ?_
   refine Ga (Gf rfl rfl (at_c N T[n].name memA (fun j c42 => ?_) (fun c42 => by obtain ⟨i, hi, _⟩ := c13.2.2.2 _ (List.getElem_mem hn) c37; rw [c42] at hi; exact absurd hi (by simp))))
   refine qs 12 ?_
   obtain ⟨hjl, _⟩ := atN_some c42
   have hown := own_8 hn c37 hjl c42
   have hnm := (c13.2.2.1 j hjl).1
   have hm16 := hnm.2.2.2.1
   refine Ga (Gd HV HV HV HV (enc := eNm) (lst := N) memA hjl (fun _ _ => ?_))
   refine Ga (Hh HV HV (fun _ => ?_))
   refine Ga (Gt HV HV ?_)
   intro a50 k50 z50
   refine Ga (Gf HV HV (cloneM_c N[j].methods HY memA (fun a51 k51 z51 => ?_)))
   refine qs 7 ?_
   refine Ga (AO.lenO (i := 0) HV HV HV (fun hk53 => ?_))
   rw [List.length_map]
   refine qs 4 ?_
   have hms : ∀ m ∈ N[j].methods, 0 ≤ m.sig ∧ m.sig < T.length := fun m hm => by
    obtain ⟨q, hq, rfl⟩ := List.getElem_of_mem hm
    have := (hnm.2.2.2.2.1 q hq).2.1
    exact ⟨this.1, this.2.1⟩
   refine Gz (fun (x : Nat × (List Ty × List Mth) × (Option Addr × Nat × Nat)) => x.1 ≤ N[j].methods.length ∧ turnR T[n].kids N[j].methods T x.1 = .ok x.2.1) (fun x => [(2, .pointer (some ⟨b2, 0, none⟩)), (4, .pointer (some ⟨b4, 0, none⟩)), (8, .pointer (some ⟨b8, 0, none⟩)), (11, .slice a51 k51 z51), (52, .slice a51 k51 z51), (53, .int .i64 N[j].methods.length), (54, .int .i64 (x.1 : Int))]) (fun x => Res.own (.slice a51 k51 z51) 44 3 ((x.2.1.2 ++ N[j].methods.drop x.1).map eMt) :: _ :: _ :: Res.cells b2 #[.slice x.2.2.1 x.2.2.2.1 x.2.2.2.2, .slice a2 k2 c2] _ :: _) (fun x => fL x.2.1.1 x.2.2.1 x.2.2.2.1 x.2.2.2.2 :: _) (fun x => N[j].methods.length - x.1) (0, (T, []), (a, k, c)) ⟨Nat.zero_le _, rfl⟩ srA (Gj (mem1 memA (fun x hx => hx))) ?_
   rintro ⟨q, ⟨o, out⟩, ⟨a1, k1, c1⟩⟩ ⟨hq, hM⟩
   simp only at hq hM ⊢
   refine qs 2 ?_
   refine Ga (Gu HV HV HV (fun c55 => ?_) (fun c55 => ?_))
   ·refine qs 11 ?_
    have hqm : q < N[j].methods.length := by omega
    obtain ⟨hro, hpo, hlo⟩ := turnR_ok hu hms q hq o out hM
    have hqo : q < (out ++ N[j].methods.drop q).length := by rw [List.length_append, List.length_drop]; omega
    have hpl := hpo.length_le
    have hgq : (out ++ N[j].methods.drop q)[q] = N[j].methods[q] := by
     rw [List.getElem_append_right HY, List.getElem_drop]; congr 1; omega
    have hsg := hms _ (List.getElem_mem hqm)
    obtain ⟨u, hum⟩ : ∃ u : Nat, N[j].methods[q].sig = (u : Int) := ⟨N[j].methods[q].sig.toNat, by omega⟩
    have hun : N[j].methods[q].sig.toNat = u := by omega
    have hul : u < T.length := by omega
    have hok2 := Hu hro.1
    refine Ga (GU (i := 0) (q := q) HV HV HV HV HV (by rw [List.length_map]; exact hqo) (fun bo ho => ?_))
    subst ho
    refine Ga (AO.loadOA (i := 0) (q := q) (vs := [S N[j].methods[q].name, .bool N[j].methods[q].ptr, .int .i64 (u : Int)]) HV HV HV HV (by rw [List.getElem?_map, List.getElem?_eq_getElem hqo, hgq, ← hum]; rfl) HV ?_)
    refine Ga (Gl HV (fun b13 => ?_))
    refine qs 11 ?_
    refine Ga (Gf HV HV (uwith_c g o hok2 hro.1 u HY T[n].kids HY (show fL o a1 k1 c1 ∈ _ from memA) (show fK T[n] _ _ _ ∈ _ from memA) memA (fun e h0 he => ?_) (fun o2 q2 a65 k65 c65 hq2 => ?_)))
    ·refine qs 4 ?_
     refine Ga (Gl HV (fun b14 => ?_))
     refine qs 9 ?_
     refine Ga (GL HV HV HV (fun _ => ?_) (fun c70 => absurd c70 h0))
     refine qs 5 ?_
     refine Ga (GI HV HV HV ?_)
     refine qs 15 ?_
     exact Gx (rs := [.cell 4 _, .tmp 5, .tmp 6]) (L' := L) (F' := F) Tryz.results17 (.agg (j := 4) rfl rfl rfl (.tmp rfl (.tmp rfl .nil))) subA (hE e h0 (by rw [hown]; exact turn_bad hM hqm (by rw [hun]; exact he)))
    refine qs 4 ?_
    refine Ga (Gl HV (fun b14 => ?_))
    refine qs 9 ?_
    refine Ga (GL HV HV HV (fun c70 => absurd HV c70) (fun _ => ?_))
    refine qs 11 ?_
    refine Ga (GU (i := 2) (q := q) HV HV HV HV HV (by rw [List.length_map]; exact hqo) (fun bo2 ho2 => ?_))
    cases ho2
    refine qs 1 ?_
    refine Ga (AO.storeOR (v := .int .i64 q2) (i := 2) (q := q) (j := 2) HV HV HV HV HV (show ((out ++ N[j].methods.drop q).map eMt)[q]? = some (eMt N[j].methods[q]) by rw [List.getElem?_map, List.getElem?_eq_getElem hqo, hgq]; rfl) (by simp) ?_)
    rw [eMt_turn hlo hqm]
    refine qs 7 ?_
    exact Gi (q + 1, (o2, out ++ [⟨N[j].methods[q].name, N[j].methods[q].ptr, q2⟩]), (a65, k65, c65)) ⟨by simp only; omega, turn_out T hM hqm (by rw [hun]; exact hq2)⟩ (by simp only; omega) srA (Sub.drop.trans (Sub.drop.trans (Gj (mem1 memA (fun x hx => by repeat (first | exact hx | refine List.mem_cons_of_mem _ ?_))))))
   refine qs 21 ?_
   obtain rfl : q = N[j].methods.length := by omega
   rw [List.drop_length, List.append_nil]
   exact Gx (rs := [.cell 4 _, .tmp 5, .tmp 6]) (L' := L) (F' := fL o a1 k1 c1 :: fMs out a51 k51 z51 :: F) Tryz.results17 (.agg (j := 2) rfl rfl rfl (.tmp rfl (.tmp rfl .nil))) ((Gv (i := 0) rfl).trans (Sub.drop.trans (Sub.drop.trans (Sub.drop.trans (Sub.drop.trans (Gj (mem2 memA memA (fun x hx => by repeat (first | exact hx | refine List.mem_cons_of_mem _ ?_))))))))) (hO o out a1 k1 c1 a51 k51 z51 (by rw [hown]; exact hM))
  refine qs 16 ?_
  exact Gx (rs := [.cell 4 _, .tmp 5, .tmp 6]) (L' := L) (F' := fL T a k c :: fMs [] none 0 0 :: F) Tryz.results17 (.agg (j := 1) rfl rfl rfl (.tmp rfl (.tmp rfl .nil))) (Sub.drop.trans (Sub.drop.trans (Sub.drop.trans (Gj (mem2 memA memA (fun x hx => by repeat (first | exact hx | refine List.mem_cons_of_mem _ ?_))))))) (hO T [] a k c none 0 0 (own_none hn c32 c37))
end
end Go.Sy
namespace Go.Sy
open Go Go.Proofs Go.RowKit
theorem look_err1 {T : List Ty} {N : List Nmd} {i e : Int} (h : undR T N i = .error e) : lookR T N i = .error e := by unfold lookR; rw [h]
theorem look_err2 {T : List Ty} {N : List Nmd} {i e k : Int} {o : List Ty} (h : undR T N i = .ok (o, k)) (h2 : ownR o N (if (tyAt o k).kind = 7 then k else i) = .error e) : lookR T N i = .error e := by unfold lookR; rw [h]; simp only [h2]
theorem look_ok {T : List Ty} {N : List Nmd} {i k : Int} {o o2 : List Ty} {ms : List Mth} (h : undR T N i = .ok (o, k)) (h2 : ownR o N (if (tyAt o k).kind = 7 then k else i) = .ok (o2, ms)) : lookR T N i = .ok (o2, ⟨k, ms⟩) := by unfold lookR; rw [h]; simp only [h2]
abbrev wCells (a : Option Addr) (k c : Nat) (a2 : Option Addr) (k2 c2 : Nat) (e : Int) : List Value := [.slice a k c, .slice a2 k2 c2, .int .i64 e]
attribute [local irreducible] AC AT AO AK AH ACalls Sub Res.cells Res.obj Res.nix Res.own Res.map Exit.then Exit.inBlock bodyPost Code.wp Code.wpIn WL Next Post Kont
section
variable {W0 : World} {L : List Res} {F : List Fact} {R : Value → List Res → List Fact → Prop}
set_option maxRecDepth 100000
set_option maxHeartbeats 16000000
theorem look_c (g : Glob W0) (T : List Ty) (N : List Nmd) (hno : ∀ n ∈ N, NmOk n) (hu : rightU T N) (i : Int) (h0 : 0 ≤ i) (hi : i < T.length) {a a2 : Option Addr} {k c k2 c2 bw iw : Nat} (hw : L[iw]? = some (Res.cells bw #[.slice a k c, .slice a2 k2 c2, .int .i64 0] 147)) (mL : fL T a k c ∈ F) (mN : fN N a2 k2 c2 ∈ F) (mE : Fact.slc (.slice none 0 0) 5 [] ∈ F) (mM : Fact.slc (.slice none 0 0) 3 [] ∈ F)
    (hE : ∀ e, e ≠ 0 → lookR T N i = .error e → R (vWh ⟨0, []⟩ none 0 0) (L.set iw (Res.cells bw #[.slice a k c, .slice a2 k2 c2, .int .i64 e] 147)) F)
    (hO : ∀ o wh a' k' c' a3 k3 c3, lookR T N i = .ok (o, wh) → R (vWh wh a3 k3 c3) (L.set iw (Res.cells bw #[.slice a' k' c', .slice a2 k2 c2, .int .i64 0] 147)) (fL o a' k' c' :: fMs wh.ms a3 k3 c3 :: F)) :
    ACalls Tryz.prog W0 151 #[.pointer (some ⟨bw, 0, none⟩), .int .i64 i] L F R := by
  refine Gh Tryz.func151 HV Tryz.ntmps151 HV ?_
  refine qs 2 ?_
  refine Ga (Gl HV (fun b4 => ?_))
  refine qs 5 ?_
  refine Ga (GS HV HV ?_)
  refine qs 1 ?_
  refine Ga (HG (cs := wCells a k c a2 k2 c2 0) HV HV ?_ (hi := (by repeat (first | exact has0 | assumption | apply hasS))) (hk := HV))
  refine qs 1 ?_
  refine Ga (Gf HV HV (uundE_c g T N hno hu i h0 hi memA memA memA (fun e he hx => ?_) (fun o q a16 k16 c16 hx => ?_)))
  ·refine qs 4 ?_
   refine Ga (Gl HV (fun b5 => ?_))
   refine qs 9 ?_
   refine Ga (GL HV HV HV (fun _ => ?_) (fun c21 => absurd c21 he))
   refine qs 7 ?_
   refine Ga (GS HV HV ?_)
   refine qs 1 ?_
   refine Ga (GG (cs := wCells a k c a2 k2 c2 0) HV HV HV ?_ (hi := (by repeat (first | exact has0 | assumption | apply hasS))) (ho := HV))
   refine qs 4 ?_
   refine Ga (GI HV HV HV ?_)
   refine qs 5 ?_
   exact Gx (rs := [.cell 4 _]) (L' := L.set iw (Res.cells bw #[.slice a k c, .slice a2 k2 c2, .int .i64 e] 147)) (F' := F) Tryz.results151 (.agg (j := 1) rfl rfl rfl .nil) subA (hE e he (look_err1 hx))
  refine qs 4 ?_
  refine Ga (Gl HV (fun b5 => ?_))
  refine qs 9 ?_
  obtain ⟨hro, hpo, hq0, hql⟩ := undR_ok hu h0 hi hx
  refine Ga (GL HV HV HV (fun c21 => absurd HV c21) (fun _ => ?_))
  refine qs 17 ?_
  obtain ⟨hqn, hqe⟩ := Hz hq0 hql
  refine Ga (Gd (k := q.toNat) HV HV HV HY (enc := eTy) (lst := o) memA hqn (fun _ _ => ?_))
  refine Ga (Hh HV HV (fun _ => ?_))
  refine Ga (Gt HV HV ?_)
  refine Ga (Gr HV HV HV (fun c34 => ?_) (fun c34 => ?_))
  ·refine qs 12 ?_
   have hof : (if (tyAt o q).kind = 7 then q else i) = q := by rw [if_pos (by rw [hqe]; exact c34)]
   refine Ga (Gf HV HV (umethE_c g o N hno hro q hq0 hql memA memA memA memA (fun e he hy => ?_) (fun o2 ms a39 k39 c39 a40 k40 c40 hy => ?_)))
   ·refine qs 13 ?_
    rw [← hof] at hy
    refine Ga (GL HV HV HV (fun _ => ?_) (fun c44 => absurd c44 he))
    refine qs 7 ?_
    refine Ga (GS HV HV ?_)
    refine qs 1 ?_
    refine Ga (GG (cs := wCells a k c a2 k2 c2 0) HV HV HV ?_ (hi := (by repeat (first | exact has0 | assumption | apply hasS))) (ho := HV))
    refine qs 4 ?_
    refine Ga (GI HV HV HV ?_)
    refine qs 5 ?_
    exact Gx (rs := [.cell 4 _]) (L' := L.set iw (Res.cells bw #[.slice a k c, .slice a2 k2 c2, .int .i64 e] 147)) (F' := F) Tryz.results151 (.agg (j := 1) rfl rfl rfl .nil) subA (hE e he (look_err2 hx hy))
   refine qs 13 ?_
   rw [← hof] at hy
   refine Ga (GL HV HV HV (fun c44 => absurd HV c44) (fun _ => ?_))
   refine qs 9 ?_
   refine Ga (GS HV HV ?_)
   refine qs 1 ?_
   refine Ga (GF (cs := wCells a k c a2 k2 c2 0) (vs := [.slice a39 k39 c39, .slice a2 k2 c2]) HV HV HV HV ?_ (hi := (by repeat (first | exact has0 | assumption | apply hasS))) (ho := HV))
   refine qs 6 ?_
   refine Ga (GI HV HV HV ?_)
   refine qs 4 ?_
   exact Gx (rs := [.cell 4 _]) (L' := L.set iw (Res.cells bw #[.slice a39 k39 c39, .slice a2 k2 c2, .int .i64 0] 147)) (F' := fL o2 a39 k39 c39 :: fMs ms a40 k40 c40 :: F) Tryz.results151 (.agg (j := 1) rfl rfl rfl .nil) (Sub.drop.trans (Sub.drop.trans (Gj (mem2 memA memA (fun x hx => by repeat (first | exact hx | refine List.mem_cons_of_mem _ ?_)))))) (hO o2 ⟨q, ms⟩ a39 k39 c39 a40 k40 c40 (look_ok hx hy))
  refine qs 9 ?_
  have hof : (if (tyAt o q).kind = 7 then q else i) = i := by rw [if_neg (by rw [hqe]; exact c34)]
  have hil : i < o.length := by have := hpo.length_le; omega
  refine Ga (Gf HV HV (umethE_c g o N hno hro i h0 hil memA memA memA memA (fun e he hy => ?_) (fun o2 ms a39 k39 c39 a40 k40 c40 hy => ?_)))
  ·refine qs 13 ?_
   rw [← hof] at hy
   refine Ga (GL HV HV HV (fun _ => ?_) (fun c44 => absurd c44 he))
   refine qs 7 ?_
   refine Ga (GS HV HV ?_)
   refine qs 1 ?_
   refine Ga (GG (cs := wCells a k c a2 k2 c2 0) HV HV HV ?_ (hi := (by repeat (first | exact has0 | assumption | apply hasS))) (ho := HV))
   refine qs 4 ?_
   refine Ga (GI HV HV HV ?_)
   refine qs 5 ?_
   exact Gx (rs := [.cell 4 _]) (L' := L.set iw (Res.cells bw #[.slice a k c, .slice a2 k2 c2, .int .i64 e] 147)) (F' := F) Tryz.results151 (.agg (j := 1) rfl rfl rfl .nil) subA (hE e he (look_err2 hx hy))
  refine qs 13 ?_
  rw [← hof] at hy
  refine Ga (GL HV HV HV (fun c44 => absurd HV c44) (fun _ => ?_))
  refine qs 9 ?_
  refine Ga (GS HV HV ?_)
  refine qs 1 ?_
  refine Ga (GF (cs := wCells a k c a2 k2 c2 0) (vs := [.slice a39 k39 c39, .slice a2 k2 c2]) HV HV HV HV ?_ (hi := (by repeat (first | exact has0 | assumption | apply hasS))) (ho := HV))
  refine qs 6 ?_
  refine Ga (GI HV HV HV ?_)
  refine qs 4 ?_
  exact Gx (rs := [.cell 4 _]) (L' := L.set iw (Res.cells bw #[.slice a39 k39 c39, .slice a2 k2 c2, .int .i64 0] 147)) (F' := fL o2 a39 k39 c39 :: fMs ms a40 k40 c40 :: F) Tryz.results151 (.agg (j := 1) rfl rfl rfl .nil) (Sub.drop.trans (Sub.drop.trans (Gj (mem2 memA memA (fun x hx => by repeat (first | exact hx | refine List.mem_cons_of_mem _ ?_)))))) (hO o2 ⟨q, ms⟩ a39 k39 c39 a40 k40 c40 (look_ok hx hy))
end
end Go.Sy
namespace Go.Sy
open Go Go.Proofs Go.RowKit
theorem first_not {T : List Ty} {N : List Nmd} {n : Nat} (hn : n < T.length) (h : T[n].kind ≠ 1) : firstR T N (n : Int) = .ok (T, [⟨(n : Int), false, false, []⟩]) := by
  unfold firstR; rw [HE hn, if_neg h]
theorem first_is {T : List Ty} {N : List Nmd} {n : Nat} (hn : n < T.length) (h : T[n].kind = 1) (hk : 0 < T[n].kids.length) : firstR T N (n : Int) = match undR T N T[n].kids[0] with
    | .error e => .error e
    | .ok (T1, k) => if (tyAt T1 k).kind = 1 ∨ (tyAt T1 k).kind = 7 then .ok (T, []) else .ok (T1, [⟨T[n].kids[0], true, false, []⟩]) := by
  unfold firstR; rw [HE hn, if_pos h, GH _ hk]; rfl
theorem eSl_one : ∀ (x : SelV) (d : D), d ∈ eSl x → ∀ v, d = .val v → oneC v = true := by
  intro x d hd v hv
  subst hv
  simp at hd
  rcases hd with rfl | rfl | rfl | rfl <;> rfl
theorem hadM_yes {w : Wht} {e : Ent} {s : List UInt8} {q : Nat} (hq : q < w.ms.length) (h : w.ms[q].name = s) : hadM w e s (q + 1) = hadM w e s q ++ [⟨true, w.ms[q].sig, w.ms[q].ptr, e.via, e.path⟩] := by
  simp only [hadM]; rw [GH default hq, if_pos h]
theorem hadM_no {w : Wht} {e : Ent} {s : List UInt8} {q : Nat} (hq : q < w.ms.length) (h : w.ms[q].name ≠ s) : hadM w e s (q + 1) = hadM w e s q := by
  simp only [hadM]; rw [GH default hq, if_neg h]
theorem hadF_yes {t : Ty} {e : Ent} {s : List UInt8} {l : List SelV} {q : Nat} (hq : q < t.words.length) (hk : q < t.kids.length) (h : fieldN t.words[q] = s) : hadF t e s l (q + 1) = hadF t e s l q ++ [⟨false, t.kids[q], false, e.via, e.path ++ [(q : Int)]⟩] := by
  simp only [hadF]; rw [GH [] hq, GH _ hk, if_pos h]
theorem hadF_no {t : Ty} {e : Ent} {s : List UInt8} {l : List SelV} {q : Nat} (hq : q < t.words.length) (h : fieldN t.words[q] ≠ s) : hadF t e s l (q + 1) = hadF t e s l q := by
  simp only [hadF]; rw [GH [] hq, if_neg h]
attribute [local irreducible] AC AT AO AK AH ACalls Sub Res.cells Res.obj Res.nix Res.own Res.map Exit.then Exit.inBlock bodyPost Code.wp Code.wpIn WL Next Post Kont
section
variable {W0 : World} {L : List Res} {F : List Fact} {R : Value → List Res → List Fact → Prop}
set_option maxRecDepth 100000
set_option maxHeartbeats 16000000
theorem first_c (g : Glob W0) (T : List Ty) (N : List Nmd) (hno : ∀ n ∈ N, NmOk n) (hu : rightU T N) (i : Int) (h0 : 0 ≤ i) (hi : i < T.length) {a a2 : Option Addr} {k c k2 c2 bw iw : Nat} (hw : L[iw]? = some (Res.cells bw #[.slice a k c, .slice a2 k2 c2, .int .i64 0] 147)) (mL : fL T a k c ∈ F) (mN : fN N a2 k2 c2 ∈ F) (mE : Fact.slc (.slice none 0 0) 5 [] ∈ F)
    (hE : ∀ e, e ≠ 0 → firstR T N i = .error e → R (.slice none 0 0) (L.set iw (Res.cells bw #[.slice a k c, .slice a2 k2 c2, .int .i64 e] 147)) F)
    (hO : ∀ o lev a' k' c' a3 k3 c3, firstR T N i = .ok (o, lev) → R (.slice a3 k3 c3) (L.set iw (Res.cells bw #[.slice a' k' c', .slice a2 k2 c2, .int .i64 0] 147)) (fL o a' k' c' :: fEn lev a3 k3 c3 :: F)) :
    ACalls Tryz.prog W0 150 #[.pointer (some ⟨bw, 0, none⟩), .int .i64 i] L F R := by
  have hok := Hu hu.1
  obtain ⟨n, rfl⟩ : ∃ n : Nat, i = (n : Int) := ⟨i.toNat, by omega⟩
  have hn : n < T.length := by omega
  have hL0 : L.set iw (Res.cells bw #[.slice a k c, .slice a2 k2 c2, .int .i64 0] 147) = L := (List.getElem?_eq_some_iff.1 hw).2 ▸ List.set_getElem_self _
  have hOT : ∀ lev a3 k3 c3, firstR T N (n : Int) = .ok (T, lev) → R (.slice a3 k3 c3) L (fL T a k c :: fEn lev a3 k3 c3 :: F) := fun lev a3 k3 c3 h => by have := hO T lev a k c a3 k3 c3 h; rwa [hL0] at this
  refine Hy ((Hm (sz := 4)).trans (Hm (sz := 1))) ?_
  refine Gh Tryz.func150 HV Tryz.ntmps150 HV ?_
  refine qs 8 ?_
  refine Ga (GS HV HV ?_)
  refine qs 2 ?_
  refine Ga (GR (cs := wCells a k c a2 k2 c2 0) HV HV ?_ (hi := (by repeat (first | exact has0 | assumption | apply hasS))) (hv := HV))
  refine qs 1 ?_
  have hkl := (hok _ (List.getElem_mem hn)).kids
  refine Ga (Gd (k := n) HV HV HV HV (enc := eTy) (lst := T) memA hn (fun _ _ => ?_))
  refine Ga (GJ HV HV ?_)
  intro a17 k17 z17 d17 e17 f17
  refine Ga (Gl HV (fun b5 => ?_))
  refine qs 8 ?_
  refine Ga (GL HV HV HV (fun c20 => ?_) (fun c20 => ?_))
  ·refine qs 6 ?_
   refine Ga (GI HV HV HV ?_)
   refine Ga (Gg HV HV HV HV HV (fun b23 => ?_))
   refine GD (GM (Hf (i := 0) (enc := eEn) (sz := 4) [(⟨(n : Int), false, false, []⟩ : Ent)] HV (.val (.val (.val (.slc .nil memA)))) (fun _ => rfl) HV (by simp only [List.length_cons, List.length_nil, maxLen]; omega)) GA) ?_
   refine qs 5 ?_
   exact Gb (L' := L) (F' := fL T a k c :: fEn [⟨(n : Int), false, false, []⟩] (some ⟨b23, 0, none⟩) 1 1 :: F) Tryz.results150 rfl (Sub.drop.trans (Gj (mem2 memA memA (fun x hx => by repeat (first | exact hx | refine List.mem_cons_of_mem _ ?_))))) (hOT _ _ _ _ (first_not hn c20))
  refine qs 6 ?_
  refine GP (fun i => Nat.beq i 14) [(bw, _, _), (b5, _, _)] bxA HV (fun hx hX => ?_)
  have hk1 := ptr_of hu.1 hn c20
  have hk0 : 0 < T[n].kids.length := by omega
  have hkd := (GV hu.1 hn).kids _ (List.getElem_mem hk0)
  have hfst := first_is (N := N) hn c20 hk0
  have hkk := (Gs (hX (fK T[n] d17 e17 f17) memA)).1
  obtain ⟨p2, o2, e2, atq⟩ := Gy (hX (fK T[n] d17 e17 f17) memA) hk0
  subst e2
  obtain ⟨vq, hvq, hcq⟩ := atq 0 _ rfl
  cases hcq
  refine qt [0, 1, 2, 3, 4, 5] ?_
  refine GE (i := 6) HV (GC (k := 0) HV HV HV HY) HW HV HV ?_
  refine GN (i := 7) HV (Hn HV hvq) HW HW HV HV HV ?_
  refine HI (i := 8) (j := 13) HW HV HV HV HV (fun _ => ?_) (fun _ => ?_)
  ·refine Gf HV HV (uundE_c g T N hno hu T[n].kids[0] hkd.1 HY memA memA memA (fun e he hx => ?_) (fun o q a33 k33 c33 hx => ?_))
   all_goals refine Gk bxA memB ?_
   ·refine qt [9, 10, 11, 12] ?_
    refine Gm (i := 13) HW HV HV (fun _ => ?_)
    refine Gl HV (fun b6 => ?_)
    refine Gk bxA memB ?_
    refine Gm (i := 14) HW HV HV (fun _ => ?_)
    refine GF HV HV HV HV ?_
    refine Gw HV ?_
    refine qt [15, 16] ?_
    refine Gq HW ?_
    refine qs 5 ?_
    refine Ga (GL HV HV HV (fun _ => ?_) (fun c38 => absurd c38 he))
    refine qs 7 ?_
    refine Ga (GS HV HV ?_)
    refine qs 1 ?_
    refine Ga (GG (cs := wCells a k c a2 k2 c2 0) HV HV HV ?_ (hi := (by repeat (first | exact has0 | assumption | apply hasS))) (ho := HV))
    refine qs 9 ?_
    exact Gb (L' := L.set iw (Res.cells bw #[.slice a k c, .slice a2 k2 c2, .int .i64 e] 147)) (F' := F) Tryz.results150 rfl subA (hE e he (by rw [hfst, hx]))
   refine qt [9, 10, 11, 12] ?_
   refine Gm (i := 13) HW HV HV (fun _ => ?_)
   refine Gl HV (fun b6 => ?_)
   refine Gk bxA memB ?_
   refine Gm (i := 14) HW HV HV (fun _ => ?_)
   refine GF HV HV HV HV ?_
   refine Gw HV ?_
   refine qt [15, 16] ?_
   refine Gq HW ?_
   refine qs 5 ?_
   obtain ⟨hro, hpo, hq0, hql⟩ := undR_ok hu hkd.1 HY hx
   refine Ga (GL HV HV HV (fun c38 => absurd HV c38) (fun _ => ?_))
   refine qs 11 ?_
   obtain ⟨hqn, hqe⟩ := Hz hq0 hql
   refine Ga (Gd (k := q.toNat) HV HV HV HY (enc := eTy) (lst := o) memA hqn (fun _ _ => ?_))
   refine Ga (Hh HV HV (fun _ => ?_))
   refine Ga (Gt HV HV ?_)
   refine qs 6 ?_
   refine Ga (Gr HV HV HV (fun c50 => ?_) (fun c50 => ?_))
   ·refine qs 14 ?_
    first
    | exact Gb (L' := L) (F' := fL T a k c :: fEn [] none 0 0 :: F) Tryz.results150 rfl (Sub.drop.trans (Sub.drop.trans (Gj (mem2 memA memA (fun x hx => by repeat (first | exact hx | refine List.mem_cons_of_mem _ ?_)))))) (hOT [] none 0 0 (by rw [hfst, hx]; simp only; rw [if_pos (by rw [hqe]; first | exact .inl c50 | exact .inr c53)]))
    | exact Gb (L' := L.set iw (Res.cells bw #[.slice a33 k33 c33, .slice a2 k2 c2, .int .i64 0] 147)) (F' := fL o a33 k33 c33 :: fEn [⟨T[n].kids[0], true, false, []⟩] (some ⟨b64, 0, none⟩) 1 1 :: F) Tryz.results150 rfl (Sub.drop.trans (Sub.drop.trans (Gj (mem2 memA memA (fun x hx => by repeat (first | exact hx | refine List.mem_cons_of_mem _ ?_)))))) (hO o _ a33 k33 c33 _ _ _ (by rw [hfst, hx]; simp only; rw [if_neg (by rw [hqe]; rintro (h | h); exact c50 h; exact c53 h)]))
   refine qs 2 ?_
   refine Ge HV HV (Gr HV HV HV (fun c53 => ?_) (fun c53 => ?_))
   ·refine qs 11 ?_
    first
    | exact Gb (L' := L) (F' := fL T a k c :: fEn [] none 0 0 :: F) Tryz.results150 rfl (Sub.drop.trans (Sub.drop.trans (Gj (mem2 memA memA (fun x hx => by repeat (first | exact hx | refine List.mem_cons_of_mem _ ?_)))))) (hOT [] none 0 0 (by rw [hfst, hx]; simp only; rw [if_pos (by rw [hqe]; first | exact .inl c50 | exact .inr c53)]))
    | exact Gb (L' := L.set iw (Res.cells bw #[.slice a33 k33 c33, .slice a2 k2 c2, .int .i64 0] 147)) (F' := fL o a33 k33 c33 :: fEn [⟨T[n].kids[0], true, false, []⟩] (some ⟨b64, 0, none⟩) 1 1 :: F) Tryz.results150 rfl (Sub.drop.trans (Sub.drop.trans (Gj (mem2 memA memA (fun x hx => by repeat (first | exact hx | refine List.mem_cons_of_mem _ ?_)))))) (hO o _ a33 k33 c33 _ _ _ (by rw [hfst, hx]; simp only; rw [if_neg (by rw [hqe]; rintro (h | h); exact c50 h; exact c53 h)]))
   refine qs 10 ?_
   refine Ga (GS HV HV ?_)
   refine qs 1 ?_
   refine Ga (GF (cs := wCells a k c a2 k2 c2 0) (vs := [.slice a33 k33 c33, .slice a2 k2 c2]) HV HV HV HV ?_ (hi := (by repeat (first | exact has0 | assumption | apply hasS))) (ho := HV))
   refine qs 6 ?_
   refine Ga (Gd (k := 0) HV HV HV HV (show fK T[n] _ _ _ ∈ _ from memA) hk0 (fun _ _ => ?_))
   refine Ga (Gt HV HV ?_)
   refine Ga (GI HV HV HV ?_)
   refine Ga (Gg HV HV HV HV HV (fun b64 => ?_))
   refine GD (GM (Hf (i := 0) (enc := eEn) (sz := 4) [(⟨T[n].kids[0], true, false, []⟩ : Ent)] HV (.val (.val (.val (.slc .nil memA)))) (fun _ => rfl) HV (by simp only [List.length_cons, List.length_nil, maxLen]; omega)) GA) ?_
   refine qs 4 ?_
   first
   | exact Gb (L' := L) (F' := fL T a k c :: fEn [] none 0 0 :: F) Tryz.results150 rfl (Sub.drop.trans (Sub.drop.trans (Gj (mem2 memA memA (fun x hx => by repeat (first | exact hx | refine List.mem_cons_of_mem _ ?_)))))) (hOT [] none 0 0 (by rw [hfst, hx]; simp only; rw [if_pos (by rw [hqe]; first | exact .inl c50 | exact .inr c53)]))
   | exact Gb (L' := L.set iw (Res.cells bw #[.slice a33 k33 c33, .slice a2 k2 c2, .int .i64 0] 147)) (F' := fL o a33 k33 c33 :: fEn [⟨T[n].kids[0], true, false, []⟩] (some ⟨b64, 0, none⟩) 1 1 :: F) Tryz.results150 rfl (Sub.drop.trans (Sub.drop.trans (Gj (mem2 memA memA (fun x hx => by repeat (first | exact hx | refine List.mem_cons_of_mem _ ?_)))))) (hO o _ a33 k33 c33 _ _ _ (by rw [hfst, hx]; simp only; rw [if_neg (by rw [hqe]; rintro (h | h); exact c50 h; exact c53 h)]))
  refine Gl HV (fun b6 => ?_)
  refine Gk bxA memB ?_
  refine Gm (i := 8) HW HV HV (fun _ => ?_)
  refine Gf HV HV (uundE_c g T N hno hu T[n].kids[0] hkd.1 HY memA memA memA (fun e he hx => ?_) (fun o q a33 k33 c33 hx => ?_))
  all_goals refine Gk bxA memB ?_
  ·refine qt [9, 10, 11, 12] ?_
   refine Gm (i := 14) HW HV HV (fun _ => ?_)
   refine GF HV HV HV HV ?_
   refine Gw HV ?_
   refine qt [15, 16] ?_
   refine Gq HW ?_
   refine qs 5 ?_
   refine Ga (GL HV HV HV (fun _ => ?_) (fun c38 => absurd c38 he))
   refine qs 7 ?_
   refine Ga (GS HV HV ?_)
   refine qs 1 ?_
   refine Ga (GG (cs := wCells a k c a2 k2 c2 0) HV HV HV ?_ (hi := (by repeat (first | exact has0 | assumption | apply hasS))) (ho := HV))
   refine qs 9 ?_
   exact Gb (L' := L.set iw (Res.cells bw #[.slice a k c, .slice a2 k2 c2, .int .i64 e] 147)) (F' := F) Tryz.results150 rfl subA (hE e he (by rw [hfst, hx]))
  refine qt [9, 10, 11, 12] ?_
  refine Gm (i := 14) HW HV HV (fun _ => ?_)
  refine GF HV HV HV HV ?_
  refine Gw HV ?_
  refine qt [15, 16] ?_
  refine Gq HW ?_
  refine qs 5 ?_
  obtain ⟨hro, hpo, hq0, hql⟩ := undR_ok hu hkd.1 HY hx
  refine Ga (GL HV HV HV (fun c38 => absurd HV c38) (fun _ => ?_))
  refine qs 11 ?_
  obtain ⟨hqn, hqe⟩ := Hz hq0 hql
  refine Ga (Gd (k := q.toNat) HV HV HV HY (enc := eTy) (lst := o) memA hqn (fun _ _ => ?_))
  refine Ga (Hh HV HV (fun _ => ?_))
  refine Ga (Gt HV HV ?_)
  refine qs 6 ?_
  refine Ga (Gr HV HV HV (fun c50 => ?_) (fun c50 => ?_))
  ·refine qs 14 ?_
   first
   | exact Gb (L' := L) (F' := fL T a k c :: fEn [] none 0 0 :: F) Tryz.results150 rfl (Sub.drop.trans (Sub.drop.trans (Gj (mem2 memA memA (fun x hx => by repeat (first | exact hx | refine List.mem_cons_of_mem _ ?_)))))) (hOT [] none 0 0 (by rw [hfst, hx]; simp only; rw [if_pos (by rw [hqe]; first | exact .inl c50 | exact .inr c53)]))
   | exact Gb (L' := L.set iw (Res.cells bw #[.slice a33 k33 c33, .slice a2 k2 c2, .int .i64 0] 147)) (F' := fL o a33 k33 c33 :: fEn [⟨T[n].kids[0], true, false, []⟩] (some ⟨b64, 0, none⟩) 1 1 :: F) Tryz.results150 rfl (Sub.drop.trans (Sub.drop.trans (Gj (mem2 memA memA (fun x hx => by repeat (first | exact hx | refine List.mem_cons_of_mem _ ?_)))))) (hO o _ a33 k33 c33 _ _ _ (by rw [hfst, hx]; simp only; rw [if_neg (by rw [hqe]; rintro (h | h); exact c50 h; exact c53 h)]))
  refine qs 2 ?_
  refine Ge HV HV (Gr HV HV HV (fun c53 => ?_) (fun c53 => ?_))
  ·refine qs 11 ?_
   first
   | exact Gb (L' := L) (F' := fL T a k c :: fEn [] none 0 0 :: F) Tryz.results150 rfl (Sub.drop.trans (Sub.drop.trans (Gj (mem2 memA memA (fun x hx => by repeat (first | exact hx | refine List.mem_cons_of_mem _ ?_)))))) (hOT [] none 0 0 (by rw [hfst, hx]; simp only; rw [if_pos (by rw [hqe]; first | exact .inl c50 | exact .inr c53)]))
   | exact Gb (L' := L.set iw (Res.cells bw #[.slice a33 k33 c33, .slice a2 k2 c2, .int .i64 0] 147)) (F' := fL o a33 k33 c33 :: fEn [⟨T[n].kids[0], true, false, []⟩] (some ⟨b64, 0, none⟩) 1 1 :: F) Tryz.results150 rfl (Sub.drop.trans (Sub.drop.trans (Gj (mem2 memA memA (fun x hx => by repeat (first | exact hx | refine List.mem_cons_of_mem _ ?_)))))) (hO o _ a33 k33 c33 _ _ _ (by rw [hfst, hx]; simp only; rw [if_neg (by rw [hqe]; rintro (h | h); exact c50 h; exact c53 h)]))
  refine qs 10 ?_
  refine Ga (GS HV HV ?_)
  refine qs 1 ?_
  refine Ga (GF (cs := wCells a k c a2 k2 c2 0) (vs := [.slice a33 k33 c33, .slice a2 k2 c2]) HV HV HV HV ?_ (hi := (by repeat (first | exact has0 | assumption | apply hasS))) (ho := HV))
  refine qs 6 ?_
  refine Ga (Gd (k := 0) HV HV HV HV (show fK T[n] _ _ _ ∈ _ from memA) hk0 (fun _ _ => ?_))
  refine Ga (Gt HV HV ?_)
  refine Ga (GI HV HV HV ?_)
  refine Ga (Gg HV HV HV HV HV (fun b64 => ?_))
  refine GD (GM (Hf (i := 0) (enc := eEn) (sz := 4) [(⟨T[n].kids[0], true, false, []⟩ : Ent)] HV (.val (.val (.val (.slc .nil memA)))) (fun _ => rfl) HV (by simp only [List.length_cons, List.length_nil, maxLen]; omega)) GA) ?_
  refine qs 4 ?_
  first
  | exact Gb (L' := L) (F' := fL T a k c :: fEn [] none 0 0 :: F) Tryz.results150 rfl (Sub.drop.trans (Sub.drop.trans (Gj (mem2 memA memA (fun x hx => by repeat (first | exact hx | refine List.mem_cons_of_mem _ ?_)))))) (hOT [] none 0 0 (by rw [hfst, hx]; simp only; rw [if_pos (by rw [hqe]; first | exact .inl c50 | exact .inr c53)]))
  | exact Gb (L' := L.set iw (Res.cells bw #[.slice a33 k33 c33, .slice a2 k2 c2, .int .i64 0] 147)) (F' := fL o a33 k33 c33 :: fEn [⟨T[n].kids[0], true, false, []⟩] (some ⟨b64, 0, none⟩) 1 1 :: F) Tryz.results150 rfl (Sub.drop.trans (Sub.drop.trans (Gj (mem2 memA memA (fun x hx => by repeat (first | exact hx | refine List.mem_cons_of_mem _ ?_)))))) (hO o _ a33 k33 c33 _ _ _ (by rw [hfst, hx]; simp only; rw [if_neg (by rw [hqe]; rintro (h | h); exact c50 h; exact c53 h)]))
end
end Go.Sy
namespace Go.Sy
open Go Go.Proofs Go.RowKit
theorem had_not {T : List Ty} {w : Wht} {e : Ent} {s : List UInt8} (h : (tyAt T w.under).kind ≠ 6) : had1 T w e s [] = hadM w e s w.ms.length := by unfold had1; simp only; rw [if_neg h, List.nil_append]
theorem had_is {T : List Ty} {w : Wht} {e : Ent} {s : List UInt8} (h : (tyAt T w.under).kind = 6) : had1 T w e s [] = hadF (tyAt T w.under) e s (hadM w e s w.ms.length) (tyAt T w.under).words.length := by unfold had1; simp only; rw [if_pos h, List.nil_append]
theorem hadE_yes {T : List Ty} {w : Wht} {e : Ent} {s : List UInt8} (h : e.many = true) : hadE T w e s = had1 T w e s [] ++ had1 T w e s [] := by unfold hadE; rw [if_pos h]
theorem hadE_no {T : List Ty} {w : Wht} {e : Ent} {s : List UInt8} (h : ¬ e.many = true) : hadE T w e s = had1 T w e s [] := by unfold hadE; rw [if_neg h]
attribute [local irreducible] AC AT AO AK AH ACalls Sub Res.cells Res.obj Res.nix Res.own Res.map Exit.then Exit.inBlock bodyPost Code.wp Code.wpIn WL Next Post Kont
section
variable {W0 : World} {L : List Res} {F : List Fact} {R : Value → List Res → List Fact → Prop}
set_option maxRecDepth 100000
set_option maxHeartbeats 16000000
theorem had_c (T : List Ty) (hr : rightP T) (w : Wht) (hwh : whP T w) (e : Ent) (hep : e.path.length ≤ 1000) (s : List UInt8) {a a2 a3 a4 : Option Addr} {k c k2 c2 k3 c3 k4 c4 bw iw : Nat} {bad : Int} (hw : L[iw]? = some (Res.cells bw #[.slice a k c, .slice a2 k2 c2, .int .i64 bad] 147)) (mL : fL T a k c ∈ F) (mP : fI e.path a3 k3 c3 ∈ F) (mM : fMs w.ms a4 k4 c4 ∈ F)
    (h : ∀ a k c, R (.slice a k c) L (fSl (hadE T w e s) a k c :: F)) :
    ACalls Tryz.prog W0 116 #[.pointer (some ⟨bw, 0, none⟩), vEn e a3 k3 c3, vWh w a4 k4 c4, S s] L F R := by
  have hml : 1000000 ≤ maxLen := by decide
  have hms := hwh.2.2
  obtain ⟨hn, hty⟩ := Hz hwh.1 hwh.2.1
  have hok := Hu hr _ (List.getElem_mem hn)
  refine Gh Tryz.func116 HV Tryz.ntmps116 HV ?_
  refine qs 2 ?_
  refine Ga (GO HV HV (fun b5 => (Ga (GO HV HV (fun b6 => ?_)))))
  refine qs 13 ?_
  refine Ga (Gn HV HV (fun hl17 => ?_) (enc := eMt) (lst := w.ms) (hm := memA))
  refine qs 4 ?_
  refine Gz (fun (x : Nat × Option Addr × Nat × Nat) => x.1 ≤ w.ms.length) (fun x => [(0, .pointer (some ⟨bw, 0, none⟩)), (3, S s), (5, .pointer (some ⟨b5, 0, none⟩)), (6, .pointer (some ⟨b6, 0, none⟩)), (9, .slice x.2.1 x.2.2.1 x.2.2.2), (16, .slice a4 k4 c4), (17, .int .i64 w.ms.length), (18, .int .i64 (x.1 : Int))]) (fun x => Res.own (.slice x.2.1 x.2.2.1 x.2.2.2) 47 5 ((hadM w e s x.1).map eSl) :: _) (fun _ => F) (fun x => w.ms.length - x.1) (0, none, 0, 0) (by simp) srA GY ?_
  rintro ⟨q, a5, k5, c5⟩ hq
  simp only at hq ⊢
  refine qs 2 ?_
  refine Ga (Gu HV HV HV (fun c19 => ?_) (fun c19 => ?_))
  ·refine qs 10 ?_
   have hql : q < w.ms.length := by omega
   have hhl := hadM_len (w := w) (e := e) (s := s) q
   refine Ga (Gd HV HV HV HV (enc := eMt) (lst := w.ms) memA hql (fun _ _ => ?_))
   refine Ga (GJ HV HV ?_)
   refine Ga (Gl HV (fun b11 => ?_))
   refine qs 8 ?_
   refine Ga (Hp HV HV HV (fun c25 => ?_) (fun c25 => ?_))
   ·refine qs 13 ?_
    refine Ga (GI HV HV HV ?_)
    refine Ga (Gg HV HV HV HV HV (fun b36 => ?_))
    refine Ga (GB (i := 1) (enc := eSl) (lst := hadM w e s q) [⟨true, w.ms[q].sig, w.ms[q].ptr, e.via, e.path⟩] HV HV HV HV (.val (.val (.val (.val (.slc .nil memA))))) HV HV (fun _ => rfl) HY HY (fun a37 k37 c37 => ?_))
    rw [← hadM_yes hql c25]
    refine qs 8 ?_
    exact Gi (q + 1, a37, k37, c37) (by simp only; omega) (by simp only; omega) srA (Sub.drop.trans subF)
   refine qs 10 ?_
   refine Gi (q + 1, a5, k5, c5) (by simp only; omega) (by simp only; omega) srA ?_
   rw [hadM_no hql c25]
   exact Sub.drop.trans subF
  refine qs 11 ?_
  refine GP (fun i => Nat.beq i 10) [(bw, _, _), (b6, _, _)] bxA HV (fun hx hX => ?_)
  obtain rfl : q = w.ms.length := by omega
  have hu0 := hwh.1
  have hll := (Gs (hX (fL T a k c) memA)).1
  obtain ⟨p1, o1, e1, at1⟩ := Gy (hX (fL T a k c) memA) hn
  subst e1
  obtain ⟨w1, x1, y1, w2, x2, y2, hv1, hw1, hw2⟩ := ty_cells at1
  refine Hx hw1 memA (Hx hw2 memA ?_)
  refine qt [0, 1, 2, 3, 4, 5, 6] ?_
  refine GE (i := 7) HV (GC (k := w.under.toNat) HV HV HY HY) HW HV HV ?_
  refine GN (i := 8) HV (HP HV HV hv1) HW HW HV HV HV ?_
  refine Gm (i := 9) HW HV HV (fun _ => ?_)
  refine Gl HV (fun b12 => ?_)
  refine Gk bxA memB ?_
  refine Gm (i := 10) HW HV HV (fun _ => ?_)
  refine GF HV HV HV HV ?_
  refine Gw HV ?_
  refine Gq HW ?_
  refine qs 5 ?_
  refine Ga (Gr HV HV HV (fun c50 => ?_) (fun c50 => ?_))
  ·refine qs 7 ?_
   refine Ga (Gn HV HV (fun hl53 => ?_) (enc := eS) (lst := T[w.under.toNat].words) (hm := memA))
   refine qs 4 ?_
   have hst := struct_of hr hn c50
   have h1 : had1 T w e s [] = hadF T[w.under.toNat] e s (hadM w e s w.ms.length) T[w.under.toNat].words.length := by rw [had_is (by rw [hty]; exact c50), hty]
   have hhl := hadM_len (w := w) (e := e) (s := s) w.ms.length
   have hwl := hok.words
   generalize hmm : hadM w e s w.ms.length = mm at hhl h1 ⊢
   refine Gz (fun (x : Nat × Option Addr × Nat × Nat) => x.1 ≤ T[w.under.toNat].words.length) (fun x => [(0, .pointer (some ⟨bw, 0, none⟩)), (3, S s), (5, .pointer (some ⟨b5, 0, none⟩)), (6, .pointer (some ⟨b6, 0, none⟩)), (9, .slice x.2.1 x.2.2.1 x.2.2.2), (12, .pointer (some ⟨b12, 0, none⟩)), (52, .slice w1 x1 y1), (53, .int .i64 T[w.under.toNat].words.length), (54, .int .i64 (x.1 : Int))]) (fun x => _ :: Res.own (.slice x.2.1 x.2.2.1 x.2.2.2) 47 5 ((hadF T[w.under.toNat] e s mm x.1).map eSl) :: _) (fun _ => _) (fun x => T[w.under.toNat].words.length - x.1) (0, a5, k5, c5) (by simp) srA (Gc _ _) ?_
   rintro ⟨q, a6, k6, c6⟩ hq
   simp only at hq ⊢
   refine qs 2 ?_
   refine Ga (Gu HV HV HV (fun c55 => ?_) (fun c55 => ?_))
   ·refine qs 11 ?_
    have hql : q < T[w.under.toNat].words.length := by omega
    have hqk : q < T[w.under.toNat].kids.length := by omega
    have hfl := hadF_len (t := T[w.under.toNat]) (e := e) (s := s) (l := mm) q
    refine Ga (Gd HV HV HV HV (enc := eS) (lst := T[w.under.toNat].words) memA hql (fun _ _ => ?_))
    refine Ga (Gt HV HV ?_)
    intros
    refine qs 7 ?_
    refine Ga (Gf HV HV (sfield_c T[w.under.toNat].words[q] ?_))
    refine qs 1 ?_
    refine Ga (Hp HV HV HV (fun c62 => ?_) (fun c62 => ?_))
    ·refine qs 3 ?_
     refine GP (fun _ => false) [(b12, _, _), (b5, _, _)] bxA HV (fun hx hX => ?_)
     have hkk := (Gs (hX (fK T[w.under.toNat] w2 x2 y2) memA)).1
     obtain ⟨p2, o2, e2, atq⟩ := Gy (hX (fK T[w.under.toNat] w2 x2 y2) memA) hqk
     subst e2
     obtain ⟨vq, hvq, hcq⟩ := atq 0 _ rfl
     cases hcq
     refine qt [0, 1, 2, 3] ?_
     refine GE (i := 4) HV (GC (k := q) HV HV HV HY) HW HV HV ?_
     refine GN (i := 5) HV (Hn HV hvq) HW HW HV HV HV ?_
     refine qt [6, 7, 8, 9, 11] ?_
     refine HI (i := 10) (j := 12) HW HV HV HV HV (fun _ => ?_) (fun _ => ?_)
     ·refine Gf HV HV (clipI_c e.path memA (fun a73 => ?_))
      refine Gk bxA memB ?_
      refine Gm (i := 12) HW HV HV (fun _ => ?_)
      refine Gg HV HV HV HV HV (fun b75 => ?_)
      refine Gk bxA memB ?_
      refine Gm (i := 13) HW HV HV (fun _ => ?_)
      refine Hj (enc := eI) (lst := e.path) [(q : Int)] HV HV HV (show fI e.path _ _ _ ∈ _ from memA) (fun x d hd v hv => Hk hd hv) (.val .nil) HV HV (by decide) (fun _ => rfl) HY HY (fun a76 k76 c76 => ?_)
      refine GD (Gv (i := 0) HV) ?_
      refine Gk bxA memB ?_
      refine Gm (i := 14) HW HV HV (fun _ => ?_)
      refine GI HV HV HV ?_
      refine Gk bxA memB ?_
      refine Gm (i := 15) HW HV HV (fun _ => ?_)
      refine Gg HV HV HV HV HV (fun b78 => ?_)
      refine Gk bxA memB ?_
      refine Gm (i := 16) HW HV HV (fun _ => ?_)
      refine GB (i := 2) (enc := eSl) (lst := hadF T[w.under.toNat] e s mm q) [⟨false, T[w.under.toNat].kids[q], false, e.via, e.path ++ [(q : Int)]⟩] HV HV HV HV (.val (.val (.val (.val (.slc .nil memA))))) HV HV (fun _ => rfl) HY HY (fun a79 k79 c79 => ?_)
      rw [← hadF_yes hql hqk c62]
      refine Gk bxA memB ?_
      refine qt [17] ?_
      refine Gq HW ?_
      refine qs 6 ?_
      exact Gi (q + 1, a79, k79, c79) (by simp only; omega) (by simp only; omega) srA (Sub.drop.trans subF)
     refine Gg HV HV HV HV HV (fun b75 => ?_)
     refine Gk bxA memB ?_
     refine Gm (i := 10) HW HV HV (fun _ => ?_)
     refine Gf HV HV (clipI_c e.path memA (fun a73 => ?_))
     refine Gk bxA memB ?_
     refine Gm (i := 13) HW HV HV (fun _ => ?_)
     refine Hj (enc := eI) (lst := e.path) [(q : Int)] HV HV HV (show fI e.path _ _ _ ∈ _ from memA) (fun x d hd v hv => Hk hd hv) (.val .nil) HV HV (by decide) (fun _ => rfl) HY HY (fun a76 k76 c76 => ?_)
     refine GD (Gv (i := 0) HV) ?_
     refine Gk bxA memB ?_
     refine Gm (i := 14) HW HV HV (fun _ => ?_)
     refine GI HV HV HV ?_
     refine Gk bxA memB ?_
     refine Gm (i := 15) HW HV HV (fun _ => ?_)
     refine Gg HV HV HV HV HV (fun b78 => ?_)
     refine Gk bxA memB ?_
     refine Gm (i := 16) HW HV HV (fun _ => ?_)
     refine GB (i := 2) (enc := eSl) (lst := hadF T[w.under.toNat] e s mm q) [⟨false, T[w.under.toNat].kids[q], false, e.via, e.path ++ [(q : Int)]⟩] HV HV HV HV (.val (.val (.val (.val (.slc .nil memA))))) HV HV (fun _ => rfl) HY HY (fun a79 k79 c79 => ?_)
     rw [← hadF_yes hql hqk c62]
     refine Gk bxA memB ?_
     refine qt [17] ?_
     refine Gq HW ?_
     refine qs 6 ?_
     exact Gi (q + 1, a79, k79, c79) (by simp only; omega) (by simp only; omega) srA (Sub.drop.trans subF)
    refine qs 10 ?_
    refine Gi (q + 1, a6, k6, c6) (by simp only; omega) (by simp only; omega) srA ?_
    rw [hadF_no hql c62]
    exact subF
   refine qs 16 ?_
   refine AC.cond HV (fun c82 => ?_) (fun c82 => ?_)
   ·refine qs 3 ?_
    have hfl := hadF_len (t := T[w.under.toNat]) (e := e) (s := s) (l := mm) q
    obtain rfl : q = T[w.under.toNat].words.length := by omega
    refine Ga (AO.appendSelf (i := 1) (enc := eSl) (lst := hadF T[w.under.toNat] e s mm T[w.under.toNat].words.length) HV HV HV HV eSl_one (fun _ => rfl) HY HY (fun a85 k85 c85 => ?_))
    refine qs 10 ?_
    rw [hadE_yes c82, h1] at h
    exact Gb (L' := L) (F' := fSl (hadF T[w.under.toNat] e s mm T[w.under.toNat].words.length ++ hadF T[w.under.toNat] e s mm T[w.under.toNat].words.length) a85 k85 c85 :: F) Tryz.results116 rfl ((Gv (i := 1) rfl).trans (Sub.drop.trans (Sub.drop.trans (Sub.drop.trans (Sub.drop.trans (GW (fun x hx => by repeat (first | exact hx | refine List.mem_cons_of_mem _ ?_)))))))) (h _ _ _)
   refine qs 9 ?_
   obtain rfl : q = T[w.under.toNat].words.length := by omega
   rw [hadE_no (by simp [c82]), h1] at h
   exact Gb (L' := L) (F' := fSl (hadF T[w.under.toNat] e s mm T[w.under.toNat].words.length) a6 k6 c6 :: F) Tryz.results116 rfl ((Gv (i := 1) rfl).trans (Sub.drop.trans (Sub.drop.trans (Sub.drop.trans (Sub.drop.trans (GW (fun x hx => by repeat (first | exact hx | refine List.mem_cons_of_mem _ ?_)))))))) (h _ _ _)
  refine qs 12 ?_
  refine AC.cond HV (fun c82 => ?_) (fun c82 => ?_)
  ·refine qs 3 ?_
   have hhl := hadM_len (w := w) (e := e) (s := s) w.ms.length
   refine Ga (AO.appendSelf (i := 1) (enc := eSl) (lst := hadM w e s w.ms.length) HV HV HV HV eSl_one (fun _ => rfl) HY HY (fun a85 k85 c85 => ?_))
   refine qs 10 ?_
   rw [hadE_yes c82, had_not (by rw [hty]; exact c50)] at h
   exact Gb (L' := L) (F' := fSl (hadM w e s w.ms.length ++ hadM w e s w.ms.length) a85 k85 c85 :: F) Tryz.results116 rfl ((Gv (i := 1) rfl).trans (Sub.drop.trans (Sub.drop.trans (Sub.drop.trans (Sub.drop.trans (GW (fun x hx => by repeat (first | exact hx | refine List.mem_cons_of_mem _ ?_)))))))) (h _ _ _)
  refine qs 9 ?_
  rw [hadE_no (by simp [c82]), had_not (by rw [hty]; exact c50)] at h
  exact Gb (L' := L) (F' := fSl (hadM w e s w.ms.length) a5 k5 c5 :: F) Tryz.results116 rfl ((Gv (i := 1) rfl).trans (Sub.drop.trans (Sub.drop.trans (Sub.drop.trans (Sub.drop.trans (GW (fun x hx => by repeat (first | exact hx | refine List.mem_cons_of_mem _ ?_)))))))) (h _ _ _)
end
end Go.Sy
namespace Go.Sy
open Go Go.Proofs Go.RowKit
def placeP (out : List Ent) (mp : Int → Option Int) : Prop := (∀ t j, mp t = some j → ∃ n : Nat, j = n ∧ ∃ hn : n < out.length, out[n].typ = t) ∧ ∀ t, mp t = none → t ∉ typs out
theorem place_nil : placeP [] (fun _ => none) := ⟨fun t j h => (by cases h), fun t _ => by simp [typs]⟩
theorem place_in {out : List Ent} {mp : Int → Option Int} (h : placeP out mp) {t j : Int} (hj : mp t = some j) : t ∈ typs out := by
  obtain ⟨n, _, hn, e⟩ := h.1 t j hj
  exact List.mem_map.2 ⟨out[n], List.getElem_mem hn, e⟩
theorem place_many {out : List Ent} {mp : Int → Option Int} (h : placeP out mp) (t0 : Int) : placeP (out.map (manyE t0)) mp := by
  refine ⟨fun t j hj => ?_, fun t ht => by rw [typs_many]; exact h.2 t ht⟩
  obtain ⟨n, e, hn, e2⟩ := h.1 t j hj
  exact ⟨n, e, by simpa using hn, by simp only [List.getElem_map]; rw [(manyE_path _ _).2]; exact e2⟩
theorem place_new {out : List Ent} {mp : Int → Option Int} (h : placeP out mp) (x : Ent) : placeP (out ++ [x]) (upd mp x.typ (out.length : Int)) := by
  refine ⟨fun t j hj => ?_, fun t ht => ?_⟩
  · by_cases c : t = x.typ
    · subst c
      rw [upd_self] at hj
      injection hj with hj
      exact ⟨out.length, hj.symm, by simp, by simp⟩
    rw [upd_ne _ c] at hj
    obtain ⟨n, e, hn, e2⟩ := h.1 t j hj
    exact ⟨n, e, by simp; omega, by rw [List.getElem_append_left hn]; exact e2⟩
  by_cases c : t = x.typ
  · subst c; rw [upd_self] at ht; cases ht
  rw [upd_ne _ c] at ht
  have := h.2 t ht
  unfold typs at this ⊢
  rw [List.map_append, List.mem_append]
  rintro (h1 | h1)
  · exact this h1
  simp at h1; exact c h1
def seenP (l : List Int) (m : Int → Option Bool) : Prop := ∀ t, m t = some true ↔ t ∈ l
theorem seen_nil : seenP [] (fun _ => none) := fun t => by simp
theorem seen_new {l : List Int} {m : Int → Option Bool} (h : seenP l m) (t0 : Int) : seenP (l ++ [t0]) (upd m t0 true) := fun t => by
  by_cases c : t = t0
  · subst c; rw [upd_self]; simp
  rw [upd_ne _ c, h t]; simp [c]
theorem many_set {out : List Ent} (hnd : (typs out).Nodup) {n : Nat} (hn : n < out.length) : out.map (manyE out[n].typ) = out.set n ⟨out[n].typ, out[n].via, true, out[n].path⟩ := by
  apply List.ext_getElem
  · simp
  intro j h1 h2
  simp only [List.length_map] at h1
  rw [List.getElem_map]
  by_cases c : n = j
  · subst c
    rw [List.getElem_set_self]
    unfold manyE; rw [if_pos rfl]
  rw [List.getElem_set_ne c]
  unfold manyE
  rw [if_neg]
  intro e
  have hj : j < (typs out).length := by simpa [typs] using h1
  have hn' : n < (typs out).length := by simpa [typs] using hn
  have e2 : (typs out)[j] = (typs out)[n] := by simpa [typs] using e
  exact c ((List.getElem_inj hnd).1 e2).symm
theorem eEn_many {out : List Ent} (hnd : (typs out).Nodup) {n : Nat} (hn : n < out.length) : (out.map eEn).set n ((eEn out[n]).set 2 (.val (.bool true))) = (out.map (manyE out[n].typ)).map eEn := by
  rw [many_set hnd hn, List.map_set]; rfl
section
variable {T : List Ty} {e : Ent} {t : Ty} {seen : List Int} {out : List Ent} {k : Nat} {x : Ent}
theorem inner_no (hk : k < t.words.length) (h : ¬ plusW t.words[k] = true) : innerN T e t seen out (k + 1) = innerN T e t seen out k := by simp only [innerN]; rw [GH [] hk, if_neg h]
theorem inner_yes (hk : k < t.words.length) (h : plusW t.words[k] = true) (hx : entE T e t k = x) : innerN T e t seen out (k + 1) = addE (innerN T e t seen out k) seen x := by simp only [innerN]; rw [GH [] hk, if_pos h, hx]
theorem add_many (h : x.typ ∈ typs out) : addE out seen x = out.map (manyE x.typ) := by unfold addE; rw [if_pos h]
theorem add_seen (h : x.typ ∉ typs out) (h2 : x.typ ∈ seen) : addE out seen x = out := by unfold addE; rw [if_neg h, if_pos h2]
theorem add_new (h : x.typ ∉ typs out) (h2 : x.typ ∉ seen) : addE out seen x = out ++ [x] := by unfold addE; rw [if_neg h, if_neg h2]
end
theorem ent_ptr {T : List Ty} {e : Ent} {t : Ty} {k : Nat} (hk : k < t.kids.length) {y : Nat} (hy : t.kids[k] = (y : Int)) (hyl : y < T.length) (h1 : T[y].kind = 1) (h0 : 0 < T[y].kids.length) : entE T e t k = ⟨T[y].kids[0], true, e.many, e.path ++ [(k : Int)]⟩ := by
  unfold entE; rw [GH _ hk, hy, HE hyl, if_pos h1, GH _ h0]
theorem ent_not {T : List Ty} {e : Ent} {t : Ty} {k : Nat} (hk : k < t.kids.length) {y : Nat} (hy : t.kids[k] = (y : Int)) (hyl : y < T.length) (h1 : T[y].kind ≠ 1) : entE T e t k = ⟨(y : Int), e.via, e.many, e.path ++ [(k : Int)]⟩ := by
  unfold entE; rw [GH _ hk, hy, HE hyl, if_neg h1]
theorem outer_no {T : List Ty} {lev : List Ent} {ws : List Wht} {seen : List Int} {q n : Nat} (hq : q < ws.length) (hn : ws[q].under = (n : Int)) (hnl : n < T.length) (h : T[n].kind ≠ 6) : outerN T lev ws seen (q + 1) = outerN T lev ws seen q := by
  simp only [outerN]; rw [GH default hq, hn, HE hnl, if_neg h]
theorem outer_yes {T : List Ty} {lev : List Ent} {ws : List Wht} {seen : List Int} {q n : Nat} (hq : q < ws.length) (hql : q < lev.length) (hn : ws[q].under = (n : Int)) (hnl : n < T.length) (h : T[n].kind = 6) : outerN T lev ws seen (q + 1) = innerN T lev[q] T[n] seen (outerN T lev ws seen q) T[n].words.length := by
  simp only [outerN]; rw [GH default hq, GH default hql, hn, HE hnl, if_pos h]
attribute [local irreducible] AC AT AO AK AH ACalls Sub Res.cells Res.obj Res.nix Res.own Res.map Exit.then Exit.inBlock bodyPost Code.wp Code.wpIn WL Next Post Kont
section
variable {W0 : World} {L : List Res} {F : List Fact} {R : Value → List Res → List Fact → Prop}
set_option maxRecDepth 100000
set_option maxHeartbeats 16000000
theorem next_c (T : List Ty) (hr : rightP T) (p : Nat) (hp : p ≤ 900) (lev : List Ent) (ws : List Wht) (hl : levP T p lev) (hlen : ws.length = lev.length) (hws : ∀ w ∈ ws, whP T w) (seen : List Int) (m : Int → Option Bool) (hm : seenP seen m)
    {a a2 a3 a4 : Option Addr} {k c k2 c2 k3 c3 k4 c4 bw iw bs is : Nat} {bad : Int} (hw : L[iw]? = some (Res.cells bw #[.slice a k c, .slice a2 k2 c2, .int .i64 bad] 147)) (hs : L[is]? = some (Res.map bs vI Value.bool m)) (mL : fL T a k c ∈ F) (mE : fEn lev a3 k3 c3 ∈ F) (mW : fWh ws a4 k4 c4 ∈ F)
    (h : ∀ m' a k c, seenP (seen ++ typs (nextL T lev ws seen)) m' → R (.slice a k c) (L.set is (Res.map bs vI Value.bool m')) (fEn (nextL T lev ws seen) a k c :: F)) :
    ACalls Tryz.prog W0 152 #[.pointer (some ⟨bw, 0, none⟩), .slice a3 k3 c3, .slice a4 k4 c4, .map (some bs)] L F R := by
  have hml : 1000000 ≤ maxLen := by decide
  have hT4 := hr.2.1
  have hlf := hl.few
  have hL0 : L.set is (Res.map bs vI Value.bool m) = L := (List.getElem?_eq_some_iff.1 hs).2 ▸ List.set_getElem_self _
  refine Gh Tryz.func152 HV Tryz.ntmps152 HV ?_
  refine qs 12 ?_
  refine Ga (AO.makeMap vI vI HV (fun b22 => ?_))
  refine qs 7 ?_
  refine Ga (Gn HV HV (fun hl24 => ?_) (enc := eEn) (lst := lev) (hm := memA))
  refine qs 4 ?_
  refine Gz (fun (x : Nat × (List Ent × (Int → Option Int)) × (Option Addr × Nat × Nat)) => x.1 ≤ lev.length ∧ x.2.1.1 = outerN T lev ws seen x.1 ∧ levP T (p + 1) x.2.1.1 ∧ placeP x.2.1.1 x.2.1.2) (fun x => [(0, .pointer (some ⟨bw, 0, none⟩)), (2, .slice a4 k4 c4), (3, .map (some bs)), (9, .slice x.2.2.1 x.2.2.2.1 x.2.2.2.2), (10, .map (some b22)), (23, .slice a3 k3 c3), (24, .int .i64 lev.length), (25, .int .i64 (x.1 : Int))]) (fun x => Res.own (.slice x.2.2.1 x.2.2.2.1 x.2.2.2.2) 182 4 (x.2.1.1.map eEn) :: Res.map b22 vI vI x.2.1.2 :: L) (fun _ => F) (fun x => lev.length - x.1) (0, ([], fun _ => none), (none, 0, 0)) ⟨Nat.zero_le _, rfl, outerN_ok (seen := seen) hr hl hlen hws 0 (Nat.zero_le _), place_nil⟩ srA GY ?_
  rintro ⟨q, ⟨out, mp⟩, ⟨a9, k9, c9⟩⟩ ⟨hq, hout, hlo, hpl⟩
  simp only at hq hout hlo hpl ⊢
  refine qs 2 ?_
  refine Ga (Gu HV HV HV (fun c26 => ?_) (fun c26 => ?_))
  ·refine qs 11 ?_
   have hql : q < lev.length := by omega
   have hqw : q < ws.length := by omega
   obtain ⟨⟨hy0, hy1⟩, hy2⟩ := hl.1 _ (List.getElem_mem hql)
   have hwq := hws _ (List.getElem_mem hqw)
   obtain ⟨n, hn⟩ : ∃ n : Nat, ws[q].under = (n : Int) := ⟨ws[q].under.toNat, by have := hwq.1; omega⟩
   have hnl : n < T.length := by have := hwq.2.1; omega
   have hrt := GV hr hnl
   have hok := Hu hr _ (List.getElem_mem hnl)
   refine Ga (Gd HV HV HV HV (enc := eEn) (lst := lev) memA hql (fun _ _ => ?_))
   refine Ga (GJ HV HV ?_)
   intro a29 k29 z29
   refine Ga (Gl HV (fun b12 => ?_))
   refine qs 5 ?_
   refine GP (fun i => Nat.beq i 13) [(bw, _, _)] bxA HV (fun hx hX => ?_)
   have hll := (Gs (hX (fL T a k c) memA)).1
   have hww := (Gs (hX (fWh ws a4 k4 c4) memA)).1
   obtain ⟨p0, o0, e0, at0⟩ := Gy (hX (fWh ws a4 k4 c4) memA) hqw
   subst e0
   obtain ⟨v0, hv0, hc0⟩ := at0 0 _ rfl
   cases hc0
   obtain ⟨p1, o1, e1, at1⟩ := Gy (hX (fL T a k c) memA) hnl
   subst e1
   obtain ⟨w1, x1, y1, w2, x2, y2, hv1, hw1, hw2⟩ := ty_cells at1
   refine Hx hw1 memA (Hx hw2 memA ?_)
   refine qt [0, 1, 2, 3, 4, 5, 6] ?_
   refine GE (i := 7) HV (GC (k := q) HV HV HV HY) HW HV HV ?_
   refine qt [8] ?_
   refine GN (i := 9) HV (Hn HV hv0) HW HW HV HV HV ?_
   refine GE (i := 10) HV (GC (k := n) HV HV hn HY) HW HV HV ?_
   refine GN (i := 11) HV (HP HV HV hv1) HW HW HV HV HV ?_
   refine Gm (i := 12) HW HV HV (fun _ => ?_)
   refine Gl HV (fun b13 => ?_)
   refine Gk bxA memB ?_
   refine Gm (i := 13) HW HV HV (fun _ => ?_)
   refine GF HV HV HV HV ?_
   refine Gw HV ?_
   refine Gq HW ?_
   refine qs 6 ?_
   refine Ga (GL HV HV HV (fun c44 => ?_) (fun c44 => ?_))
   ·refine qs 11 ?_
    refine Gi (q + 1, (out, mp), (a9, k9, c9)) ⟨by simp only; omega, by simp only; rw [outer_no hqw hn hnl c44]; exact hout, hlo, hpl⟩ (by simp only; omega) srA (Sub.drop.trans (Sub.drop.trans subF))
   refine qs 9 ?_
   refine Ga (Gn HV HV (fun hl47 => ?_) (enc := eS) (lst := T[n].words) (hm := memA))
   refine qs 4 ?_
   have hst := struct_of hr hnl c44
   have hwl := hok.words
   have hkin : ∀ x ∈ T[n].kids, 0 ≤ x ∧ x < T.length := fun x hx => by have := hrt.kids x hx; omega
   refine Gz (fun (x : Nat × (List Ent × (Int → Option Int)) × (Option Addr × Nat × Nat)) => x.1 ≤ T[n].words.length ∧ x.2.1.1 = innerN T lev[q] T[n] seen out x.1 ∧ levP T (p + 1) x.2.1.1 ∧ placeP x.2.1.1 x.2.1.2) (fun x => [(0, .pointer (some ⟨bw, 0, none⟩)), (2, .slice _ k4 c4), (3, .map (some bs)), (9, .slice x.2.2.1 x.2.2.2.1 x.2.2.2.2), (10, .map (some b22)), (12, .pointer (some ⟨b12, 0, none⟩)), (13, .pointer (some ⟨b13, 0, none⟩)), (23, .slice a3 k3 c3), (24, .int .i64 lev.length), (25, .int .i64 (q : Int)), (46, .slice w1 x1 y1), (47, .int .i64 T[n].words.length), (48, .int .i64 (x.1 : Int))]) (fun x => _ :: _ :: Res.own (.slice x.2.2.1 x.2.2.2.1 x.2.2.2.2) 182 4 (x.2.1.1.map eEn) :: Res.map b22 vI vI x.2.1.2 :: L) (fun _ => _) (fun x => T[n].words.length - x.1) (0, (out, mp), (a9, k9, c9)) ⟨Nat.zero_le _, rfl, hlo, hpl⟩ srA (Gc _ _) ?_
   rintro ⟨j, ⟨ou, mq⟩, ⟨a8, k8, c8⟩⟩ ⟨hj, hou, hlu, hpu⟩
   simp only at hj hou hlu hpu ⊢
   refine qs 2 ?_
   refine Ga (Gu HV HV HV (fun c49 => ?_) (fun c49 => ?_))
   ·refine qs 11 ?_
    have hjl : j < T[n].words.length := by omega
    have hjk : j < T[n].kids.length := by omega
    have hof := hlu.few
    have hkj := hkin _ (List.getElem_mem hjk)
    obtain ⟨y, hy⟩ : ∃ y : Nat, T[n].kids[j] = (y : Int) := ⟨T[n].kids[j].toNat, by omega⟩
    have hyl : y < T.length := by omega
    refine Ga (Gd HV HV HV HV (enc := eS) (lst := T[n].words) memA hjl (fun _ _ => ?_))
    refine Ga (Gt HV HV ?_)
    intros
    refine qs 8 ?_
    refine Ga (Gf HV HV (hasp_c T[n].words[j] ?_))
    refine qs 3 ?_
    refine AC.cond HV (fun c55 => ?_) (fun c55 => ?_)
    ·refine qs 8 ?_
     exact Gi (j + 1, (ou, mq), (a8, k8, c8)) ⟨by simp only; omega, by simp only; rw [inner_no hjl (by simpa using c55)]; exact hou, hlu, hpu⟩ (by simp only; omega) srA subF
    refine qs 3 ?_
    refine AC.cut (fun (x : Nat × Option Addr × Nat × Nat) ρ => (16, .pointer (some ⟨x.1, 0, none⟩)) :: ρ) (fun x L => Res.cells x.1 #[.int .i64 (y : Int), .bool lev[q].via, .bool lev[q].many, .slice x.2.1 x.2.2.1 x.2.2.2] 182 :: L) (fun x F => fI (lev[q].path ++ [(j : Int)]) x.2.1 x.2.2.1 x.2.2.2 :: F) ?_ (fun key => ?_)
    ·rintro ⟨b16, a70, k70, c70⟩
     refine qs 3 ?_
     refine GP (fun i => Nat.beq i 10) [(bw, _, _), (b16, _, _)] bxA HV (fun hx hX => ?_)
     have hll2 := (Gs (hX (fL T _ k c) memA)).1
     obtain ⟨p3, o3, e3, at3⟩ := Gy (hX (fL T _ k c) memA) hyl
     cases e3
     obtain ⟨w4, x4, y4, w5, x5, y5, hv3, hw4, hw5⟩ := ty_cells at3
     refine Hx hw4 memA (Hx hw5 memA ?_)
     refine qt [0, 1, 2, 3, 4, 5, 6] ?_
     refine GE (i := 7) HV (GC (k := y) HV HV HV HY) HW HV HV ?_
     refine GN (i := 8) HV (HP HV HV hv3) HW HW HV HV HV ?_
     refine Gm (i := 9) HW HV HV (fun _ => ?_)
     refine Gl HV (fun b17 => ?_)
     refine Gk bxA memB ?_
     refine Gm (i := 10) HW HV HV (fun _ => ?_)
     refine GF HV HV HV HV ?_
     refine Gw HV ?_
     refine Gq HW ?_
     refine qs 5 ?_
     refine Ga (Gr HV HV HV (fun c83 => ?_) (fun c83 => ?_))
     ·refine qs 6 ?_
      have hk1 := ptr_of hr hyl c83
      have hk0 : 0 < T[y].kids.length := by omega
      refine Ga (Gd (k := 0) HV HV HV HV (show fK T[y] _ _ _ ∈ _ from memA) hk0 (fun _ _ => ?_))
      refine Ga (Gt HV HV ?_)
      intros
      refine qs 11 ?_
      have hx := ent_ptr (e := lev[q]) hjk hy hyl c83 hk0
      have hxk := entE_ok hr (e := lev[q]) hy2 hjk hkin
      rw [hx] at hxk
      refine Ga (AO.lookupOk (kenc := vI) (venc := vI) (m := mq) (i := 5) T[y].kids[0] HV HV HV HV (fun d hd => ?_) (fun hd => ?_))
      ·refine qs 16 ?_
       obtain ⟨f, rfl, hfl, hft⟩ := hpu.1 _ _ hd
       refine Ga (GU (i := 4) (q := f) HV HV HV HV HV (by rw [List.length_map]; exact hfl) (fun bo ho => ?_))
       cases ho
       refine qs 1 ?_
       refine Ga (AO.storeOR (v := .bool true) (i := 4) (q := f) (j := 2) HV HV HV HV HV (show (ou.map eEn)[f]? = some (eEn ou[f]) by rw [List.getElem?_map, List.getElem?_eq_getElem hfl]; rfl) (by simp) ?_)
       rw [eEn_many hlu.2 hfl, hft]
       refine qs 7 ?_
       have hin := place_in hpu hd
       exact Gi (j + 1, (ou.map (manyE _), mq), (_, k8, c8)) ⟨by simp only; omega, by simp only; rw [inner_yes hjl (by simpa using c55) hx, ← hou, add_many hin], by have := addE_ok (seen := seen) hlu hxk; rwa [add_many hin] at this, place_many hpu _⟩ (by simp only; omega) srA (Sub.drop.trans (Sub.drop.trans subF))
      refine qs 18 ?_
      refine Ga (AO.lookupB (kenc := vI) (m := m) (i := is + 6) T[y].kids[0] HV HV HV (by repeat (first | exact has0 | assumption | apply hasS)) (fun hse => ?_) (fun hse => ?_))
      ·refine qs 11 ?_
       have hni := hpu.2 _ hd
       have hin := (hm _).1 hse
       exact Gi (j + 1, (ou, mq), (a8, k8, c8)) ⟨by simp only; omega, by simp only; rw [inner_yes hjl (by simpa using c55) hx, ← hou, add_seen hni hin], hlu, hpu⟩ (by simp only; omega) srA (Sub.drop.trans (Sub.drop.trans subF))
      refine qs 10 ?_
      refine Ga (AO.lenO (i := 4) HV HV HV (fun hk111 => ?_))
      rw [List.length_map]
      refine Ga (Hs (kenc := vI) (venc := vI) (m := mq) (i := 5) T[y].kids[0] (ou.length : Int) HV HV HV HV ?_)
      refine qs 5 ?_
      refine Ga (Gg HV HV HV HV HV (fun b114 => ?_))
      refine Ga (GB (i := 4) (enc := eEn) (lst := ou) [⟨T[y].kids[0], true, lev[q].many, lev[q].path ++ [(j : Int)]⟩] HV HV HV HV (.val (.val (.val (.slc .nil memA)))) HV HV (fun _ => rfl) HY HY (fun a115 k115 c115 => ?_))
      refine qs 8 ?_
      have hni := hpu.2 _ hd
      have hin := fun e => hse ((hm _).2 e)
      exact Gi (j + 1, (ou ++ [_], upd mq _ _), (a115, k115, c115)) ⟨by simp only; omega, by simp only; rw [inner_yes hjl (by simpa using c55) hx, ← hou, add_new hni hin], by have := addE_ok (seen := seen) hlu hxk; rwa [add_new hni hin] at this, place_new hpu _⟩ (by simp only; omega) srA (Sub.drop.trans (Sub.drop.trans subF))
     refine qs 10 ?_
     have hx := ent_not (e := lev[q]) hjk hy hyl c83
     have hxk := entE_ok hr (e := lev[q]) hy2 hjk hkin
     rw [hx] at hxk
     refine Ga (AO.lookupOk (kenc := vI) (venc := vI) (m := mq) (i := 5) (y : Int) HV HV HV HV (fun d hd => ?_) (fun hd => ?_))
     ·refine qs 16 ?_
      obtain ⟨f, rfl, hfl, hft⟩ := hpu.1 _ _ hd
      refine Ga (GU (i := 4) (q := f) HV HV HV HV HV (by rw [List.length_map]; exact hfl) (fun bo ho => ?_))
      cases ho
      refine qs 1 ?_
      refine Ga (AO.storeOR (v := .bool true) (i := 4) (q := f) (j := 2) HV HV HV HV HV (show (ou.map eEn)[f]? = some (eEn ou[f]) by rw [List.getElem?_map, List.getElem?_eq_getElem hfl]; rfl) (by simp) ?_)
      rw [eEn_many hlu.2 hfl, hft]
      refine qs 7 ?_
      have hin := place_in hpu hd
      exact Gi (j + 1, (ou.map (manyE _), mq), (_, k8, c8)) ⟨by simp only; omega, by simp only; rw [inner_yes hjl (by simpa using c55) hx, ← hou, add_many hin], by have := addE_ok (seen := seen) hlu hxk; rwa [add_many hin] at this, place_many hpu _⟩ (by simp only; omega) srA (Sub.drop.trans (Sub.drop.trans subF))
     refine qs 18 ?_
     refine Ga (AO.lookupB (kenc := vI) (m := m) (i := is + 6) (y : Int) HV HV HV (by repeat (first | exact has0 | assumption | apply hasS)) (fun hse => ?_) (fun hse => ?_))
     ·refine qs 11 ?_
      have hni := hpu.2 _ hd
      have hin := (hm _).1 hse
      exact Gi (j + 1, (ou, mq), (a8, k8, c8)) ⟨by simp only; omega, by simp only; rw [inner_yes hjl (by simpa using c55) hx, ← hou, add_seen hni hin], hlu, hpu⟩ (by simp only; omega) srA (Sub.drop.trans (Sub.drop.trans subF))
     refine qs 10 ?_
     refine Ga (AO.lenO (i := 4) HV HV HV (fun hk111 => ?_))
     rw [List.length_map]
     refine Ga (Hs (kenc := vI) (venc := vI) (m := mq) (i := 5) (y : Int) (ou.length : Int) HV HV HV HV ?_)
     refine qs 5 ?_
     refine Ga (Gg HV HV HV HV HV (fun b114 => ?_))
     refine Ga (GB (i := 4) (enc := eEn) (lst := ou) [⟨(y : Int), lev[q].via, lev[q].many, lev[q].path ++ [(j : Int)]⟩] HV HV HV HV (.val (.val (.val (.slc .nil memA)))) HV HV (fun _ => rfl) HY HY (fun a115 k115 c115 => ?_))
     refine qs 8 ?_
     have hni := hpu.2 _ hd
     have hin := fun e => hse ((hm _).2 e)
     exact Gi (j + 1, (ou ++ [_], upd mq _ _), (a115, k115, c115)) ⟨by simp only; omega, by simp only; rw [inner_yes hjl (by simpa using c55) hx, ← hou, add_new hni hin], by have := addE_ok (seen := seen) hlu hxk; rwa [add_new hni hin] at this, place_new hpu _⟩ (by simp only; omega) srA (Sub.drop.trans (Sub.drop.trans subF))
    refine GP (fun i => Nat.beq i 17) [(b12, _, _), (b13, _, _)] bxA HV (fun hx hX => ?_)
    have hkk := (Gs (hX (fK T[n] w2 x2 y2) memA)).1
    obtain ⟨p2, o2, e2, atq⟩ := Gy (hX (fK T[n] w2 x2 y2) memA) hjk
    subst e2
    obtain ⟨vq, hvq, hcq⟩ := atq 0 _ rfl
    cases hcq
    rw [hy] at hvq
    refine qt [0, 1, 2] ?_
    refine GE (i := 3) HV (GC (k := j) HV HV HV HY) HW HV HV ?_
    refine GN (i := 4) HV (Hn HV hvq) HW HW HV HV HV ?_
    refine qt [5, 6, 7, 8, 9, 10, 12] ?_
    refine AH.ups (is := [11, 13, 16]) HW (by decide) (UpsH.cons HV HV (fun _ => ?_) (UpsH.cons HV HV (fun _ => ?_) (UpsH.cons HV HV (fun _ => ?_) UpsH.nil)))
    ·refine Gf HV HV (clipI_c lev[q].path (show fI lev[q].path _ _ _ ∈ _ from memA) (fun a67 => ?_))
     refine Gk bxA memB ?_
     refine HI (i := 13) (j := 16) HW HV HV HV HV (fun _ => ?_) (fun _ => ?_)
     ·refine Gg HV HV HV HV HV (fun b69 => ?_)
      refine Gk bxA memB ?_
      refine HI (i := 14) (j := 16) HW HV HV HV HV (fun _ => ?_) (fun _ => ?_)
      ·first | refine Hj (enc := eI) (lst := lev[q].path) [(j : Int)] HV HV HV (show fI lev[q].path _ _ _ ∈ _ from memA) (fun x d hd v hv => Hk hd hv) (.val .nil) HV HV (by decide) (fun _ => rfl) HY HY (fun a70 k70 c70 => ?_) | refine AO.thin Sub.swap2 (Hj (enc := eI) (lst := lev[q].path) [(j : Int)] HV HV HV (show fI lev[q].path _ _ _ ∈ _ from memA) (fun x d hd v hv => Hk hd hv) (.val .nil) HV HV (by decide) (fun _ => rfl) HY HY (fun a70 k70 c70 => ?_))
       refine GD (Gv (i := 0) HV) ?_
       refine Gk bxA memB ?_
       refine HI (i := 15) (j := 16) HW HV HV HV HV (fun _ => ?_) (fun _ => ?_)
       ·refine GI HV HV HV ?_
        refine Gk bxA memB ?_
        refine Gm (i := 16) HW HV HV (fun _ => ?_)
        refine Gl HV (fun b16 => ?_)
        refine Gk bxA memB ?_
        refine Gm (i := 17) HW HV HV (fun _ => ?_)
        refine GF HV HV HV HV ?_
        refine Gw HV ?_
        refine Gq HW ?_
        exact HD srA (by first | exact Sub.drop.trans (Gj (mem1 memA (fun x hx => by repeat (first | exact hx | refine List.mem_cons_of_mem _ ?_)))) | exact Sub.drop1.trans (Gj (mem1 memA (fun x hx => by repeat (first | exact hx | refine List.mem_cons_of_mem _ ?_))))) (key (b16, a70, k70, c70))
       refine Gl HV (fun b16 => ?_)
       refine Gk bxA memB ?_
       refine Gm (i := 15) HW HV HV (fun _ => ?_)
       refine GI HV HV HV ?_
       refine Gk bxA memB ?_
       refine Gm (i := 17) HW HV HV (fun _ => ?_)
       refine GF HV HV HV HV ?_
       refine Gw HV ?_
       refine Gq HW ?_
       exact HD srA (by first | exact Sub.drop.trans (Gj (mem1 memA (fun x hx => by repeat (first | exact hx | refine List.mem_cons_of_mem _ ?_)))) | exact Sub.drop1.trans (Gj (mem1 memA (fun x hx => by repeat (first | exact hx | refine List.mem_cons_of_mem _ ?_))))) (key (b16, a70, k70, c70))
      refine Gl HV (fun b16 => ?_)
      refine Gk bxA memB ?_
      refine Gm (i := 14) HW HV HV (fun _ => ?_)
      first | refine Hj (enc := eI) (lst := lev[q].path) [(j : Int)] HV HV HV (show fI lev[q].path _ _ _ ∈ _ from memA) (fun x d hd v hv => Hk hd hv) (.val .nil) HV HV (by decide) (fun _ => rfl) HY HY (fun a70 k70 c70 => ?_) | refine AO.thin Sub.swap2 (Hj (enc := eI) (lst := lev[q].path) [(j : Int)] HV HV HV (show fI lev[q].path _ _ _ ∈ _ from memA) (fun x d hd v hv => Hk hd hv) (.val .nil) HV HV (by decide) (fun _ => rfl) HY HY (fun a70 k70 c70 => ?_))
      refine GD (Gv (i := 0) HV) ?_
      refine Gk bxA memB ?_
      refine Gm (i := 15) HW HV HV (fun _ => ?_)
      refine GI HV HV HV ?_
      refine Gk bxA memB ?_
      refine Gm (i := 17) HW HV HV (fun _ => ?_)
      refine GF HV HV HV HV ?_
      refine Gw HV ?_
      refine Gq HW ?_
      exact HD srA (by first | exact Sub.drop.trans (Gj (mem1 memA (fun x hx => by repeat (first | exact hx | refine List.mem_cons_of_mem _ ?_)))) | exact Sub.drop1.trans (Gj (mem1 memA (fun x hx => by repeat (first | exact hx | refine List.mem_cons_of_mem _ ?_))))) (key (b16, a70, k70, c70))
     refine Gl HV (fun b16 => ?_)
     refine Gk bxA memB ?_
     refine Gm (i := 13) HW HV HV (fun _ => ?_)
     refine Gg HV HV HV HV HV (fun b69 => ?_)
     refine Gk bxA memB ?_
     refine Gm (i := 14) HW HV HV (fun _ => ?_)
     first | refine Hj (enc := eI) (lst := lev[q].path) [(j : Int)] HV HV HV (show fI lev[q].path _ _ _ ∈ _ from memA) (fun x d hd v hv => Hk hd hv) (.val .nil) HV HV (by decide) (fun _ => rfl) HY HY (fun a70 k70 c70 => ?_) | refine AO.thin Sub.swap2 (Hj (enc := eI) (lst := lev[q].path) [(j : Int)] HV HV HV (show fI lev[q].path _ _ _ ∈ _ from memA) (fun x d hd v hv => Hk hd hv) (.val .nil) HV HV (by decide) (fun _ => rfl) HY HY (fun a70 k70 c70 => ?_))
     refine GD (Gv (i := 0) HV) ?_
     refine Gk bxA memB ?_
     refine Gm (i := 15) HW HV HV (fun _ => ?_)
     refine GI HV HV HV ?_
     refine Gk bxA memB ?_
     refine Gm (i := 17) HW HV HV (fun _ => ?_)
     refine GF HV HV HV HV ?_
     refine Gw HV ?_
     refine Gq HW ?_
     exact HD srA (by first | exact Sub.drop.trans (Gj (mem1 memA (fun x hx => by repeat (first | exact hx | refine List.mem_cons_of_mem _ ?_)))) | exact Sub.drop1.trans (Gj (mem1 memA (fun x hx => by repeat (first | exact hx | refine List.mem_cons_of_mem _ ?_))))) (key (b16, a70, k70, c70))
    ·refine Gg HV HV HV HV HV (fun b69 => ?_)
     refine Gk bxA memB ?_
     refine HI (i := 11) (j := 16) HW HV HV HV HV (fun _ => ?_) (fun _ => ?_)
     ·refine Gf HV HV (clipI_c lev[q].path (show fI lev[q].path _ _ _ ∈ _ from memA) (fun a67 => ?_))
      refine Gk bxA memB ?_
      refine HI (i := 14) (j := 16) HW HV HV HV HV (fun _ => ?_) (fun _ => ?_)
      ·first | refine Hj (enc := eI) (lst := lev[q].path) [(j : Int)] HV HV HV (show fI lev[q].path _ _ _ ∈ _ from memA) (fun x d hd v hv => Hk hd hv) (.val .nil) HV HV (by decide) (fun _ => rfl) HY HY (fun a70 k70 c70 => ?_) | refine AO.thin Sub.swap2 (Hj (enc := eI) (lst := lev[q].path) [(j : Int)] HV HV HV (show fI lev[q].path _ _ _ ∈ _ from memA) (fun x d hd v hv => Hk hd hv) (.val .nil) HV HV (by decide) (fun _ => rfl) HY HY (fun a70 k70 c70 => ?_))
       refine GD (Gv (i := 0) HV) ?_
       refine Gk bxA memB ?_
       refine HI (i := 15) (j := 16) HW HV HV HV HV (fun _ => ?_) (fun _ => ?_)
       ·refine GI HV HV HV ?_
        refine Gk bxA memB ?_
        refine Gm (i := 16) HW HV HV (fun _ => ?_)
        refine Gl HV (fun b16 => ?_)
        refine Gk bxA memB ?_
        refine Gm (i := 17) HW HV HV (fun _ => ?_)
        refine GF HV HV HV HV ?_
        refine Gw HV ?_
        refine Gq HW ?_
        exact HD srA (by first | exact Sub.drop.trans (Gj (mem1 memA (fun x hx => by repeat (first | exact hx | refine List.mem_cons_of_mem _ ?_)))) | exact Sub.drop1.trans (Gj (mem1 memA (fun x hx => by repeat (first | exact hx | refine List.mem_cons_of_mem _ ?_))))) (key (b16, a70, k70, c70))
       refine Gl HV (fun b16 => ?_)
       refine Gk bxA memB ?_
       refine Gm (i := 15) HW HV HV (fun _ => ?_)
       refine GI HV HV HV ?_
       refine Gk bxA memB ?_
       refine Gm (i := 17) HW HV HV (fun _ => ?_)
       refine GF HV HV HV HV ?_
       refine Gw HV ?_
       refine Gq HW ?_
       exact HD srA (by first | exact Sub.drop.trans (Gj (mem1 memA (fun x hx => by repeat (first | exact hx | refine List.mem_cons_of_mem _ ?_)))) | exact Sub.drop1.trans (Gj (mem1 memA (fun x hx => by repeat (first | exact hx | refine List.mem_cons_of_mem _ ?_))))) (key (b16, a70, k70, c70))
      refine Gl HV (fun b16 => ?_)
      refine Gk bxA memB ?_
      refine Gm (i := 14) HW HV HV (fun _ => ?_)
      first | refine Hj (enc := eI) (lst := lev[q].path) [(j : Int)] HV HV HV (show fI lev[q].path _ _ _ ∈ _ from memA) (fun x d hd v hv => Hk hd hv) (.val .nil) HV HV (by decide) (fun _ => rfl) HY HY (fun a70 k70 c70 => ?_) | refine AO.thin Sub.swap2 (Hj (enc := eI) (lst := lev[q].path) [(j : Int)] HV HV HV (show fI lev[q].path _ _ _ ∈ _ from memA) (fun x d hd v hv => Hk hd hv) (.val .nil) HV HV (by decide) (fun _ => rfl) HY HY (fun a70 k70 c70 => ?_))
      refine GD (Gv (i := 0) HV) ?_
      refine Gk bxA memB ?_
      refine Gm (i := 15) HW HV HV (fun _ => ?_)
      refine GI HV HV HV ?_
      refine Gk bxA memB ?_
      refine Gm (i := 17) HW HV HV (fun _ => ?_)
      refine GF HV HV HV HV ?_
      refine Gw HV ?_
      refine Gq HW ?_
      exact HD srA (by first | exact Sub.drop.trans (Gj (mem1 memA (fun x hx => by repeat (first | exact hx | refine List.mem_cons_of_mem _ ?_)))) | exact Sub.drop1.trans (Gj (mem1 memA (fun x hx => by repeat (first | exact hx | refine List.mem_cons_of_mem _ ?_))))) (key (b16, a70, k70, c70))
     refine Gl HV (fun b16 => ?_)
     refine Gk bxA memB ?_
     refine Gm (i := 11) HW HV HV (fun _ => ?_)
     refine Gf HV HV (clipI_c lev[q].path (show fI lev[q].path _ _ _ ∈ _ from memA) (fun a67 => ?_))
     refine Gk bxA memB ?_
     refine Gm (i := 14) HW HV HV (fun _ => ?_)
     first | refine Hj (enc := eI) (lst := lev[q].path) [(j : Int)] HV HV HV (show fI lev[q].path _ _ _ ∈ _ from memA) (fun x d hd v hv => Hk hd hv) (.val .nil) HV HV (by decide) (fun _ => rfl) HY HY (fun a70 k70 c70 => ?_) | refine AO.thin Sub.swap2 (Hj (enc := eI) (lst := lev[q].path) [(j : Int)] HV HV HV (show fI lev[q].path _ _ _ ∈ _ from memA) (fun x d hd v hv => Hk hd hv) (.val .nil) HV HV (by decide) (fun _ => rfl) HY HY (fun a70 k70 c70 => ?_))
     refine GD (Gv (i := 0) HV) ?_
     refine Gk bxA memB ?_
     refine Gm (i := 15) HW HV HV (fun _ => ?_)
     refine GI HV HV HV ?_
     refine Gk bxA memB ?_
     refine Gm (i := 17) HW HV HV (fun _ => ?_)
     refine GF HV HV HV HV ?_
     refine Gw HV ?_
     refine Gq HW ?_
     exact HD srA (by first | exact Sub.drop.trans (Gj (mem1 memA (fun x hx => by repeat (first | exact hx | refine List.mem_cons_of_mem _ ?_)))) | exact Sub.drop1.trans (Gj (mem1 memA (fun x hx => by repeat (first | exact hx | refine List.mem_cons_of_mem _ ?_))))) (key (b16, a70, k70, c70))
    refine Gl HV (fun b16 => ?_)
    refine Gk bxA memB ?_
    refine HI (i := 11) (j := 13) HW HV HV HV HV (fun _ => ?_) (fun _ => ?_)
    ·refine Gf HV HV (clipI_c lev[q].path (show fI lev[q].path _ _ _ ∈ _ from memA) (fun a67 => ?_))
     refine Gk bxA memB ?_
     refine Gm (i := 13) HW HV HV (fun _ => ?_)
     refine Gg HV HV HV HV HV (fun b69 => ?_)
     refine Gk bxA memB ?_
     refine Gm (i := 14) HW HV HV (fun _ => ?_)
     first | refine Hj (enc := eI) (lst := lev[q].path) [(j : Int)] HV HV HV (show fI lev[q].path _ _ _ ∈ _ from memA) (fun x d hd v hv => Hk hd hv) (.val .nil) HV HV (by decide) (fun _ => rfl) HY HY (fun a70 k70 c70 => ?_) | refine AO.thin Sub.swap2 (Hj (enc := eI) (lst := lev[q].path) [(j : Int)] HV HV HV (show fI lev[q].path _ _ _ ∈ _ from memA) (fun x d hd v hv => Hk hd hv) (.val .nil) HV HV (by decide) (fun _ => rfl) HY HY (fun a70 k70 c70 => ?_))
     refine GD (Gv (i := 0) HV) ?_
     refine Gk bxA memB ?_
     refine Gm (i := 15) HW HV HV (fun _ => ?_)
     refine GI HV HV HV ?_
     refine Gk bxA memB ?_
     refine Gm (i := 17) HW HV HV (fun _ => ?_)
     refine GF HV HV HV HV ?_
     refine Gw HV ?_
     refine Gq HW ?_
     exact HD srA (by first | exact Sub.drop.trans (Gj (mem1 memA (fun x hx => by repeat (first | exact hx | refine List.mem_cons_of_mem _ ?_)))) | exact Sub.drop1.trans (Gj (mem1 memA (fun x hx => by repeat (first | exact hx | refine List.mem_cons_of_mem _ ?_))))) (key (b16, a70, k70, c70))
    refine Gg HV HV HV HV HV (fun b69 => ?_)
    refine Gk bxA memB ?_
    refine Gm (i := 11) HW HV HV (fun _ => ?_)
    refine Gf HV HV (clipI_c lev[q].path (show fI lev[q].path _ _ _ ∈ _ from memA) (fun a67 => ?_))
    refine Gk bxA memB ?_
    refine Gm (i := 14) HW HV HV (fun _ => ?_)
    first | refine Hj (enc := eI) (lst := lev[q].path) [(j : Int)] HV HV HV (show fI lev[q].path _ _ _ ∈ _ from memA) (fun x d hd v hv => Hk hd hv) (.val .nil) HV HV (by decide) (fun _ => rfl) HY HY (fun a70 k70 c70 => ?_) | refine AO.thin Sub.swap2 (Hj (enc := eI) (lst := lev[q].path) [(j : Int)] HV HV HV (show fI lev[q].path _ _ _ ∈ _ from memA) (fun x d hd v hv => Hk hd hv) (.val .nil) HV HV (by decide) (fun _ => rfl) HY HY (fun a70 k70 c70 => ?_))
    refine GD (Gv (i := 0) HV) ?_
    refine Gk bxA memB ?_
    refine Gm (i := 15) HW HV HV (fun _ => ?_)
    refine GI HV HV HV ?_
    refine Gk bxA memB ?_
    refine Gm (i := 17) HW HV HV (fun _ => ?_)
    refine GF HV HV HV HV ?_
    refine Gw HV ?_
    refine Gq HW ?_
    exact HD srA (by first | exact Sub.drop.trans (Gj (mem1 memA (fun x hx => by repeat (first | exact hx | refine List.mem_cons_of_mem _ ?_)))) | exact Sub.drop1.trans (Gj (mem1 memA (fun x hx => by repeat (first | exact hx | refine List.mem_cons_of_mem _ ?_))))) (key (b16, a70, k70, c70))
   refine qs 14 ?_
   obtain rfl : j = T[n].words.length := by omega
   exact Gi (q + 1, (ou, mq), (a8, k8, c8)) ⟨by simp only; omega, by simp only; rw [outer_yes hqw hql hn hnl c44, ← hout]; exact hou, hlu, hpu⟩ (by simp only; omega) srA (Sub.drop.trans (Sub.drop.trans subF))
  refine qs 12 ?_
  obtain rfl : q = lev.length := by omega
  have hof := hlo.few
  refine GD (Gv (i := 0) HV) ?_
  refine Ga (HK HV HV ?_)
  refine Ga (Gn HV HV (fun hl119 => ?_) (enc := eEn) (lst := out) (hm := memA))
  refine qs 4 ?_
  refine Gz (fun (x : Nat × (Int → Option Bool)) => x.1 ≤ out.length ∧ seenP (seen ++ typs (out.take x.1)) x.2) (fun x => [(3, .map (some bs)), (9, .slice a9 k9 c9), (118, .slice a9 k9 c9), (119, .int .i64 out.length), (120, .int .i64 (x.1 : Int))]) (fun x => _ :: _ :: L.set is (Res.map bs vI Value.bool x.2)) (fun _ => _) (fun x => out.length - x.1) (0, m) ⟨Nat.zero_le _, by simpa [typs] using hm⟩ srA (Hi (by simp only [hL0]; rfl)) ?_
  rintro ⟨v, mv⟩ ⟨hv, hmv⟩
  simp only at hv hmv ⊢
  refine qs 2 ?_
  refine Ga (Gu HV HV HV (fun c121 => ?_) (fun c121 => ?_))
  ·refine qs 10 ?_
   have hvl : v < out.length := by omega
   refine Ga (Gd HV HV HV HV (enc := eEn) (lst := out) memA hvl (fun _ _ => ?_))
   refine Ga (GJ HV HV ?_)
   intro a123 k123 z123
   refine Ga (Gl HV (fun b21 => ?_))
   refine qs 7 ?_
   refine Ga (Hs (kenc := vI) (venc := Value.bool) (m := mv) (i := is + 3) out[v].typ true HV HV HV (show (L.set is (Res.map bs vI Value.bool mv))[is]? = _ from List.getElem?_set_self (HC hs)) ?_)
   refine GD (Hi (show _ = _ :: _ :: _ :: L.set is (Res.map bs vI Value.bool (upd mv out[v].typ true)) from by show _ :: _ :: _ :: (L.set is _).set is _ = _; rw [List.set_set])) ?_
   refine qs 7 ?_
   exact Gi (v + 1, upd mv out[v].typ true) ⟨by simp only; omega, by
    have := seen_new hmv out[v].typ
    rwa [List.append_assoc, show typs (out.take v) ++ [out[v].typ] = typs (out.take (v + 1)) by unfold typs; rw [List.take_succ_eq_append_getElem hvl, List.map_append]; rfl] at this⟩ (by simp only; omega) srA (Sub.drop.trans subF)
  refine qs 16 ?_
  obtain rfl : v = out.length := by omega
  rw [List.take_length] at hmv
  have hnx : nextL T lev ws seen = out := hout.symm
  rw [hnx] at h
  exact Gb (L' := L.set is (Res.map bs vI Value.bool mv)) (F' := fEn out a9 k9 c9 :: F) Tryz.results152 rfl (Sub.drop.trans (Sub.drop.trans (Gj (mem1 memA (fun x hx => by repeat (first | exact hx | refine List.mem_cons_of_mem _ ?_)))))) (h mv a9 k9 c9 hmv)
end
end Go.Sy
namespace Go.Sy
open Go Go.Proofs Go.RowKit
theorem runL_err {σ : Type} {N : List Nmd} {stp : σ → List Ty → List Ent → List Wht → σ} {go : σ → Bool} {n : Nat} {T : List Ty} {lev : List Ent} {seen : List Int} {s : σ} {e : Int} (h : looksR N T lev lev.length = .error e) : runL N stp go (n + 1) T lev seen s = (s, .error e) := by unfold runL; rw [h]
theorem runL_nil {σ : Type} {N : List Nmd} {stp : σ → List Ty → List Ent → List Wht → σ} {go : σ → Bool} {n : Nat} {T : List Ty} {seen : List Int} {s : σ} : runL N stp go (n + 1) T [] seen s = (s, .ok T) := rfl
theorem runL_stop {σ : Type} {N : List Nmd} {stp : σ → List Ty → List Ent → List Wht → σ} {go : σ → Bool} {n : Nat} {T T1 : List Ty} {lev : List Ent} {ws : List Wht} {seen : List Int} {s : σ} (h : looksR N T lev lev.length = .ok (T1, ws)) (hl : lev ≠ []) (hg : go (stp s T1 lev ws) = false) : runL N stp go (n + 1) T lev seen s = (stp s T1 lev ws, .ok T1) := by
  unfold runL; rw [h]; simp only; rw [if_neg hl, if_neg (by rw [hg]; decide)]
theorem runL_go {σ : Type} {N : List Nmd} {stp : σ → List Ty → List Ent → List Wht → σ} {go : σ → Bool} {n : Nat} {T T1 : List Ty} {lev : List Ent} {ws : List Wht} {seen : List Int} {s : σ} (h : looksR N T lev lev.length = .ok (T1, ws)) (hl : lev ≠ []) (hg : go (stp s T1 lev ws) = true) : runL N stp go (n + 1) T lev seen s = runL N stp go n T1 (nextL T1 lev ws seen) (seen ++ typs (nextL T1 lev ws seen)) (stp s T1 lev ws) := by
  conv => lhs; unfold runL
  rw [h]; simp only; rw [if_neg hl, if_pos hg]
theorem looks_err {N : List Nmd} {T o : List Ty} {lev : List Ent} {ws : List Wht} {q : Nat} (hq : q < lev.length) (h : looksR N T lev q = .ok (o, ws)) {e : Int} (he : lookR o N lev[q].typ = .error e) : looksR N T lev lev.length = .error e := by
  unfold looksR at h ⊢
  refine stepsN_bad h ?_ hq
  simp only
  rw [GH default hq, he]
theorem looks_ok {N : List Nmd} {T o o2 : List Ty} {lev : List Ent} {ws : List Wht} {wh : Wht} {q : Nat} (hq : q < lev.length) (h : looksR N T lev q = .ok (o, ws)) (he : lookR o N lev[q].typ = .ok (o2, wh)) : looksR N T lev (q + 1) = .ok (o2, ws ++ [wh]) := by
  unfold looksR at h ⊢
  rw [stepsN_ok h]
  simp only
  rw [GH default hq, he]
structure Hd1 (N : List Nmd) (T0 T : List Ty) (j : Nat) (lev : List Ent) : Prop where
  right : rightU T N
  pre : T0 <+: T
  lev : levP T j lev
attribute [local irreducible] AC AT AO AK AH ACalls Sub Res.cells Res.obj Res.nix Res.own Res.map Exit.then Exit.inBlock bodyPost Code.wp Code.wpIn WL Next Post Kont
section
variable {W0 : World} {L : List Res} {F : List Fact} {R : Value → List Res → List Fact → Prop}
set_option maxRecDepth 100000
set_option maxHeartbeats 16000000
theorem levels_c {bw : Nat} (i : Int) (h : ∀ b2 b3, R (.func (.func 149) #[] #[.pointer (some ⟨b2, 0, none⟩), .pointer (some ⟨b3, 0, none⟩)]) (Res.cells b3 #[.int .i64 i] 3 :: Res.cells b2 #[.pointer (some ⟨bw, 0, none⟩)] 145 :: L) F) :
    ACalls Tryz.prog W0 91 #[.pointer (some ⟨bw, 0, none⟩), .int .i64 i] L F R := by
  refine Gh Tryz.func91 HV Tryz.ntmps91 HV ?_
  refine qs 2 ?_
  refine Ga (GO HV HV (fun b2 => (Ga (GO HV HV (fun b3 => ?_)))))
  refine qs 5 ?_
  refine Ga (HJ HV HV ?_)
  refine qs 4 ?_
  exact Gb Tryz.results91 rfl (Gc _ _) (h b2 b3)
theorem first2_c (g : Glob W0) (T : List Ty) (N : List Nmd) (hno : ∀ n ∈ N, NmOk n) (hu : rightU T N) (i : Int) (h0 : 0 ≤ i) (hi : i < T.length) {a a2 : Option Addr} {k c k2 c2 bw iw : Nat} (hw : L[iw]? = some (Res.cells bw #[.slice a k c, .slice a2 k2 c2, .int .i64 0] 147)) (mL : fL T a k c ∈ F) (mN : fN N a2 k2 c2 ∈ F) (mE : Fact.slc (.slice none 0 0) 5 [] ∈ F)
    (h : ∀ o bad lev a' k' c' a3 k3 c3, (bad ≠ 0 ∧ lev = [] ∧ o = T ∧ firstR T N i = .error bad) ∨ (bad = 0 ∧ firstR T N i = .ok (o, lev)) → R (.slice a3 k3 c3) (L.set iw (Res.cells bw #[.slice a' k' c', .slice a2 k2 c2, .int .i64 bad] 147)) (fL o a' k' c' :: fEn lev a3 k3 c3 :: F)) :
    ACalls Tryz.prog W0 150 #[.pointer (some ⟨bw, 0, none⟩), .int .i64 i] L F R := by
  have hs : Sub L F L (fL T a k c :: fEn [] none 0 0 :: F) := (Hm (sz := 4)).trans (Gj (mem1 memA (fun x hx => hx)))
  refine Hy hs (ACalls.out (R' := fun v L' F' => ∃ F'', Sub L' F' L' F'' ∧ R v L' F'') ?_ (fun v L' F' ⟨F'', h1, h2⟩ => ⟨L', F'', h1, h2⟩))
  refine first_c g T N hno hu i h0 hi hw memA memA memA (fun e he hx => ⟨_, Gc _ _, h T e [] a k c none 0 0 (.inl ⟨he, rfl, rfl, hx⟩)⟩) (fun o lev a' k' c' a3 k3 c3 hx => ⟨fL o a' k' c' :: fEn lev a3 k3 c3 :: F, Gj ?_, h o 0 lev a' k' c' a3 k3 c3 (.inr ⟨rfl, hx⟩)⟩)
  exact mem2 memA memA (fun x hx => List.mem_cons_of_mem _ (List.mem_cons_of_mem _ (List.mem_cons_of_mem _ (List.mem_cons_of_mem _ hx))))
theorem levels1_c {σ χ : Type} (g : Glob W0) (N : List Nmd) (hno : ∀ n ∈ N, NmOk n) (T0 : List Ty) (hu : rightU T0 N) (i : Int) (h0 : 0 ≤ i) (hi : i < T0.length)
    (stp : σ → List Ty → List Ent → List Wht → σ) (go : σ → Bool) (J : Nat → σ → Prop) (Lf : σ → χ → List Value → List Res) (s0 : σ) (x0 : χ) {b2 b3 bw i2 i3 iw l : Nat} {a a2 : Option Addr} {k c k2 c2 : Nat}
    (H2 : ∀ s x w, (Lf s x w)[i2]? = some (Res.cells b2 #[.pointer (some ⟨bw, 0, none⟩)] 145)) (H3 : ∀ s x w, (Lf s x w)[i3]? = some (Res.cells b3 #[.int .i64 i] 3))
    (Hw : ∀ s x w, (Lf s x w)[iw]? = some (Res.cells bw w.toArray 147)) (HS : ∀ s x w w', (Lf s x w).set iw (Res.cells bw w'.toArray 147) = Lf s x w')
    (hJ0 : J 0 s0) (hJ : ∀ n s T lev ws, J n s → n < 7 → rightU T N → levP T n lev → ws.length = lev.length → (∀ w ∈ ws, whP T w) → go (stp s T lev ws) = true → J (n + 1) (stp s T lev ws))
    (mL : fL T0 a k c ∈ F) (mN : fN N a2 k2 c2 ∈ F) (mE : Fact.slc (.slice none 0 0) 5 [] ∈ F) (mM : Fact.slc (.slice none 0 0) 3 [] ∈ F)
    (hy : ∀ n s x T a k c lev ws a3 k3 c3 a4 k4 c4 A F', J n s → n < 7 → rightU T N → levP T n lev → ws.length = lev.length → (∀ w ∈ ws, whP T w) → fL T a k c ∈ F' → fEn lev a3 k3 c3 ∈ F' → fWh ws a4 k4 c4 ∈ F' →
      AYields Tryz.prog W0 l #[.slice a3 k3 c3, .slice a4 k4 c4] (A ++ Lf s x (wCells a k c a2 k2 c2 0)) F' fun v L' F'' => ∃ x', v = .bool (go (stp s T lev ws)) ∧ L' = A ++ Lf (stp s T lev ws) x' (wCells a k c a2 k2 c2 0) ∧ F'' = F')
    (hR : ∀ s' x' T' e a k c, (e ≠ 0 ∧ levelsL N stp go T0 i s0 = (s', .error e)) ∨ (e = 0 ∧ levelsL N stp go T0 i s0 = (s', .ok T')) → R (.tuple #[]) (Lf s' x' (wCells a k c a2 k2 c2 e)) (fL T' a k c :: F)) :
    ACalls Tryz.prog W0 149 #[.func (.yield l) #[] #[], .pointer (some ⟨b2, 0, none⟩), .pointer (some ⟨b3, 0, none⟩)] (Lf s0 x0 (wCells a k c a2 k2 c2 0)) F R := by
  have hml : 1000000 ≤ maxLen := by decide
  refine Gh Tryz.func149 HV Tryz.ntmps149 HV ?_
  refine qs 2 ?_
  refine Ga (GR HV HV ?_ (hi := H2 _ _ _) (hv := HV))
  refine Ga (GR HV HV ?_ (hi := H3 _ _ _) (hv := HV))
  refine Ga (Gf HV HV (first2_c g T0 N hno hu i h0 hi (Hw s0 x0 (wCells a k c a2 k2 c2 0)) memA memA memA (fun T1 bad lev a1 k1 c1 a3 k3 c3 hf => ?_)))
  rw [HS s0 x0 _ (wCells a1 k1 c1 a2 k2 c2 bad)]
  have hlv : rightU T1 N ∧ T0 <+: T1 ∧ levP T1 0 lev := by
   rcases hf with ⟨_, rfl, rfl, _⟩ | ⟨_, hx⟩
   · exact ⟨hu, List.prefix_rfl, fun e he => absurd he (by simp), by simp [typs]⟩
   exact firstR_ok hu h0 hi hx
  have hstart : (bad = 0 ∧ levelsL N stp go T0 i s0 = runL N stp go 7 T1 lev (typs lev) s0) ∨ (bad ≠ 0 ∧ lev = [] ∧ levelsL N stp go T0 i s0 = (s0, .error bad)) := by
   rcases hf with ⟨h1, h2, _, hx⟩ | ⟨h1, hx⟩
   · exact .inr ⟨h1, h2, by unfold levelsL; rw [hx]⟩
   exact .inl ⟨h1, by unfold levelsL; rw [hx]⟩
  clear hf
  refine qs 5 ?_
  have hlf := hlv.2.2.few
  have hT4 := hlv.1.1.2.1
  refine Ga (AO.makeMap vI Value.bool HV (fun b14 => ?_))
  refine qs 7 ?_
  refine Ga (Gn HV HV (fun hl16 => ?_) (enc := eEn) (lst := lev) (hm := memA))
  refine qs 4 ?_
  refine Gz (fun (x : Nat × (Int → Option Bool)) => x.1 ≤ lev.length ∧ seenP (typs (lev.take x.1)) x.2) (fun x => [(0, .func (.yield l) #[] #[]), (1, .pointer (some ⟨b2, 0, none⟩)), (4, .slice a3 k3 c3), (5, .map (some b14)), (15, .slice a3 k3 c3), (16, .int .i64 lev.length), (17, .int .i64 (x.1 : Int))]) (fun x => Res.map b14 vI Value.bool x.2 :: _) (fun _ => _) (fun x => lev.length - x.1) (0, fun _ => none) ⟨Nat.zero_le _, by simpa [typs] using seen_nil⟩ srA (Gc _ _) ?_
  rintro ⟨v, mv⟩ ⟨hv, hmv⟩
  simp only at hv hmv ⊢
  refine qs 2 ?_
  refine Ga (Gu HV HV HV (fun c18 => ?_) (fun c18 => ?_))
  ·refine qs 10 ?_
   have hvl : v < lev.length := by omega
   refine Ga (Gd HV HV HV HV (enc := eEn) (lst := lev) memA hvl (fun _ _ => ?_))
   refine Ga (GJ HV HV ?_)
   intro a20 k20 z20
   refine Ga (Gl HV (fun b7 => ?_))
   refine qs 7 ?_
   refine Ga (Hs (kenc := vI) (venc := Value.bool) (m := mv) (i := 1) lev[v].typ true HV HV HV HV ?_)
   refine qs 7 ?_
   exact Gi (v + 1, upd mv lev[v].typ true) ⟨by simp only; omega, by
    have := seen_new hmv lev[v].typ
    rwa [show typs (lev.take v) ++ [lev[v].typ] = typs (lev.take (v + 1)) by unfold typs; rw [List.take_succ_eq_append_getElem hvl, List.map_append]; rfl] at this⟩ (by simp only; omega) srA (Sub.drop.trans subF)
  refine qs 15 ?_
  obtain rfl : v = lev.length := by omega
  rw [List.take_length] at hmv
  refine Gz (fun (x : Nat × ((σ × χ) × List Ty × Int) × (List Ent × List Int × (Int → Option Bool)) × (Option Addr × Nat × Nat) × (Option Addr × Nat × Nat)) => x.1 ≤ 7 ∧ Hd1 N T0 x.2.1.2.1 x.1 x.2.2.1.1 ∧ seenP x.2.2.1.2.1 x.2.2.1.2.2 ∧ J x.1 x.2.1.1.1 ∧ ((x.2.1.2.2 = 0 ∧ levelsL N stp go T0 i s0 = runL N stp go (7 - x.1) x.2.1.2.1 x.2.2.1.1 x.2.2.1.2.1 x.2.1.1.1) ∨ (x.2.1.2.2 ≠ 0 ∧ x.1 = 0 ∧ x.2.2.1.1 = [] ∧ levelsL N stp go T0 i s0 = (x.2.1.1.1, .error x.2.1.2.2)))) (fun x => [(0, .func (.yield l) #[] #[]), (1, .pointer (some ⟨b2, 0, none⟩)), (4, .slice x.2.2.2.2.1 x.2.2.2.2.2.1 x.2.2.2.2.2.2), (5, .map (some b14)), (25, .int .i64 (x.1 : Int))]) (fun x => Res.map b14 vI Value.bool x.2.2.1.2.2 :: Lf x.2.1.1.1 x.2.1.1.2 (wCells x.2.2.2.1.1 x.2.2.2.1.2.1 x.2.2.2.1.2.2 a2 k2 c2 x.2.1.2.2)) (fun x => fL x.2.1.2.1 x.2.2.2.1.1 x.2.2.2.1.2.1 x.2.2.2.1.2.2 :: fEn x.2.2.1.1 x.2.2.2.2.1 x.2.2.2.2.2.1 x.2.2.2.2.2.2 :: F) (fun x => 7 - x.1) (0, ((s0, x0), T1, bad), (lev, typs lev, mv), (a1, k1, c1), (a3, k3, c3)) ⟨Nat.zero_le _, ⟨hlv.1, hlv.2.1, hlv.2.2⟩, hmv, hJ0, by rcases hstart with h | ⟨h1, h2, h3⟩; exact .inl h; exact .inr ⟨h1, rfl, h2, h3⟩⟩ srA (Gj (mem2 memA memA (fun x hx => by repeat (first | exact hx | refine List.mem_cons_of_mem _ ?_)))) ?_
  clear hstart hlv hlf hT4 hmv hl16 hv
  rintro ⟨j, ⟨⟨s, xx⟩, T, bd⟩, ⟨le, seen, m⟩, ⟨a5, k5, c5⟩, ⟨a6, k6, c6⟩⟩ ⟨hj, hd, hm, hjs, hrel⟩
  simp only at hj hd hm hjs hrel ⊢
  refine qs 2 ?_
  refine Ga (Gu HV HV HV (fun c26 => ?_) (fun c26 => ?_))
  ·refine qs 17 ?_
   have hlf := hd.lev.few
   have hT4 := hd.right.1.2.1
   have hj7 : j < 7 := by omega
   refine Ga (Gn HV HV (fun hl28 => ?_) (enc := eEn) (lst := le) (hm := memA))
   refine qs 4 ?_
   have herr : ∀ e, looksR N T le le.length = .error e → bd = 0 → levelsL N stp go T0 i s0 = (s, .error e) := fun e he hb => by
    rcases hrel with ⟨_, h⟩ | ⟨h, _⟩
    · rw [h, show 7 - j = (6 - j) + 1 by omega, runL_err he]
    exact absurd hb h
   refine Gz (fun (x : Nat × (List Ty × Int × List Wht) × (Option Addr × Nat × Nat) × (Option Addr × Nat × Nat)) => x.1 ≤ le.length ∧ x.2.1.2.2.length ≤ x.1 ∧ ((x.2.1.2.1 = 0 ∧ bd = 0 ∧ looksR N T le x.1 = .ok (x.2.1.1, x.2.1.2.2)) ∨ (x.2.1.2.1 ≠ 0 ∧ levelsL N stp go T0 i s0 = (s, .error x.2.1.2.1)))) (fun x => [(0, .func (.yield l) #[] #[]), (1, .pointer (some ⟨b2, 0, none⟩)), (4, .slice a6 k6 c6), (5, .map (some b14)), (8, .slice x.2.2.2.1 x.2.2.2.2.1 x.2.2.2.2.2), (25, .int .i64 (j : Int)), (27, .slice a6 k6 c6), (28, .int .i64 le.length), (29, .int .i64 (x.1 : Int))]) (fun x => Res.own (.slice x.2.2.2.1 x.2.2.2.2.1 x.2.2.2.2.2) 154 2 (x.2.1.2.2.map eWh) :: Res.map b14 vI Value.bool m :: Lf s xx (wCells x.2.2.1.1 x.2.2.1.2.1 x.2.2.1.2.2 a2 k2 c2 x.2.1.2.1)) (fun x => fL x.2.1.1 x.2.2.1.1 x.2.2.1.2.1 x.2.2.1.2.2 :: fEn le a6 k6 c6 :: F) (fun x => le.length - x.1) (0, (T, bd, []), (a5, k5, c5), (none, 0, 0)) ⟨Nat.zero_le _, Nat.le_refl _, by simp only; rcases hrel with ⟨h1, h2⟩ | ⟨h1, _, _, h4⟩; exact .inl ⟨h1, h1, rfl⟩; exact .inr ⟨h1, h4⟩⟩ srA GY ?_
   rintro ⟨q, ⟨o, be, ws⟩, ⟨a7, k7, c7⟩, ⟨a8, k8, c8⟩⟩ ⟨hq, hwl, hst⟩
   simp only at hq hwl hst ⊢
   refine qs 2 ?_
   refine Ga (Gu HV HV HV (fun c30 => ?_) (fun c30 => ?_))
   ·refine qs 10 ?_
    have hql : q < le.length := by omega
    refine Ga (Gd HV HV HV HV (enc := eEn) (lst := le) memA hql (fun _ _ => ?_))
    refine Ga (GJ HV HV ?_)
    intro a32 k32 z32
    refine Ga (Gl HV (fun b10 => ?_))
    refine qs 5 ?_
    refine Ga (GR HV HV ?_ (hi := hasS (hasS (hasS (H2 _ _ _)))) (hv := HV))
    refine Ga (GS HV HV ?_)
    refine qs 1 ?_
    refine Ga (GR (cs := wCells a7 k7 c7 a2 k2 c2 be) HV HV ?_ (hi := hasS (hasS (hasS (Hw _ _ _)))) (hv := HV))
    refine Ga (Gr HV HV HV (fun c37 => ?_) (fun c37 => ?_))
    ·refine qs 5 ?_
     refine Ga (GR HV HV ?_ (hi := hasS (hasS (hasS (H2 _ _ _)))) (hv := HV))
     refine qs 2 ?_
     obtain ⟨_, hb0, hlk⟩ : be = 0 ∧ bd = 0 ∧ looksR N T le q = .ok (o, ws) := by rcases hst with h | ⟨h, _⟩; exact h; exact absurd c37 h
     subst c37
     obtain ⟨hro, hpo, hlw, hww⟩ := looksR_ok hd.right hd.lev q hq o ws hlk
     have hle := (hd.lev.1 _ (List.getElem_mem hql)).1
     have hpl := hpo.length_le
     refine Ga (Gf HV HV (look_c g o N hno hro le[q].typ hle.1 HY (hasS (hasS (hasS (Hw s xx (wCells a7 k7 c7 a2 k2 c2 0))))) memA memA memA memA (fun e he hx => ?_) (fun o2 wh a42 k42 c42 a43 k43 c43 hx => ?_)))
     ·refine GD (Hi (show _ = _ :: _ :: _ :: Lf s xx (wCells a7 k7 c7 a2 k2 c2 e) from by show _ :: _ :: _ :: (Lf s xx _).set iw _ = _; rw [HS])) ?_
      refine Ga (Gg HV HV HV HV HV (fun b43 => ?_))
      refine Ga (GB (i := 1) (enc := eWh) (lst := ws) [⟨0, []⟩] HV HV HV HV (.val (.slc .nil memA)) HV HV (fun _ => rfl) HY HY (fun a44 k44 c44 => ?_))
      refine qs 8 ?_
      exact Gi (q + 1, (o, e, ws ++ [⟨0, []⟩]), (a7, k7, c7), (a44, k44, c44)) ⟨by simp only; omega, by simp; omega, .inr ⟨he, herr e (looks_err hql hlk hx) hb0⟩⟩ (by simp only; omega) srA (Sub.drop.trans (Gj (mem2 memA memA (fun x hx => by repeat (first | exact hx | refine List.mem_cons_of_mem _ ?_)))))
     refine GD (Hi (show _ = _ :: _ :: _ :: Lf s xx (wCells a42 k42 c42 a2 k2 c2 0) from by show _ :: _ :: _ :: (Lf s xx _).set iw _ = _; rw [HS])) ?_
     refine Ga (Gg HV HV HV HV HV (fun b43 => ?_))
     refine Ga (GB (i := 1) (enc := eWh) (lst := ws) [wh] HV HV HV HV (.val (.slc .nil memA)) HV HV (fun _ => rfl) HY HY (fun a44 k44 c44 => ?_))
     refine qs 8 ?_
     exact Gi (q + 1, (o2, 0, ws ++ [wh]), (a42, k42, c42), (a44, k44, c44)) ⟨by simp only; omega, by simp; omega, .inl ⟨rfl, hb0, looks_ok hql hlk hx⟩⟩ (by simp only; omega) srA (Sub.drop.trans (Gj (mem2 memA memA (fun x hx => by repeat (first | exact hx | refine List.mem_cons_of_mem _ ?_)))))
    refine qs 10 ?_
    refine Gi (q + 1, (o, be, ws), (a7, k7, c7), (a8, k8, c8)) ⟨by simp only; omega, by simp only; omega, ?_⟩ (by simp only; omega) srA (Sub.drop.trans (Gj (mem2 memA memA (fun x hx => by repeat (first | exact hx | refine List.mem_cons_of_mem _ ?_)))))
    rcases hst with ⟨h, _⟩ | h
    · exact absurd h c37
    exact .inr h
   refine qs 12 ?_
   refine Ga (GR HV HV ?_ (hi := hasS (hasS (H2 _ _ _))) (hv := HV))
   refine Ga (GS HV HV ?_)
   refine qs 1 ?_
   refine Ga (GR (cs := wCells a7 k7 c7 a2 k2 c2 be) HV HV ?_ (hi := hasS (hasS (Hw _ _ _))) (hv := HV))
   obtain rfl : q = le.length := by omega
   refine Ga (GL HV HV HV (fun c50 => ?_) (fun c50 => ?_))
   ·refine qs 21 ?_
    have hst2 : levelsL N stp go T0 i s0 = (s, .error be) := by rcases hst with ⟨h, _⟩ | ⟨_, h⟩; exact absurd h c50; exact h
    exact AK.ret0 (L' := Lf s xx (wCells a7 k7 c7 a2 k2 c2 be)) (F' := fL o a7 k7 c7 :: F) Tryz.results149 (Sub.drop.trans (Sub.drop.trans (Gj (mem1 memA (fun x hx => by repeat (first | exact hx | refine List.mem_cons_of_mem _ ?_)))))) (hR s xx o be a7 k7 c7 (.inl ⟨c50, hst2⟩))
   refine qs 2 ?_
   subst c50
   obtain ⟨_, hb0, hlk⟩ : (0 : Int) = 0 ∧ bd = 0 ∧ looksR N T le le.length = .ok (o, ws) := by rcases hst with h | ⟨h, _⟩; exact h; exact absurd rfl h
   obtain ⟨hro, hpo, hlw, hww⟩ := looksR_ok hd.right hd.lev _ (Nat.le_refl _) o ws hlk
   have hrun : levelsL N stp go T0 i s0 = runL N stp go (6 - j + 1) T le seen s := by
    rcases hrel with ⟨_, h⟩ | ⟨h, _⟩
    · rw [h, show 7 - j = (6 - j) + 1 by omega]
    exact absurd hb0 h
   refine Ge HV HV (Gn HV HV (fun hl53 => ?_) (enc := eEn) (lst := le) (hm := memA))
   refine Ge HV HV (Gr HV HV HV (fun c54 => ?_) (fun c54 => ?_))
   ·refine qs 17 ?_
    have hle : le = [] := List.eq_nil_of_length_eq_zero HY
    subst hle
    injection hlk with e1
    injection e1 with e1 e2
    subst e1
    exact AK.ret0 (L' := Lf s xx (wCells a7 k7 c7 a2 k2 c2 0)) (F' := fL T a7 k7 c7 :: F) Tryz.results149 (Sub.drop.trans (Sub.drop.trans (Gj (mem1 memA (fun x hx => by repeat (first | exact hx | refine List.mem_cons_of_mem _ ?_)))))) (hR s xx T 0 a7 k7 c7 (.inr ⟨rfl, by rw [hrun, runL_nil]⟩))
   refine qs 5 ?_
   have hle : le ≠ [] := fun e => by subst e; exact c54 rfl
   refine GD (Gv (i := 0) HV) ?_
   refine Ge HV HV (AO.yield HV HV HV ?_)
   refine AYields.mono (hy j s xx o a7 k7 c7 le ws a6 k6 c6 a8 k8 c8 [Res.nix, Res.map b14 vI Value.bool m] _ hjs hj7 hro (hd.lev.up hpo) hlw hww memA memA memA) (fun v9 L9 F9 h9 => ?_)
   obtain ⟨x9, rfl, rfl, rfl⟩ := h9
   rcases Bool.eq_false_or_eq_true (go (stp s o le ws)) with hgo | hgo
   all_goals rw [hgo]
   ·refine qs 8 ?_
    refine Ga (GR HV HV ?_ (hi := hasS (hasS (H2 _ _ _))) (hv := HV))
    refine qs 3 ?_
    refine Ga (Gf HV HV (next_c o hro.1 j HY le ws (hd.lev.up hpo) hlw hww seen m hm (is := 1) (hasS (hasS (Hw (stp s o le ws) x9 (wCells a7 k7 c7 a2 k2 c2 0)))) HV memA memA memA (fun m9 a67 k67 c67 hm9 => ?_)))
    refine qs 8 ?_
    exact Gi (j + 1, ((stp s o le ws, x9), o, 0), (nextL o le ws seen, seen ++ typs (nextL o le ws seen), m9), (a7, k7, c7), (a67, k67, c67)) ⟨by simp only; omega, ⟨hro, hd.pre.trans hpo, nextL_ok hro.1 (hd.lev.up hpo) hlw hww⟩, hm9, hJ j s o le ws hjs hj7 hro (hd.lev.up hpo) hlw hww hgo, .inl ⟨rfl, by rw [hrun, runL_go hlk hle hgo, show 6 - j = 7 - (j + 1) by omega]⟩⟩ (by simp only; omega) srA (Sub.drop.trans (Gj (mem2 memA memA (fun x hx => by repeat (first | exact hx | refine List.mem_cons_of_mem _ ?_)))))
   refine qs 11 ?_
   exact AK.ret0 (L' := Lf (stp s o le ws) x9 (wCells a7 k7 c7 a2 k2 c2 0)) (F' := fL o a7 k7 c7 :: F) Tryz.results149 (Sub.drop.trans (Sub.drop.trans (Gj (mem1 memA (fun x hx => by repeat (first | exact hx | refine List.mem_cons_of_mem _ ?_)))))) (hR (stp s o le ws) x9 o 0 a7 k7 c7 (.inr ⟨rfl, by rw [hrun, runL_stop hlk hle hgo]⟩))
  refine qs 8 ?_
  obtain rfl : j = 7 := by omega
  obtain ⟨hb0, hfin⟩ : bd = 0 ∧ levelsL N stp go T0 i s0 = (s, .ok T) := by
   rcases hrel with ⟨h1, h2⟩ | ⟨_, h, _⟩
   · exact ⟨h1, h2⟩
   omega
  subst hb0
  exact AK.end0 (L' := Lf s xx (wCells a5 k5 c5 a2 k2 c2 0)) (F' := fL T a5 k5 c5 :: F) Tryz.results149 (Sub.drop.trans (Gj (mem1 memA (fun x hx => by repeat (first | exact hx | refine List.mem_cons_of_mem _ ?_))))) (hR s xx T 0 a5 k5 c5 (.inr ⟨rfl, hfin⟩))
end
end Go.Sy
namespace Go.Sy
open Go Go.Proofs Go.RowKit
theorem wh_cells {hx : H} {b o : Nat} {w : Wht} (hat : AtR hx b o (eWh w)) : ∃ a1 k1 c1, (∀ (j : Nat) (v : Value), [Value.int .i64 w.under, .slice a1 k1 c1][j]? = some v → hx b (o + j) = some v) ∧ (fMs w.ms a1 k1 c1).holds hx := by
  obtain ⟨vs, fs, _, h1, h2, a1, k1, c1, rfl, rfl⟩ := absorb_of (eWh w) o hat (fun vs fs => ∃ a1 k1 c1, vs = [Value.int .i64 w.under, .slice a1 k1 c1] ∧ fs = [fMs w.ms a1 k1 c1]) (by
    intro a1 k1 c1
    exact ⟨a1, k1, c1, rfl, rfl⟩)
  exact ⟨a1, k1, c1, h1, h2 _ (by simp)⟩
theorem sl_cells {hx : H} {b o : Nat} {s : SelV} (hat : AtR hx b o (eSl s)) : ∃ a1 k1 c1, (∀ (j : Nat) (v : Value), [Value.bool s.method, .int .i64 s.typ, .bool s.ptr, .bool s.via, .slice a1 k1 c1][j]? = some v → hx b (o + j) = some v) ∧ (fI s.path a1 k1 c1).holds hx := by
  obtain ⟨vs, fs, _, h1, h2, a1, k1, c1, rfl, rfl⟩ := absorb_of (eSl s) o hat (fun vs fs => ∃ a1 k1 c1, vs = [Value.bool s.method, .int .i64 s.typ, .bool s.ptr, .bool s.via, .slice a1 k1 c1] ∧ fs = [fI s.path a1 k1 c1]) (by
    intro a1 k1 c1
    exact ⟨a1, k1, c1, rfl, rfl⟩)
  exact ⟨a1, k1, c1, h1, h2 _ (by simp)⟩
theorem found_step {T : List Ty} {lev : List Ent} {ws : List Wht} {s : List UInt8} {q : Nat} (hq : q < lev.length) (hw : q < ws.length) : foundN T lev ws s (q + 1) = foundN T lev ws s q ++ hadE T ws[q] lev[q] s := by
  simp only [foundN]; rw [GH default hw, GH default hq]
theorem tell_two {T : List Ty} {l : List SelV} (h : 1 < l.length) : tellF (l, .ok T) = .error 9 := by
  match l, h with
  | _ :: _ :: _, _ => rfl
attribute [local irreducible] AC AT AO AK AH ACalls Sub Res.cells Res.obj Res.nix Res.own Res.map Exit.then Exit.inBlock bodyPost bodyPostM roundPost Begin AYields Code.wp Code.wpIn WL Next Post Kont
section
variable {W0 : World} {L : List Res} {F : List Fact} {R : Value → List Res → List Fact → Prop}
set_option maxRecDepth 100000
set_option maxHeartbeats 16000000
theorem sfind_c (g : Glob W0) (T : List Ty) (N : List Nmd) (hno : ∀ n ∈ N, NmOk n) (hu : rightU T N) (i : Int) (h0 : 0 ≤ i) (hi : i < T.length) (s : List UInt8) {a a2 : Option Addr} {k c k2 c2 : Nat} (mL : fL T a k c ∈ F) (mN : fN N a2 k2 c2 ∈ F) (mE : Fact.slc (.slice none 0 0) 5 [] ∈ F) (mM : Fact.slc (.slice none 0 0) 3 [] ∈ F)
    (hE : ∀ e, e ≠ 0 → findR N T i s = .error e → R (.tuple #[.agg #[.slice none 0 0, .slice none 0 0], vSl ⟨false, 0, false, false, []⟩ none 0 0, .int .i64 e]) L F)
    (hO : ∀ o x a k c a5 k5 c5, findR N T i s = .ok (o, x) → R (.tuple #[.agg #[.slice a k c, .slice a2 k2 c2], vSl x a5 k5 c5, .int .i64 0]) L (fL o a k c :: fI x.path a5 k5 c5 :: F)) :
    ACalls Tryz.prog W0 61 #[.agg #[.slice a k c, .slice a2 k2 c2], .int .i64 i, S s] L F R := by
  have hml : 1000000 ≤ maxLen := by decide
  refine ACalls.bodyM Tryz.func61 HV Tryz.ntmps61 HV ?_
  refine qs 2 ?_
  refine Ga (GO HV HV (fun b3 => (Ga (GO HV HV (fun b5 => (Ga (Gl HV (fun b6 => ?_))))))))
  refine Ga (Gl HV (fun b7 => ?_))
  refine qs 6 ?_
  refine Ga (GI HV HV HV (Ga (GO HV HV (fun b17 => (Ga (Gl HV (fun b9 => ?_)))))))
  refine qs 5 ?_
  refine Ga (Gl HV (fun b10 => ?_))
  refine qs 7 ?_
  refine GD (GY (e := 47) (sz := 5)) ?_
  refine Ga (Gf HV HV (levels_c i (fun c2 c3 => ?_)))
  refine qs 3 ?_
  refine AC.rangeFunc HV (fun fn tm l D hsl => ?_)
  generalize hrec : recL fn tm [21, 22] _ _ D = rec
  refine Hy (Gc _ _) (levels1_c (σ := List SelV) (χ := Option Addr × Nat × Nat) g N hno T hu i h0 hi (stpF s) List.isEmpty (fun _ s => s = []) (fun s1 x w => Res.obj l (rec (bif s1.isEmpty then .ready else .done) (bif s1.isEmpty then none else some (.exit 0))) :: Res.obj D dfr :: Res.cells c3 #[.int .i64 i] 3 :: Res.cells c2 #[.pointer (some ⟨b17, 0, none⟩)] 145 :: Res.own (.slice x.1 x.2.1 x.2.2) 47 5 (s1.map eSl) :: Res.cells b10 #[.slice x.1 x.2.1 x.2.2] 105 :: Res.cells b9 #[.pointer (some ⟨b17, 0, none⟩)] 145 :: Res.cells b17 w.toArray 147 :: _) [] (none, 0, 0) (i2 := 3) (i3 := 2) (iw := 7) (fun _ _ _ => rfl) (fun _ _ _ => rfl) (fun _ _ _ => rfl) (fun _ _ _ _ => rfl) HV (fun n s1 T1 lev ws hs hn hr hl hw hws hgo => List.isEmpty_iff.1 hgo) memA memA memA memA (fun n s1 x T1 a1 k1 c1 lev ws a3 k3 c3 a4 k4 c4 A F1 hs hn hr hl hw hws m1 m2 m3 => ?_) (fun s1 x T1 e a1 k1 c1 he => ?_))
  ·subst hs
   subst hrec
   obtain ⟨a9, k9, c9⟩ := x
   refine AYields.swap ?_
   refine AYields.round (i := 0) (ps := [21, 22]) HV HV hsl HV ?_
   simp only [binds]
   refine qs 8 ?_
   refine AK.begin (i := 0) HV ?_
   refine qs 5 ?_
   have hlf := hl.few
   have hT4 := hr.1.2.1
   refine Ga (Gn HV HV (fun hl24 => ?_) (enc := eEn) (lst := lev) (hm := memA))
   refine qs 4 ?_
   refine Gz (fun (v : Nat × Option Addr × Nat × Nat) => v.1 ≤ lev.length) (fun v => [(5, .pointer (some ⟨b5, 0, none⟩)), (9, .pointer (some ⟨b9, 0, none⟩)), (10, .pointer (some ⟨b10, 0, none⟩)), (11, .slice a3 k3 c3), (12, .slice a4 k4 c4), (23, .slice a3 k3 c3), (24, .int .i64 lev.length), (25, .int .i64 (v.1 : Int))]) (fun v => _ :: _ :: _ :: _ :: Res.own (.slice v.2.1 v.2.2.1 v.2.2.2) 47 5 ((foundN T1 lev ws s v.1).map eSl) :: Res.cells b10 #[.slice v.2.1 v.2.2.1 v.2.2.2] 105 :: _) (fun _ => _) (fun v => lev.length - v.1) (0, a9, k9, c9) (Nat.zero_le _) srA (Gc _ _) ?_
   rintro ⟨v, a8, k8, c8⟩ hv
   simp only at hv ⊢
   refine qs 2 ?_
   refine Ga (Gu HV HV HV (fun c26 => ?_) (fun c26 => ?_))
   ·refine qs 11 ?_
    have hvl : v < lev.length := by omega
    have hvw : v < ws.length := by omega
    have hpt := (hl.1 _ (List.getElem_mem hvl)).2
    have hwv := hws _ (List.getElem_mem hvw)
    refine Ga (Gd HV HV HV HV (enc := eEn) (lst := lev) memA hvl (fun _ _ => ?_))
    refine Ga (GJ HV HV ?_)
    intro a29 k29 z29
    refine Ga (Gl HV (fun b14 => ?_))
    refine qs 4 ?_
    refine GP (fun i => Nat.beq i 10) [(b10, _, _), (b9, _, _), (b14, _, _), (b5, _, _)] bxA HV (fun hx hX => ?_)
    have hk4 := (Gs (hX (fWh ws a4 k4 c4) memA)).1
    obtain ⟨p1, o1, e1, at1⟩ := Gy (hX (fWh ws a4 k4 c4) memA) hvw
    subst e1
    obtain ⟨aw, kw, cw, hv1, hw1⟩ := wh_cells at1
    refine Hx hw1 memA ?_
    refine qt [0, 1, 2, 3, 4] ?_
    refine GE (i := 5) HV (GC (k := v) HV HV HV HY) HW HV HV ?_
    refine GN (i := 6) HV (HP HV HV hv1) HW HW HV HV HV ?_
    refine qt [7] ?_
    refine Gm (i := 8) HW HV HV (fun _ => ?_)
    refine Gf HV HV (had_c T1 hr.1 ws[v] hwv lev[v] HY s (iw := 8) HV (show fL T1 a1 k1 c1 ∈ _ from memA) (show fI lev[v].path _ _ _ ∈ _ from memA) (show fMs ws[v].ms aw kw cw ∈ _ from memA) (fun a38 k38 c38 => ?_))
    refine Gk bxA memB ?_
    have h80 := foundN_len hr.1 hw hws (s := s) v hv
    have h81 := hadE_len hr.1 hwv (e := lev[v]) (s := s)
    have hv400 : v * 80 ≤ 32000 := by omega
    refine Gm (i := 9) HW HV HV (fun _ => ?_)
    refine GT (i := 5) (enc := eSl) (lst := foundN T1 lev ws s v) (lst2 := hadE T1 ws[v] lev[v] s) HV HV HV HV memA eSl_one (fun _ => rfl) HY HY (fun a39 k39 c39 => ?_)
    rw [← found_step hvl hvw]
    refine Gk bxA memB ?_
    refine Gm (i := 10) HW HV HV (fun _ => ?_)
    refine GG HV HV HV ?_
    refine Gw HV ?_
    refine Gq HW ?_
    refine qs 6 ?_
    exact Gi (v + 1, a39, k39, c39) (by simp only; omega) (by simp only; omega) srA (Sub.drop.trans subF)
   refine qs 12 ?_
   obtain rfl : v = lev.length := by omega
   refine Ga (AO.lenO (i := 4) HV HV HV (fun hk42 => ?_))
   rw [List.length_map]
   refine Ga (Hq HV HV HV (fun c43 => ?_) (fun c43 => ?_))
   ·refine qs 5 ?_
    have hem : (stpF s [] T1 lev ws).isEmpty = false := by
     unfold stpF
     rw [List.nil_append]
     cases hf : foundN T1 lev ws s lev.length with
     | nil => rw [hf] at c43; simp at c43
     | cons y ys => rfl
    refine AK.roundX (i := 0) (F' := F1) subF rfl ⟨_, ?_, (a8, k8, c8), ?_, rfl, rfl⟩
    · simp only [hem, cond_false]; rfl
    rw [hem]
   refine qs 5 ?_
   have hem : (stpF s [] T1 lev ws).isEmpty = true := by
    have : foundN T1 lev ws s lev.length = [] := List.eq_nil_of_length_eq_zero HY
    unfold stpF; rw [this]; rfl
   refine AK.roundN (i := 0) (F' := F1) subF rfl ⟨_, ?_, (a8, k8, c8), ?_, rfl, rfl⟩
   · simp only [hem, cond_true]; rfl
   rw [hem]
  obtain ⟨a9, k9, c9⟩ := x
  simp only
  rcases s1 with _ | ⟨y, ys⟩
  ·refine Or.inl ⟨0, by subst hrec; rfl, ?_⟩
   refine qs 7 ?_
   refine Ga (GS HV HV ?_)
   refine qs 2 ?_
   refine Ga (GL HV HV HV (fun c49 => ?_) (fun c49 => ?_))
   ·refine qs 5 ?_
    refine GP (fun _ => false) [(b9, _, _), (b17, _, _)] bxA HV (fun hx hX => ?_)
    refine qt [0, 1, 2, 3, 4, 5] ?_
    refine Gm (i := 6) HW HV HV (fun _ => ?_)
    refine GF HV HV HV HV ?_
    refine Gk bxA memB ?_
    refine Gm (i := 7) HW HV HV (fun _ => ?_)
    refine GF HV HV HV HV ?_
    refine Gk bxA memB ?_
    refine qt [8] ?_
    refine Gq HW ?_
    refine qs 4 ?_
    have hf : findR N T i s = .error e := by rcases he with ⟨_, h⟩ | ⟨h, _⟩; (unfold findR; rw [h]; rfl); exact absurd h c49
    exact AK.unmark (i := 1) rfl (Gx (rs := [.cell 6 _, .cell 7 _, .tmp 8]) (L' := L) (F' := F) Tryz.results61 (.agg (j := 9) rfl rfl rfl (.agg (j := 8) rfl rfl rfl (.tmp rfl .nil))) subA (hE e c49 hf))
   refine qs 7 ?_
   have hlev : levelsL N (stpF s) List.isEmpty T i [] = ([], .ok T1) := by rcases he with ⟨h, _⟩ | ⟨_, h⟩; exact absurd c49 h; exact h
   refine Ga (AO.lenO (i := 4) HV HV HV (fun hk58 => ?_))
   rw [List.length_map]
   refine Ga (Gr HV HV HV (fun c59 => ?_) (fun c59 => absurd HV c59))
   refine qs 16 ?_
   exact AK.unmark (i := 1) rfl (Gx (rs := [.cell 6 _, .cell 7 _, .tmp 8]) (L' := L) (F' := F) Tryz.results61 (.agg (j := 9) rfl rfl rfl (.agg (j := 8) rfl rfl rfl (.tmp rfl .nil))) subA (hE 8 (by decide) (by unfold findR; rw [hlev]; rfl)))
  refine Or.inr ⟨0, .exit 0, by subst hrec; rfl, ?_⟩
  refine qs 8 ?_
  refine Ga (GS HV HV ?_)
  refine qs 2 ?_
  refine Ga (GL HV HV HV (fun c49 => ?_) (fun c49 => ?_))
  ·refine qs 5 ?_
   refine GP (fun _ => false) [(b9, _, _), (b17, _, _)] bxA HV (fun hx hX => ?_)
   refine qt [0, 1, 2, 3, 4, 5] ?_
   refine Gm (i := 6) HW HV HV (fun _ => ?_)
   refine GF HV HV HV HV ?_
   refine Gk bxA memB ?_
   refine Gm (i := 7) HW HV HV (fun _ => ?_)
   refine GF HV HV HV HV ?_
   refine Gk bxA memB ?_
   refine qt [8] ?_
   refine Gq HW ?_
   refine qs 4 ?_
   have hf : findR N T i s = .error e := by rcases he with ⟨_, h⟩ | ⟨h, _⟩; (unfold findR; rw [h]; rfl); exact absurd h c49
   exact AK.unmark (i := 1) rfl (Gx (rs := [.cell 6 _, .cell 7 _, .tmp 8]) (L' := L) (F' := F) Tryz.results61 (.agg (j := 9) rfl rfl rfl (.agg (j := 8) rfl rfl rfl (.tmp rfl .nil))) subA (hE e c49 hf))
  refine qs 7 ?_
  have hlev : levelsL N (stpF s) List.isEmpty T i [] = (y :: ys, .ok T1) := by rcases he with ⟨h, _⟩ | ⟨_, h⟩; exact absurd c49 h; exact h
  refine Ga (AO.lenO (i := 4) HV HV HV (fun hk58 => ?_))
  rw [List.length_map]
  refine Ga (Gr HV HV HV (fun c59 => absurd c59 (by simp only [List.length_cons]; omega)) (fun c59 => ?_))
  refine qs 7 ?_
  refine Ga (AO.lenO (i := 4) HV HV HV (fun hk64 => ?_))
  rw [List.length_map]
  refine Ga (Hq HV HV HV (fun c65 => ?_) (fun c65 => ?_))
  ·refine Ga (AO.assign HV HV ?_)
   refine qs 15 ?_
   exact AK.unmark (i := 1) rfl (Gx (rs := [.cell 6 _, .cell 7 _, .tmp 8]) (L' := L) (F' := F) Tryz.results61 (.agg (j := 9) rfl rfl rfl (.agg (j := 8) rfl rfl rfl (.tmp rfl .nil))) subA (hE 9 (by decide) (by unfold findR; rw [hlev]; exact tell_two HY)))
  obtain rfl : ys = [] := List.eq_nil_of_length_eq_zero (by simp only [List.length_cons] at c65; omega)
  refine GD (Gv (i := 4) HV) ?_
  refine Ga (AO.assign HV HV ?_)
  refine qs 7 ?_
  refine GP (fun _ => false) [(b9, _, _), (b17, _, _), (b10, _, _)] bxA HV (fun hx hX => ?_)
  have hk9 := (Gs (hX (fSl [y] a9 k9 c9) memA)).1
  obtain ⟨p1, o1, e1, at1⟩ := Gy (i := 0) (hX (fSl [y] a9 k9 c9) memA) (by simp)
  subst e1
  obtain ⟨a5, k5, c5, hv5, hp5⟩ := sl_cells (s := y) at1
  refine Hx hp5 memA ?_
  simp only [List.length_cons, List.length_nil] at hk9
  refine qt [0, 1, 2, 3, 4] ?_
  refine GE (i := 5) HV (GC (k := 0) HV HV HV HY) HW HV HV ?_
  refine GN (i := 6) HV (HP HV HV hv5) HW HW HV HV HV ?_
  refine Gm (i := 7) HW HV HV (fun _ => ?_)
  refine GF HV HV HV HV ?_
  refine Gk bxA memB ?_
  refine Gm (i := 8) HW HV HV (fun _ => ?_)
  refine GF HV HV HV HV ?_
  refine Gk bxA memB ?_
  refine qt [9] ?_
  refine Gq HW ?_
  refine qs 2 ?_
  exact AK.unmark (i := 1) rfl (Gx (rs := [.cell 6 _, .cell 7 _, .tmp 8]) (L' := L) (F' := fL T1 a1 k1 c1 :: fI y.path a5 k5 c5 :: F) Tryz.results61 (.agg (j := 9) rfl rfl rfl (.agg (j := 8) rfl rfl rfl (.tmp rfl .nil))) (Sub.drop.trans (Sub.drop.trans (Sub.drop.trans (Sub.drop.trans (Sub.drop.trans (Sub.drop.trans (Sub.drop.trans (Sub.drop.trans (Sub.drop.trans (Sub.drop.trans (Sub.drop.trans (Sub.drop.trans (Gj (mem2 memA memA (fun x hx => by repeat (first | exact hx | refine List.mem_cons_of_mem _ ?_)))))))))))))))) (hO T1 y a1 k1 c1 a5 k5 c5 (by unfold findR; rw [hlev]; rfl)))
end
end Go.Sy
namespace Go.Sy
open Go Go.Proofs Go.RowKit
def badS (T : List Ty) (N : List Nmd) (i : Int) (s : List UInt8) (e : Int) : Prop := (¬ rightU T N ∧ e = 1) ∨ (rightU T N ∧ ¬(0 ≤ i ∧ i < T.length) ∧ e = 8) ∨ (rightU T N ∧ (0 ≤ i ∧ i < T.length) ∧ (isName s = false ∨ s = [95]) ∧ e = 1)
attribute [local irreducible] AC AT AO AK AH ACalls Sub Res.cells Res.obj Res.nix Res.own Res.map Exit.then Exit.inBlock bodyPost Code.wp Code.wpIn WL Next Post Kont
section
variable {W0 : World} {L : List Res} {F : List Fact} {R : Value → List Res → List Fact → Prop}
set_option maxRecDepth 100000
set_option maxHeartbeats 16000000
theorem sthere_c (g : Glob W0) (T : List Ty) (N : List Nmd) (hok : ∀ t ∈ T, TyOk t) (hno : ∀ n ∈ N, NmOk n) (i : Int) {a a2 : Option Addr} {k c k2 c2 : Nat} (mL : fL T a k c ∈ F) (mN : fN N a2 k2 c2 ∈ F)
    (h1 : ∀ e, (¬ rightU T N ∧ e = 1) ∨ (rightU T N ∧ ¬(0 ≤ i ∧ i < T.length) ∧ e = 8) → R (.int .i64 e) L F) (h3 : rightU T N → 0 ≤ i ∧ i < T.length → R (.int .i64 0) L F) : ACalls Tryz.prog W0 59 #[.agg #[.slice a k c, .slice a2 k2 c2], .int .i64 i] L F R := by
  refine Gh Tryz.func59 HV Tryz.ntmps59 HV ?_
  refine qs 2 ?_
  refine Ga (GO HV HV (fun b2 => ?_))
  refine qs 8 ?_
  refine Ga (Gf HV HV (uright_c g T N hok hno mL mN (fun c7 => ?_) (fun c7 => ?_)))
  ·refine qs 8 ?_
   refine Ga (Gu HV HV HV (fun c11 => ?_) (fun c11 => ?_))
   ·refine qs 19 ?_
    first | exact Gb (L' := L) (F' := F) Tryz.results59 rfl subA (h1 1 (.inl ⟨c7, rfl⟩)) | exact Gb (L' := L) (F' := F) Tryz.results59 rfl subA (h1 8 (.inr ⟨c7, by omega, rfl⟩)) | exact Gb (L' := L) (F' := F) Tryz.results59 rfl subA (h3 c7 HY)
   refine qs 4 ?_
   refine Ge HV HV (Gn HV HV (fun hl16 => ?_) (enc := eTy) (lst := T) (hm := memA))
   refine Ge HV HV (Hc HV HV HV (fun c17 => ?_) (fun c17 => ?_))
   ·refine qs 13 ?_
    first | exact Gb (L' := L) (F' := F) Tryz.results59 rfl subA (h1 1 (.inl ⟨c7, rfl⟩)) | exact Gb (L' := L) (F' := F) Tryz.results59 rfl subA (h1 8 (.inr ⟨c7, by omega, rfl⟩)) | exact Gb (L' := L) (F' := F) Tryz.results59 rfl subA (h3 c7 HY)
   refine qs 14 ?_
   first | exact Gb (L' := L) (F' := F) Tryz.results59 rfl subA (h1 1 (.inl ⟨c7, rfl⟩)) | exact Gb (L' := L) (F' := F) Tryz.results59 rfl subA (h1 8 (.inr ⟨c7, by omega, rfl⟩)) | exact Gb (L' := L) (F' := F) Tryz.results59 rfl subA (h3 c7 HY)
  refine qs 13 ?_
  first | exact Gb (L' := L) (F' := F) Tryz.results59 rfl subA (h1 1 (.inl ⟨c7, rfl⟩)) | exact Gb (L' := L) (F' := F) Tryz.results59 rfl subA (h1 8 (.inr ⟨c7, by omega, rfl⟩)) | exact Gb (L' := L) (F' := F) Tryz.results59 rfl subA (h3 c7 HY)
theorem sFind_c (g : Glob W0) (T : List Ty) (N : List Nmd) (hok : ∀ t ∈ T, TyOk t) (hno : ∀ n ∈ N, NmOk n) (i : Int) (s : List UInt8) {a a2 : Option Addr} {k c k2 c2 : Nat} (mL : fL T a k c ∈ F) (mN : fN N a2 k2 c2 ∈ F) (mE : Fact.slc (.slice none 0 0) 5 [] ∈ F) (mM : Fact.slc (.slice none 0 0) 3 [] ∈ F)
    (hB : ∀ e, e ≠ 0 → badS T N i s e → R (.tuple #[.agg #[.slice none 0 0, .slice none 0 0], vSl ⟨false, 0, false, false, []⟩ none 0 0, .int .i64 e]) L F)
    (hE : rightU T N → 0 ≤ i → i < T.length → isName s = true → s ≠ [95] → ∀ e, e ≠ 0 → findR N T i s = .error e → R (.tuple #[.agg #[.slice none 0 0, .slice none 0 0], vSl ⟨false, 0, false, false, []⟩ none 0 0, .int .i64 e]) L F)
    (hO : rightU T N → 0 ≤ i → i < T.length → isName s = true → s ≠ [95] → ∀ o x a k c a5 k5 c5, findR N T i s = .ok (o, x) → R (.tuple #[.agg #[.slice a k c, .slice a2 k2 c2], vSl x a5 k5 c5, .int .i64 0]) L (fL o a k c :: fI x.path a5 k5 c5 :: F)) :
    ACalls Tryz.prog W0 19 #[.agg #[.slice a k c, .slice a2 k2 c2], .int .i64 i, S s] L F R := by
  refine Gh Tryz.func19 HV Tryz.ntmps19 HV ?_
  refine qs 2 ?_
  refine Ga (GO HV HV (fun b3 => (Ga (Gl HV (fun b6 => (Ga (Gl HV (fun b7 => ?_))))))))
  refine qs 8 ?_
  refine Ga (Gf HV HV (sthere_c g T N hok hno i memA memA (fun e he => ?_) (fun c12 d12 => ?_)))
  ·refine qs 6 ?_
   have he0 : e ≠ 0 := by rcases he with ⟨_, h⟩ | ⟨_, _, h⟩ <;> omega
   refine Ga (GL HV HV HV (fun _ => ?_) (fun c14 => absurd c14 he0))
   refine qs 15 ?_
   exact Gx (rs := [.cell 6 _, .cell 7 _, .tmp 8]) (L' := L) (F' := F) Tryz.results19 (.agg (j := 1) rfl rfl rfl (.agg (j := 0) rfl rfl rfl (.tmp rfl .nil))) subA (hB e he0 (by rcases he with h | h; exact .inl h; exact .inr (.inl h)))
  refine qs 6 ?_
  refine Ga (GL HV HV HV (fun c14 => absurd HV c14) (fun _ => ?_))
  refine qs 9 ?_
  refine Ga (Gf HV HV (HO s (fun c19 => ?_) (fun c19 => ?_)))
  ·refine qs 3 ?_
   refine Ge HV HV (Hp HV HV HV (fun c23 => ?_) (fun c23 => ?_))
   ·refine qs 15 ?_
    exact Gx (rs := [.cell 6 _, .cell 7 _, .tmp 8]) (L' := L) (F' := F) Tryz.results19 (.agg (j := 1) rfl rfl rfl (.agg (j := 0) rfl rfl rfl (.tmp rfl .nil))) subA (hB 1 (by decide) (.inr (.inr ⟨c12, d12, .inr c23, rfl⟩)))
   refine qs 11 ?_
   refine Ga (Gf HV HV (sfind_c g T N hno c12 i d12.1 d12.2 s memA memA memA memA (fun e he hx => ?_) (fun o x a30 k30 z30 a31 k31 z31 hx => ?_)))
   ·refine qs 9 ?_
    exact Gx (rs := [.cell 6 _, .cell 7 _, .tmp 8]) (L' := L) (F' := F) Tryz.results19 (.agg (j := 1) rfl rfl rfl (.agg (j := 0) rfl rfl rfl (.tmp rfl .nil))) subA (hE c12 d12.1 d12.2 c19 c23 e he hx)
   refine qs 9 ?_
   exact Gx (rs := [.cell 6 _, .cell 7 _, .tmp 8]) (L' := L) (F' := fL o a30 k30 z30 :: fI x.path a31 k31 z31 :: F) Tryz.results19 (.agg (j := 1) rfl rfl rfl (.agg (j := 0) rfl rfl rfl (.tmp rfl .nil))) (Sub.drop.trans (Sub.drop.trans (Sub.drop.trans (Gj (mem2 memA memA (fun x hx => by repeat (first | exact hx | refine List.mem_cons_of_mem _ ?_))))))) (hO c12 d12.1 d12.2 c19 c23 o x a30 k30 z30 a31 k31 z31 hx)
  refine qs 19 ?_
  exact Gx (rs := [.cell 6 _, .cell 7 _, .tmp 8]) (L' := L) (F' := F) Tryz.results19 (.agg (j := 1) rfl rfl rfl (.agg (j := 0) rfl rfl rfl (.tmp rfl .nil))) subA (hB 1 (by decide) (.inr (.inr ⟨c12, d12, .inl c19, rfl⟩)))
end
end Go.Sy
namespace Go.Sy
open Go Go.Proofs Go.RowKit
abbrev vT (a : Option Addr) (k c : Nat) (a2 : Option Addr) (k2 c2 : Nat) (i : Int) (a3 : Option Addr) (k3 c3 : Nat) (e : Int) : Value := .agg #[.slice a k c, .slice a2 k2 c2, .int .i64 i, .slice a3 k3 c3, .int .i64 e]
theorem many_none {t : Int} {l : List Ent} (h : t ∉ typs l) : l.map (manyE t) = l := by
  have : ∀ e ∈ l, manyE t e = e := fun e he => by
    unfold manyE
    rw [if_neg]
    intro e2
    exact h (List.mem_map.2 ⟨e, he, e2⟩)
  calc l.map (manyE t) = l.map id := List.map_congr_left this
    _ = l := by simp
theorem add_out {out : List Ent} {seen : List Int} {x : Ent} {is : Bool} (h : is = true ↔ x.typ ∈ typs out) (h2 : is = true ∨ x.typ ∈ seen) : addE out seen x = out.map (manyE x.typ) := by
  by_cases c : x.typ ∈ typs out
  · exact add_many c
  rw [many_none c]
  rcases h2 with h2 | h2
  · exact absurd (h.1 h2) c
  exact add_seen c h2
theorem add_out2 {out : List Ent} {seen : List Int} {x : Ent} (h : x.typ ∉ typs out) (h2 : x.typ ∉ seen) : addE out seen x = out.map (manyE x.typ) ++ [x] := by
  rw [many_none h]; exact add_new h h2
theorem typs_take {l : List Ent} {q : Nat} (hq : q < l.length) : typs (l.take (q + 1)) = typs (l.take q) ++ [l[q].typ] := by
  unfold typs; rw [List.take_succ_eq_append_getElem hq, List.map_append]; rfl
theorem map_take_snoc {α β : Type} {l : List α} {q : Nat} (hq : q < l.length) (f : α → β) : (l.take q).map f ++ [f l[q]] = (l.take (q + 1)).map f := by
  rw [List.take_succ_eq_append_getElem hq, List.map_append]; rfl
attribute [local irreducible] AC AT AO AK AH ACalls Sub Res.cells Res.obj Res.nix Res.own Res.map Exit.then Exit.inBlock bodyPost Code.wp Code.wpIn WL Next Post Kont
section
variable {W0 : World} {L : List Res} {F : List Fact} {R : Value → List Res → List Fact → Prop}
set_option maxRecDepth 100000
set_option maxHeartbeats 16000000
theorem sin_c (l : List Int) (x : Int) {a : Option Addr} {k c : Nat} (m1 : fI l a k c ∈ F) (hT : x ∈ l → R (.bool true) L F) (hF : x ∉ l → R (.bool false) L F) : ACalls Tryz.prog W0 183 #[.slice a k c, .int .i64 x] L F R := by
  refine Gh Tryz.func183 HV Tryz.ntmps183 HV ?_
  refine qs 9 ?_
  refine Ga (Gn HV HV (fun hl8 => ?_) (enc := eI) (lst := l) (hm := memA))
  refine qs 4 ?_
  refine Gz (fun q => q ≤ l.length ∧ ∀ j (hj : j < l.length), j < q → l[j] ≠ x) (fun q => [(1, .int .i64 x), (7, .slice a k c), (8, .int .i64 l.length), (9, .int .i64 (q : Int))]) (fun _ => L) (fun _ => F) (fun q => l.length - q) 0 ⟨Nat.zero_le _, by omega⟩ srA (Gc _ _) ?_
  rintro q ⟨hq, hok⟩
  refine qs 2 ?_
  refine Ga (Gu HV HV HV (fun c10 => ?_) (fun c10 => ?_))
  ·refine qs 10 ?_
   have hql : q < l.length := by omega
   refine Ga (Gd HV HV HV HV (enc := eI) (lst := l) memA hql (fun _ _ => ?_))
   refine Ga (Gt HV HV ?_)
   intros
   refine qs 7 ?_
   refine Ga (Gr HV HV HV (fun c15 => ?_) (fun c15 => ?_))
   ·refine qs 14 ?_
    exact Gb (L' := L) (F' := F) Tryz.results183 rfl subF (hT (c15 ▸ List.getElem_mem hql))
   refine qs 10 ?_
   refine Gi (q + 1) ⟨by omega, fun j hj hjq => ?_⟩ HY srA subF
   rcases Nat.lt_succ_iff_lt_or_eq.1 hjq with k9 | rfl
   · exact hok j hj k9
   exact c15
  refine qs 15 ?_
  refine Gb (L' := L) (F' := F) Tryz.results183 HV subF (hF (fun hm => ?_))
  obtain ⟨j, hj, e⟩ := List.getElem_of_mem hm
  exact hok j hj HY e
theorem rwithp_c (l : List Int) (x : Int) (hl : l.length ≤ 1000) {a : Option Addr} {k c : Nat} (m1 : fI l a k c ∈ F) (h : ∀ a k c, R (.slice a k c) L (fI (l ++ [x]) a k c :: F)) : ACalls Tryz.prog W0 123 #[.slice a k c, .int .i64 x] L F R := by
  have hml : 1000000 ≤ maxLen := by decide
  refine Gh Tryz.func123 HV Tryz.ntmps123 HV ?_
  refine qs 7 ?_
  refine Ga (GZ HV (fun b6 => ?_))
  refine GD (Hv (i := 0) (k := 0) (sz := 1) (enc := eI) [] HV .nil (fun _ => rfl) HV (by decide)) ?_
  refine qs 7 ?_
  refine Ga (GT (i := 0) (enc := eI) (lst := []) (lst2 := l) HV HV HV HV memA (fun x d hd v hv => Hk hd hv) (fun _ => rfl) (by simp only [List.length_nil]; omega) (by simp only [List.length_nil]; omega) (fun a9 k9 c9 => ?_))
  rw [List.nil_append]
  refine qs 7 ?_
  refine Ga (Gg HV HV HV HV HV (fun b12 => ?_))
  refine Ga (GB (i := 0) (enc := eI) (lst := l) [x] HV HV HV HV (.val .nil) HV HV (fun _ => rfl) HY HY (fun a13 k13 c13 => ?_))
  refine qs 10 ?_
  exact Gb (L' := L) (F' := fI (l ++ [x]) a13 k13 c13 :: F) Tryz.results123 rfl ((Gv (i := 0) rfl).trans GA) (h _ _ _)
theorem sfieldR_c (s : List UInt8) (hs : s.length ≤ 1048576) (h : R (S (fieldN s)) L F) : ACalls Tryz.prog W0 122 #[S s] L F R := by
  refine Gh Tryz.func122 HV Tryz.ntmps122 HV ?_
  refine qs 10 ?_
  refine Ga (Hq HV HV HV (fun c5 => ?_) (fun c5 => ?_))
  ·refine qs 2 ?_
   have h0 : 0 < s.length := by omega
   refine Ge HV HV (HB HV HV HV HV h0 (Ge HV HV (Gr HV HV HV (fun c9 => ?_) (fun c9 => ?_))))
   ·refine qs 7 ?_
    refine Ga (AO.sliceSL (i' := 1) HV HV HV HY HY ?_)
    refine qs 5 ?_
    have e : fieldN s = s.drop 1 := by
     cases s with
     | nil => simp at h0
     | cons y ys =>
       have : y = 43 := by
         have h9 : ((y.toNat : Nat) : Int) = 43 := by simpa using c9
         exact UInt8.toNat_inj.1 (by simpa using Int.ofNat_inj.1 h9)
       subst this; rfl
    rw [e] at h
    exact Gb Tryz.results122 rfl (Gc _ _) h
   refine qs 13 ?_
   have e : fieldN s = s := by
    cases s with
    | nil => rfl
    | cons y ys =>
      unfold fieldN
      split
      · rename_i r hr
        injection hr with h1 h2
        subst h1
        first | exact absurd rfl c9 | (exfalso; exact c9 rfl) | (exfalso; simp at c5; omega)
      rfl
   rw [e] at h
   exact Gb Tryz.results122 rfl (Gc _ _) h
  refine qs 17 ?_
  have e : fieldN s = s := by
   cases s with
   | nil => rfl
   | cons y ys =>
     unfold fieldN
     split
     · rename_i r hr
       injection hr with h1 h2
       subst h1
       first | exact absurd rfl c9 | (exfalso; exact c9 rfl) | (exfalso; simp at c5; omega)
     rfl
  rw [e] at h
  exact Gb Tryz.results122 rfl (Gc _ _) h
theorem saddR_c (out : List Ent) (ho : out.length ≤ 1000) (seen : List Int) (x : Ent) {a a2 a3 : Option Addr} {k c k2 c2 k3 c3 : Nat} (m1 : fEn out a k c ∈ F) (m2 : fI seen a2 k2 c2 ∈ F) (m3 : fI x.path a3 k3 c3 ∈ F)
    (h : ∀ a k c, R (.slice a k c) L (fEn (addE out seen x) a k c :: F)) : ACalls Tryz.prog W0 124 #[.slice a k c, .slice a2 k2 c2, vEn x a3 k3 c3] L F R := by
  have hml : 1000000 ≤ maxLen := by decide
  refine Gh Tryz.func124 HV Tryz.ntmps124 HV ?_
  refine qs 2 ?_
  refine Ga (GO HV HV (fun b5 => ?_))
  refine qs 5 ?_
  refine Ga (GZ HV (fun b11 => ?_))
  refine GD (Hv (i := 0) (k := 0) (sz := 4) (enc := eEn) [] HV .nil (fun _ => rfl) HV (by decide)) ?_
  refine qs 12 ?_
  refine Ga (Gn HV HV (fun hl13 => ?_) (enc := eEn) (lst := out) (hm := memA))
  refine qs 4 ?_
  refine Gz (fun (v : Nat × Bool × (Option Addr × Nat × Nat)) => v.1 ≤ out.length ∧ (v.2.1 = true ↔ x.typ ∈ typs (out.take v.1))) (fun v => [(1, .slice a2 k2 c2), (5, .pointer (some ⟨b5, 0, none⟩)), (7, .slice v.2.2.1 v.2.2.2.1 v.2.2.2.2), (8, .bool v.2.1), (12, .slice a k c), (13, .int .i64 out.length), (14, .int .i64 (v.1 : Int))]) (fun v => Res.own (.slice v.2.2.1 v.2.2.2.1 v.2.2.2.2) 186 4 (((out.take v.1).map (manyE x.typ)).map eEn) :: _) (fun _ => _) (fun v => out.length - v.1) (0, false, (some ⟨b11, 0, none⟩, 0, 0)) ⟨Nat.zero_le _, by simp [typs]⟩ srA (Gc _ _) ?_
  rintro ⟨q, is, ⟨a7, k7, c7⟩⟩ ⟨hq, his⟩
  simp only at hq his ⊢
  refine qs 2 ?_
  refine Ga (Gu HV HV HV (fun c15 => ?_) (fun c15 => ?_))
  ·refine qs 10 ?_
   have hql : q < out.length := by omega
   have htl : ((out.take q).map (manyE x.typ)).length = q := by rw [List.length_map, List.length_take]; omega
   refine Ga (Gd HV HV HV HV (enc := eEn) (lst := out) memA hql (fun _ _ => ?_))
   refine Ga (GJ HV HV ?_)
   intro a17 k17 z17
   refine Ga (Gl HV (fun b10 => ?_))
   refine qs 10 ?_
   refine Ga (Gr HV HV HV (fun c22 => ?_) (fun c22 => ?_))
   ·refine qs 16 ?_
    refine Ga (Gg HV HV HV HV HV (fun b26 => ?_))
    have hm : manyE x.typ out[q] = ⟨out[q].typ, out[q].via, true, out[q].path⟩ := by unfold manyE; rw [if_pos c22]
    refine Ga (GB (i := 1) (enc := eEn) (lst := (out.take q).map (manyE x.typ)) [⟨out[q].typ, out[q].via, true, out[q].path⟩] HV HV HV HV (.val (.val (.val (.slc .nil memA)))) HV HV (fun _ => rfl) HY HY (fun a27 k27 c27 => ?_))
    rw [← hm, map_take_snoc hql]
    refine qs 8 ?_
    exact Gi (q + 1, true, (a27, k27, c27)) ⟨by simp only; omega, by simp only; rw [typs_take hql, c22]; simp⟩ (by simp only; omega) srA (Sub.drop.trans subF)
   refine qs 8 ?_
   refine Ga (Gg HV HV HV HV HV (fun b26 => ?_))
   have hm : manyE x.typ out[q] = out[q] := by unfold manyE; rw [if_neg c22]
   refine Ga (GB (i := 1) (enc := eEn) (lst := (out.take q).map (manyE x.typ)) [out[q]] HV HV HV HV (.val (.val (.val (.slc .nil memA)))) HV HV (fun _ => rfl) HY HY (fun a27 k27 c27 => ?_))
   rw [show [out[q]] = [manyE x.typ out[q]] by rw [hm], map_take_snoc hql]
   refine qs 8 ?_
   exact Gi (q + 1, is, (a27, k27, c27)) ⟨by simp only; omega, by simp only; rw [typs_take hql, his, List.mem_append]; constructor; exact .inl; rintro (h9 | h9); exact h9; simp at h9; exact absurd h9.symm c22⟩ (by simp only; omega) srA (Sub.drop.trans subF)
  refine qs 12 ?_
  obtain rfl : q = out.length := by omega
  rw [List.take_length] at his ⊢
  refine Ga (HK HV HV ?_)
  rcases Bool.eq_false_or_eq_true is with hi9 | hi9
  all_goals subst hi9
  ·refine qs 20 ?_
   rw [add_out his (.inl rfl)] at h
   exact Gb (L' := L) (F' := fEn (out.map (manyE x.typ)) a7 k7 c7 :: F) Tryz.results124 rfl ((Gv (i := 0) rfl).trans (Sub.drop.trans (Sub.drop.trans (GW (fun x hx => by repeat (first | exact hx | refine List.mem_cons_of_mem _ ?_)))))) (h _ _ _)
  refine qs 5 ?_
  refine Ge HV HV (Gf HV HV (sin_c seen x.typ memA (fun c35 => ?_) (fun c35 => ?_)))
  ·refine qs 14 ?_
   rw [add_out his (.inr c35)] at h
   exact Gb (L' := L) (F' := fEn (out.map (manyE x.typ)) a7 k7 c7 :: F) Tryz.results124 rfl ((Gv (i := 0) rfl).trans (Sub.drop.trans (Sub.drop.trans (GW (fun x hx => by repeat (first | exact hx | refine List.mem_cons_of_mem _ ?_)))))) (h _ _ _)
  refine qs 8 ?_
  refine Ga (Gg HV HV HV HV HV (fun b40 => ?_))
  refine Ga (GB (i := 0) (enc := eEn) (lst := out.map (manyE x.typ)) [x] HV HV HV HV (.val (.val (.val (.slc .nil memA)))) HV HV (fun _ => rfl) (by rw [List.length_map]; omega) (by rw [List.length_map]; omega) (fun a41 k41 c41 => ?_))
  refine qs 10 ?_
  rw [add_out2 (fun e => absurd (his.2 e) (by decide)) c35] at h
  exact Gb (L' := L) (F' := fEn (out.map (manyE x.typ) ++ [x]) a41 k41 c41 :: F) Tryz.results124 rfl ((Gv (i := 0) rfl).trans (Sub.drop.trans (Sub.drop.trans (GW (fun x hx => by repeat (first | exact hx | refine List.mem_cons_of_mem _ ?_)))))) (h _ _ _)
end
end Go.Sy
namespace Go.Sy
open Go Go.Proofs Go.RowKit
theorem und_8 {T : List Ty} {N : List Nmd} {n : Nat} (hn : n < T.length) (h8 : T[n].kind = 8) {j : Nat} (hj : j < N.length) (hat : atN N T[n].name = some j) {u : Nat} (hu : N[j].under = (u : Int)) : undR T N (n : Int) = subR T u T[n].kids := by
  unfold undR
  rw [HE hn, if_pos h8, hat]
  simp only
  rw [GH default hj, hu, Int.toNat_natCast]
theorem und_not {T : List Ty} {N : List Nmd} {n : Nat} (hn : n < T.length) (h8 : T[n].kind ≠ 8) : undR T N (n : Int) = .ok (T, (n : Int)) := by
  unfold undR
  rw [HE hn, if_neg h8]
attribute [local irreducible] AC AT AO AK AH ACalls Sub Res.cells Res.obj Res.nix Res.own Res.map Exit.then Exit.inBlock bodyPost Code.wp Code.wpIn WL Next Post Kont
section
variable {W0 : World} {L : List Res} {F : List Fact} {R : Value → List Res → List Fact → Prop}
set_option maxRecDepth 100000
set_option maxHeartbeats 16000000
theorem rwithT_c (l : List Ty) (hr : rightP l) (n : Nat) (hn : n < l.length) (args : List Int) (hargs : args.length ≤ 1000) {a a2 a3 : Option Addr} {k c k2 c2 k3 c3 : Nat} (mL : fL l a k c ∈ F) (mA : fI args a3 k3 c3 ∈ F) (mN : Fact.slc (.slice none 0 0) 5 [] ∈ F)
    (h3 : ∀ e, e ≠ 0 → subR l n args = .error e → R (vT none 0 0 none 0 0 0 none 0 0 e) L F)
    (h4 : ∀ o q a k c, subR l n args = .ok (o, q) → R (vT a k c a2 k2 c2 q none 0 0 0) L (fL o a k c :: F)) :
    ACalls Tryz.prog W0 137 #[.agg #[.slice a k c, .slice a2 k2 c2], .int .i64 (n : Int), .slice a3 k3 c3] L F R := by
  refine Gh Tryz.func137 HV Tryz.ntmps137 HV ?_
  refine qs 2 ?_
  refine Ga (GO HV HV (fun b3 => (Ga (Gl HV (fun b6 => ?_)))))
  refine qs 8 ?_
  refine Ga (Gf HV HV (rsubst_c l hr n hn args hargs memA memA memA (fun e he => ?_) (fun o q a12 k12 c12 hq => ?_)))
  ·refine Ga (Gl HV (fun b7 => ?_))
   refine qs 8 ?_
   refine Ga (GL HV HV HV (fun _ => ?_) (fun c15 => absurd c15 (subR_err he)))
   refine qs 13 ?_
   exact Gx (rs := [.cell 6 _]) (L' := L) (F' := F) Tryz.results137 (.agg (j := 1) rfl rfl rfl .nil) subA (h3 e (subR_err he) he)
  refine Ga (Gl HV (fun b7 => ?_))
  refine qs 8 ?_
  refine Ga (GL HV HV HV (fun c15 => absurd HV c15) (fun _ => ?_))
  refine qs 19 ?_
  exact Gx (rs := [.cell 6 _]) (L' := L) (F' := fL o a12 k12 c12 :: F) Tryz.results137 (.agg (j := 1) rfl rfl rfl .nil) (Sub.drop.trans (Sub.drop.trans (Sub.drop.trans (GW (fun x hx => by repeat (first | exact hx | refine List.mem_cons_of_mem _ ?_)))))) (h4 o q a12 k12 c12 hq)
theorem rwithI_c (l : List Ty) (hr : rightP l) (x : Int) (n : Nat) (hx : x = (n : Int)) (hn : n < l.length) (args : List Int) (hargs : args.length ≤ 1000) {a a2 a3 : Option Addr} {k c k2 c2 k3 c3 : Nat} (mL : fL l a k c ∈ F) (mA : fI args a3 k3 c3 ∈ F) (mN : Fact.slc (.slice none 0 0) 5 [] ∈ F)
    (h3 : ∀ e, e ≠ 0 → subR l n args = .error e → R (vT none 0 0 none 0 0 0 none 0 0 e) L F)
    (h4 : ∀ o q a k c, subR l n args = .ok (o, q) → R (vT a k c a2 k2 c2 q none 0 0 0) L (fL o a k c :: F)) :
    ACalls Tryz.prog W0 137 #[.agg #[.slice a k c, .slice a2 k2 c2], .int .i64 x, .slice a3 k3 c3] L F R := by
  subst hx; exact rwithT_c l hr n hn args hargs mL mA mN h3 h4
theorem rundT_c (T : List Ty) (N : List Nmd) (hu : rightU T N) (i : Int) (h0 : 0 ≤ i) (hi : i < T.length) {a a2 : Option Addr} {k c k2 c2 : Nat} (mL : fL T a k c ∈ F) (mN : fN N a2 k2 c2 ∈ F) (mE : Fact.slc (.slice none 0 0) 5 [] ∈ F)
    (hE : ∀ e, e ≠ 0 → undR T N i = .error e → R (vT none 0 0 none 0 0 0 none 0 0 e) L F)
    (hO : ∀ o q a k c, undR T N i = .ok (o, q) → R (vT a k c a2 k2 c2 q none 0 0 0) L (fL o a k c :: F)) :
    ACalls Tryz.prog W0 83 #[.agg #[.slice a k c, .slice a2 k2 c2], .int .i64 i] L F R := by
  have hok := Hu hu.1
  obtain ⟨n, rfl⟩ : ∃ n : Nat, i = (n : Int) := ⟨i.toNat, by omega⟩
  have hn : n < T.length := by omega
  refine Gh Tryz.func83 HV Tryz.ntmps83 HV ?_
  refine qs 2 ?_
  refine Ga (GO HV HV (fun b2 => (Ga (Gl HV (fun b4 => ?_)))))
  refine qs 7 ?_
  have hkl := (hok _ (List.getElem_mem hn)).kids
  refine Ga (Gd (k := n) HV HV HV HV (enc := eTy) (lst := T) memA hn (fun _ _ => ?_))
  refine Ga (GJ HV HV ?_)
  intro a10 k10 z10 d10 e10 f10
  refine Ga (Gl HV (fun b5 => ?_))
  refine qs 8 ?_
  refine Ga (GL HV HV HV (fun c13 => ?_) (fun c13 => ?_))
  ·refine qs 13 ?_
   exact Gx (rs := [.cell 4 _]) (L' := L) (F' := fL T a k c :: F) Tryz.results83 (.agg (j := 1) rfl rfl rfl .nil) (Sub.drop.trans (Sub.drop.trans (Sub.drop.trans (Gj (mem1 memA (fun x hx => by repeat (first | exact hx | refine List.mem_cons_of_mem _ ?_))))))) (hO T n a k c (und_not hn c13))
  refine qs 6 ?_
  refine GP (fun _ => false) [(b2, _, _), (b5, _, _)] bxA HV (fun hx hX => ?_)
  obtain ⟨j, hat, _⟩ := hu.2.2.2 _ (List.getElem_mem hn) c13
  obtain ⟨hjl, _⟩ := atN_some hat
  obtain ⟨u, hju, hul⟩ := at_und hu hjl
  have hund := und_8 hn c13 hjl hat hju
  have hk2 := (Gs (hX (fN N a2 k2 c2) memA)).1
  obtain ⟨p1, o1, e1, at1⟩ := Gy (hX (fN N a2 k2 c2) memA) hjl
  cases e1
  obtain ⟨w1, x1, y1, w2, x2, y2, hv, hw1, hw2⟩ := nm_cells at1
  have hv2 := hv 2 _ rfl
  rw [hju] at hv2
  refine qt [0, 1, 2, 3, 4, 5, 10, 11] ?_
  refine Gm (i := 6) HW HV HV (fun _ => ?_)
  refine Gf HV HV (ruat_c N T[n].name (show fN N _ _ _ ∈ _ from memA) (fun q hq => ?_) (fun hq => absurd hq (by rw [hat]; simp)))
  obtain rfl : q = j := by rw [hat] at hq; injection hq with hq; exact hq.symm
  refine Gk bxA memB ?_
  refine GE (i := 7) HV (GC (k := q) HV HV HV HY) HW HV HV ?_
  refine qt [8] ?_
  refine GN (i := 9) HV (Hn HV hv2) HW HW HV HV HV ?_
  refine Gm (i := 12) HW HV HV (fun _ => ?_)
  refine Gf HV HV (rwithT_c T hu.1 u hul T[n].kids HY (show fL T _ _ _ ∈ _ from memA) (show fK T[n] _ _ _ ∈ _ from memA) memA (fun e h0 he => ?_) (fun o q a44 k44 c44 hq => ?_))
  all_goals refine Gk bxA memB ?_
  ·refine Gm (i := 13) HW HV HV (fun _ => ?_)
   refine GF HV HV HV HV ?_
   refine Gk bxA memB ?_
   refine Gq HW ?_
   refine qs 2 ?_
   exact Gx (rs := [.cell 4 _]) (L' := L) (F' := F) Tryz.results83 (.agg (j := 1) rfl rfl rfl .nil) subA (hE e h0 (by rw [hund]; exact he))
  refine Gm (i := 13) HW HV HV (fun _ => ?_)
  refine GF HV HV HV HV ?_
  refine Gk bxA memB ?_
  refine Gq HW ?_
  refine qs 2 ?_
  exact Gx (rs := [.cell 4 _]) (L' := L) (F' := fL o a44 k44 c44 :: F) Tryz.results83 (.agg (j := 1) rfl rfl rfl .nil) (Sub.drop.trans (Sub.drop.trans (Sub.drop.trans (GW (fun x hx => by repeat (first | exact hx | refine List.mem_cons_of_mem _ ?_)))))) (hO o q a44 k44 c44 (by rw [hund]; exact hq))
theorem rownT_c (T : List Ty) (N : List Nmd) (hu : rightU T N) (i : Int) (h0 : 0 ≤ i) (hi : i < T.length) {a a2 : Option Addr} {k c k2 c2 : Nat} (mL : fL T a k c ∈ F) (mN : fN N a2 k2 c2 ∈ F) (mE : Fact.slc (.slice none 0 0) 5 [] ∈ F)
    (hE : ∀ e, e ≠ 0 → ownR T N i = .error e → R (vT none 0 0 none 0 0 0 none 0 0 e) L F)
    (hO : ∀ o ms a k c a' k' c', ownR T N i = .ok (o, ms) → R (vT a k c a2 k2 c2 0 a' k' c' 0) L (fL o a k c :: fMs ms a' k' c' :: F)) :
    ACalls Tryz.prog W0 182 #[.agg #[.slice a k c, .slice a2 k2 c2], .int .i64 i] L F R := by
  have hml : 1000000 ≤ maxLen := by decide
  have hok := Hu hu.1
  obtain ⟨n, rfl⟩ : ∃ n : Nat, i = (n : Int) := ⟨i.toNat, by omega⟩
  have hn : n < T.length := by omega
  have hto := hok _ (List.getElem_mem hn)
  refine Hy (Hm (sz := 3)) ?_
  refine Gh Tryz.func182 HV Tryz.ntmps182 HV ?_
  refine qs 2 ?_
  refine Ga (GO HV HV (fun b2 => (Ga (Gl HV (fun b4 => ?_)))))
  refine qs 7 ?_
  have hkl := hto.kids
  refine Ga (Gd (k := n) HV HV HV HV (enc := eTy) (lst := T) memA hn (fun _ _ => ?_))
  refine Ga (GJ HV HV ?_)
  intro a16 k16 z16 d16 e16 f16
  refine Ga (Gl HV (fun b5 => ?_))
  refine qs 7 ?_
  refine Ga (Gl HV (fun b6 => ?_))
  refine qs 8 ?_
  refine GD (GY (e := 44) (sz := 3)) ?_
  refine Ga (Gr HV HV HV (fun c21 => ?_) (fun c21 => ?_))
  ·refine qs 7 ?_
   have hif := (GV hu.1 hn).iface c21
   have hzl := zips_len hif
   have hnm : ∀ w ∈ T[n].words, w.length ≤ 1048576 := hto.word
   refine Ga (Gn HV HV (fun hl24 => ?_) (enc := eS) (lst := T[n].words) (hm := memA))
   refine qs 4 ?_
   refine Gz (fun (x : Nat × Option Addr × Nat × Nat) => x.1 ≤ T[n].words.length) (fun x => [(1, .int .i64 (n : Int)), (2, .pointer (some ⟨b2, 0, none⟩)), (4, .pointer (some ⟨b4, 0, none⟩)), (5, .pointer (some ⟨b5, 0, none⟩)), (6, .pointer (some ⟨b6, 0, none⟩)), (23, .slice a16 k16 z16), (24, .int .i64 T[n].words.length), (25, .int .i64 (x.1 : Int))]) (fun x => Res.own (.slice x.2.1 x.2.2.1 x.2.2.2) 44 3 ((ownZ ((zips T[n]).take x.1)).map eMt) :: Res.cells b6 #[.slice a k c, .slice a2 k2 c2, .int .i64 0, .slice x.2.1 x.2.2.1 x.2.2.2, .int .i64 0] 123 :: _) (fun _ => _) (fun x => T[n].words.length - x.1) (0, none, 0, 0) (by simp) srA (Gc _ _) ?_
   rintro ⟨q, a7, k7, c7⟩ hq
   simp only at hq ⊢
   refine qs 2 ?_
   refine Ga (Gu HV HV HV (fun c26 => ?_) (fun c26 => ?_))
   ·refine qs 11 ?_
    have hql : q < T[n].words.length := by omega
    have hqk : q < T[n].kids.length := by omega
    have hqz : q < (zips T[n]).length := by omega
    have hzg := zips_get hql hqk hqz
    have hol := ownZ_len ((zips T[n]).take q)
    have htl : ((zips T[n]).take q).length = q := by rw [List.length_take]; omega
    refine Ga (Gd HV HV HV HV (show fW T[n] _ _ _ ∈ _ from memA) hql (fun _ _ => ?_))
    refine Ga (Gt HV HV ?_)
    intros
    refine qs 7 ?_
    refine Ga (Gf HV HV (rname_c T[n].words[q] (by have := hnm _ (List.getElem_mem hql); omega) (fun c31 => ?_) (fun c31 => ?_)))
    ·refine qs 3 ?_
     refine GP (fun i => Nat.beq i 12) [(b6, _, _), (b5, _, _)] bxA HV (fun hx hX => ?_)
     have hkk := (Gs (hX (fK T[n] d16 e16 f16) memA)).1
     obtain ⟨p2, o2, e2, atq⟩ := Gy (hX (fK T[n] d16 e16 f16) memA) hqk
     subst e2
     obtain ⟨vq, hvq, hcq⟩ := atq 0 _ rfl
     cases hcq
     refine qt [0, 1, 2, 3, 4, 5] ?_
     refine GE (i := 6) HV (GC (k := q) HV HV HV HY) HW HV HV ?_
     refine GN (i := 7) HV (Hn HV hvq) HW HW HV HV HV ?_
     refine qt [8] ?_
     refine Gm (i := 9) HW HV HV (fun _ => ?_)
     refine Gg HV HV HV HV HV (fun b41 => ?_)
     refine Gk bxA memB ?_
     refine Gm (i := 10) HW HV HV (fun _ => ?_)
     refine GB (i := 0) (enc := eMt) (lst := ownZ ((zips T[n]).take q)) [⟨T[n].words[q], false, T[n].kids[q]⟩] HV HV HV HV (.val (.val (.val .nil))) HV HV (fun _ => rfl) HY HY (fun a42 k42 c42 => ?_)
     have hy := ownZ_yes hqz (by rw [hzg]; exact c31)
     rw [hzg] at hy
     rw [hy]
     refine Gk bxA memB ?_
     refine qt [11] ?_
     refine Gm (i := 12) HW HV HV (fun _ => ?_)
     refine GG HV HV HV ?_
     refine Gw HV ?_
     refine Gq HW ?_
     refine qs 6 ?_
     exact Gi (q + 1, a42, k42, c42) (by simp only; omega) (by simp only; omega) srA subF
    refine qs 10 ?_
    refine Gi (q + 1, a7, k7, c7) (by simp only; omega) (by simp only; omega) srA ?_
    rw [ownZ_no hqz (by rw [hzg]; exact c31)]
    exact subF
   refine qs 14 ?_
   obtain rfl : q = T[n].words.length := by omega
   have hall : (zips T[n]).take T[n].words.length = zips T[n] := List.take_of_length_le HY
   rw [hall]
   refine Ga (GL HV HV HV (fun c47 => ?_) (fun c47 => absurd c21 HY))
   refine qs 11 ?_
   exact Gx (rs := [.cell 4 _]) (L' := L) (F' := fL T a k c :: fMs (ownZ (zips T[n])) a7 k7 c7 :: F) Tryz.results182 (.agg (j := 3) rfl rfl rfl .nil) ((Gv (i := 0) rfl).trans (Sub.drop.trans (Sub.drop.trans (Sub.drop.trans (Sub.drop.trans (Sub.drop.trans (Gj (mem2 memA memA (fun x hx => by repeat (first | exact hx | refine List.mem_cons_of_mem _ ?_)))))))))) (hO T _ a k c a7 k7 c7 (own_7 hn c21))
  refine qs 10 ?_
  refine Ga (GL HV HV HV (fun c47 => ?_) (fun c47 => ?_))
  ·refine qs 11 ?_
   exact Gx (rs := [.cell 4 _]) (L' := L) (F' := fL T a k c :: fMs [] none 0 0 :: F) Tryz.results182 (.agg (j := 3) rfl rfl rfl .nil) (Sub.drop.trans (Sub.drop.trans (Sub.drop.trans (Sub.drop.trans (Sub.drop.trans (Gj (mem2 memA memA (fun x hx => by repeat (first | exact hx | refine List.mem_cons_of_mem _ ?_))))))))) (hO T [] a k c none 0 0 (own_none hn c21 c47))
  refine qs 7 ?_
  refine GP (fun _ => false) [(b2, _, _), (b5, _, _)] bxA HV (fun hx hX => ?_)
  obtain ⟨j, hat, _⟩ := hu.2.2.2 _ (List.getElem_mem hn) c47
  obtain ⟨hjl, _⟩ := atN_some hat
  have hown := own_8 hn c47 hjl hat
  have hnmd := (hu.2.2.1 j hjl).1
  have hm16 := hnmd.2.2.2.1
  have hk2 := (Gs (hX (fN N a2 k2 c2) memA)).1
  obtain ⟨p1, o1, e1, at1⟩ := Gy (hX (fN N a2 k2 c2) memA) hjl
  cases e1
  obtain ⟨w1, x1, y1, w2, x2, y2, hv, hw1, hw2⟩ := nm_cells at1
  have hv3 := hv 3 _ rfl
  refine Hx hw2 memA ?_
  have hkm := (Gs hw2).1
  refine qt [0, 1, 2, 3, 4, 10] ?_
  refine Gm (i := 5) HW HV HV (fun _ => ?_)
  refine Gf HV HV (ruat_c N T[n].name (show fN N _ _ _ ∈ _ from memA) (fun q hq => ?_) (fun hq => absurd hq (by rw [hat]; simp)))
  obtain rfl : q = j := by rw [hat] at hq; injection hq with hq; exact hq.symm
  refine Gk bxA memB ?_
  refine GE (i := 6) HV (GC (k := q) HV HV HV HY) HW HV HV ?_
  refine qt [7] ?_
  refine GN (i := 8) HV (Hn HV hv3) HW HW HV HV HV ?_
  refine qt [9] ?_
  refine Gq HW ?_
  refine qs 2 ?_
  subst hkm
  have hms : ∀ m ∈ N[q].methods, 0 ≤ m.sig ∧ m.sig < T.length := fun m hm => by
   obtain ⟨p, hp, rfl⟩ := List.getElem_of_mem hm
   have := (hnmd.2.2.2.2.1 p hp).2.1
   exact ⟨this.1, this.2.1⟩
  refine Gz (fun (x : Nat × (List Ty × List Mth) × (Option Addr × Nat × Nat) × (Option Addr × Nat × Nat)) => x.1 ≤ N[q].methods.length ∧ turnR T[n].kids N[q].methods T x.1 = .ok x.2.1) (fun x => [(2, .pointer (some ⟨b2, 0, none⟩)), (4, .pointer (some ⟨b4, 0, none⟩)), (5, .pointer (some ⟨b5, 0, none⟩)), (6, .pointer (some ⟨b6, 0, none⟩)), (57, .slice w2 N[q].methods.length y2), (58, .int .i64 N[q].methods.length), (59, .int .i64 (x.1 : Int))]) (fun x => Res.own (.slice x.2.2.2.1 x.2.2.2.2.1 x.2.2.2.2.2) 44 3 (x.2.1.2.map eMt) :: Res.cells b6 #[.slice x.2.2.1.1 x.2.2.1.2.1 x.2.2.1.2.2, .slice (some ⟨p1, o1, none⟩) k2 c2, .int .i64 0, .slice x.2.2.2.1 x.2.2.2.2.1 x.2.2.2.2.2, .int .i64 0] 123 :: _) (fun x => fL x.2.1.1 x.2.2.1.1 x.2.2.1.2.1 x.2.2.1.2.2 :: _) (fun x => N[q].methods.length - x.1) (0, (T, []), (a, k, c), (none, 0, 0)) ⟨Nat.zero_le _, rfl⟩ srA (Gj (mem1 memA (fun x hx => hx))) ?_
  rintro ⟨v, ⟨o, out⟩, ⟨a1, k1, c1⟩, ⟨a9, k9, c9⟩⟩ ⟨hv9, hM⟩
  simp only at hv9 hM ⊢
  refine qs 2 ?_
  refine Ga (Gu HV HV HV (fun c60 => ?_) (fun c60 => ?_))
  ·refine qs 10 ?_
   have hvm : v < N[q].methods.length := by omega
   obtain ⟨hro, hpo, hlo⟩ := turnR_ok hu hms v hv9 o out hM
   have hpl := hpo.length_le
   have hsg := hms _ (List.getElem_mem hvm)
   obtain ⟨u, hum⟩ : ∃ u : Nat, N[q].methods[v].sig = (u : Int) := ⟨N[q].methods[v].sig.toNat, by omega⟩
   have hun : N[q].methods[v].sig.toNat = u := by omega
   refine Ga (Gd HV HV HV HV (enc := eMt) (lst := N[q].methods) memA hvm (fun _ _ => ?_))
   refine Ga (GJ HV HV ?_)
   refine Ga (Gl HV (fun b10 => ?_))
   refine qs 11 ?_
   refine Ga (Gf HV HV (rwithI_c o hro.1 _ u hum HY T[n].kids HY (show fL o a1 k1 c1 ∈ _ from memA) (show fK T[n] _ _ _ ∈ _ from memA) memA (fun e h0 he => ?_) (fun o2 q2 a65 k65 c65 hq2 => ?_)))
   ·refine Ga (Gl HV (fun b11 => ?_))
    refine qs 8 ?_
    refine Ga (GL HV HV HV (fun _ => ?_) (fun c70 => absurd c70 h0))
    refine qs 18 ?_
    exact Gx (rs := [.cell 4 _]) (L' := L) (F' := F) Tryz.results182 (.agg (j := 5) rfl rfl rfl .nil) subA (hE e h0 (by rw [hown]; exact turn_bad hM hvm (by rw [hun]; exact he)))
   refine Ga (Gl HV (fun b11 => ?_))
   refine qs 8 ?_
   refine Ga (GL HV HV HV (fun c70 => absurd HV c70) (fun _ => ?_))
   refine qs 25 ?_
   refine Ga (Gg HV HV HV HV HV (fun b85 => ?_))
   refine Ga (GB (i := 2) (enc := eMt) (lst := out) [⟨N[q].methods[v].name, N[q].methods[v].ptr, q2⟩] HV HV HV HV (.val (.val (.val .nil))) HV HV (fun _ => rfl) HY HY (fun a86 k86 c86 => ?_))
   refine qs 9 ?_
   exact Gi (v + 1, (o2, out ++ [⟨N[q].methods[v].name, N[q].methods[v].ptr, q2⟩]), (a65, k65, c65), (a86, k86, c86)) ⟨by simp only; omega, turn_out T hM hvm (by rw [hun]; exact hq2)⟩ (by simp only; omega) srA (Sub.drop.trans (Sub.drop.trans (Gj (mem1 memA (fun x hx => by repeat (first | exact hx | refine List.mem_cons_of_mem _ ?_))))))
  refine qs 16 ?_
  obtain rfl : v = N[q].methods.length := by omega
  exact Gx (rs := [.cell 4 _]) (L' := L) (F' := fL o a1 k1 c1 :: fMs out a9 k9 c9 :: F) Tryz.results182 (.agg (j := 3) rfl rfl rfl .nil) ((Gv (i := 0) rfl).trans (Sub.drop.trans (Sub.drop.trans (Sub.drop.trans (Sub.drop.trans (Sub.drop.trans (Gj (mem2 memA memA (fun x hx => by repeat (first | exact hx | refine List.mem_cons_of_mem _ ?_)))))))))) (hO o out a1 k1 c1 a9 k9 c9 (by rw [hown]; exact hM))
end
end Go.Sy
namespace Go.Sy
open Go Go.Proofs Go.RowKit
abbrev vL (a : Option Addr) (k c : Nat) (a2 : Option Addr) (k2 c2 : Nat) (a3 : Option Addr) (k3 c3 : Nat) (a4 : Option Addr) (k4 c4 : Nat) (a5 : Option Addr) (k5 c5 : Nat) (e : Int) : Value := .agg #[.slice a k c, .slice a2 k2 c2, .slice a3 k3 c3, .slice a4 k4 c4, .slice a5 k5 c5, .int .i64 e]
theorem hadF_app (t : Ty) (e : Ent) (s : List UInt8) (l : List SelV) : ∀ k, hadF t e s l k = l ++ hadF t e s [] k
  | 0 => by simp [hadF]
  | k + 1 => by
    simp only [hadF]
    split
    · rw [hadF_app t e s l k, List.append_assoc]
    exact hadF_app t e s l k
theorem had1_app (T : List Ty) (w : Wht) (e : Ent) (s : List UInt8) (l : List SelV) : had1 T w e s l = l ++ had1 T w e s [] := by
  unfold had1
  simp only
  split
  · rw [hadF_app, hadF_app _ _ _ ([] ++ hadM w e s w.ms.length)]; simp
  simp
def repL (l : List SelV) : Nat → List SelV
  | 0 => []
  | n + 1 => repL l n ++ l
theorem hadE_rep (T : List Ty) (w : Wht) (e : Ent) (s : List UInt8) : hadE T w e s = repL (had1 T w e s []) (if e.many = true then 2 else 1) := by
  unfold hadE
  split <;> simp [repL]
theorem repL_len (l : List SelV) : ∀ n, (repL l n).length = n * l.length
  | 0 => by simp [repL]
  | n + 1 => by rw [repL, List.length_append, repL_len l n, Nat.add_mul, Nat.one_mul]
attribute [local irreducible] AC AT AO AK AH ACalls Sub Res.cells Res.obj Res.nix Res.own Res.map Exit.then Exit.inBlock bodyPost Code.wp Code.wpIn WL Next Post Kont
section
variable {W0 : World} {L : List Res} {F : List Fact} {R : Value → List Res → List Fact → Prop}
set_option maxRecDepth 100000
set_option maxHeartbeats 16000000
theorem rlook_c (T : List Ty) (N : List Nmd) (hu : rightU T N) (lev : List Ent) (p : Nat) (hl : levP T p lev) {a a2 a3 a4 a5 : Option Addr} {k c k2 c2 k3 c3 k4 c4 k5 c5 : Nat} (mL : fL T a k c ∈ F) (mN : fN N a2 k2 c2 ∈ F) (mV : fEn lev a3 k3 c3 ∈ F) (mE : Fact.slc (.slice none 0 0) 5 [] ∈ F)
    (hE : ∀ e, e ≠ 0 → looksR N T lev lev.length = .error e → R (vL none 0 0 none 0 0 none 0 0 none 0 0 none 0 0 e) L F)
    (hO : ∀ o ws a k c a4 k4 c4, looksR N T lev lev.length = .ok (o, ws) → R (vL a k c a2 k2 c2 a3 k3 c3 a4 k4 c4 a5 k5 c5 0) L (fL o a k c :: fWh ws a4 k4 c4 :: F)) :
    ACalls Tryz.prog W0 121 #[vL a k c a2 k2 c2 a3 k3 c3 a4 k4 c4 a5 k5 c5 0] L F R := by
  have hml : 1000000 ≤ maxLen := by decide
  have hlf := hl.few
  have hT4 := hu.1.2.1
  refine Gh Tryz.func121 HV Tryz.ntmps121 HV ?_
  refine qs 2 ?_
  refine Ga (GO HV HV (fun b1 => (Ga (Gl HV (fun b2 => ?_)))))
  refine qs 13 ?_
  refine GD (GY (e := 188) (sz := 2)) ?_
  refine Ga (Gn HV HV (fun hl11 => ?_) (enc := eEn) (lst := lev) (hm := memA))
  refine qs 4 ?_
  refine Gz (fun (x : Nat × (List Ty × List Wht) × (Option Addr × Nat × Nat) × (Option Addr × Nat × Nat)) => x.1 ≤ lev.length ∧ looksR N T lev x.1 = .ok x.2.1) (fun x => [(1, .pointer (some ⟨b1, 0, none⟩)), (2, .pointer (some ⟨b2, 0, none⟩)), (10, .slice a3 k3 c3), (11, .int .i64 lev.length), (12, .int .i64 (x.1 : Int))]) (fun x => Res.own (.slice x.2.2.2.1 x.2.2.2.2.1 x.2.2.2.2.2) 188 2 (x.2.1.2.map eWh) :: Res.cells b2 _ _ :: Res.cells b1 #[.slice x.2.2.1.1 x.2.2.1.2.1 x.2.2.1.2.2, .slice a2 k2 c2, .slice a3 k3 c3, .slice x.2.2.2.1 x.2.2.2.2.1 x.2.2.2.2.2, .slice a5 k5 c5, .int .i64 0] 103 :: _) (fun x => fL x.2.1.1 x.2.2.1.1 x.2.2.1.2.1 x.2.2.1.2.2 :: _) (fun x => lev.length - x.1) (0, (T, []), (a, k, c), (none, 0, 0)) ⟨Nat.zero_le _, rfl⟩ srA (Gj (mem1 memA (fun x hx => hx))) ?_
  rintro ⟨q, ⟨o, ws⟩, ⟨a1, k1, c1⟩, ⟨a9, k9, c9⟩⟩ ⟨hq, hlk⟩
  simp only at hq hlk ⊢
  refine qs 2 ?_
  refine Ga (Gu HV HV HV (fun c13 => ?_) (fun c13 => ?_))
  ·refine qs 10 ?_
   have hql : q < lev.length := by omega
   obtain ⟨hro, hpo, hlw, hww⟩ := looksR_ok hu hl q hq o ws hlk
   have hle := (hl.1 _ (List.getElem_mem hql)).1
   have hpl := hpo.length_le
   refine Ga (Gd HV HV HV HV (enc := eEn) (lst := lev) memA hql (fun _ _ => ?_))
   refine Ga (GJ HV HV ?_)
   intro a15 k15 z15
   refine Ga (Gl HV (fun b4 => ?_))
   refine qs 9 ?_
   refine Ga (Gf HV HV (rundT_c o N hro lev[q].typ hle.1 HY (show fL o _ _ _ ∈ _ from memA) memA memA (fun e he hx => ?_) (fun o2 r a20 k20 c20 hx => ?_)))
   ·refine Ga (Gl HV (fun b5 => ?_))
    refine qs 8 ?_
    refine Ga (GL HV HV HV (fun _ => ?_) (fun c23 => absurd c23 he))
    refine qs 18 ?_
    exact Gx (rs := [.cell 2 _]) (L' := L) (F' := F) Tryz.results121 (.agg (j := 3) rfl rfl rfl .nil) subA (hE e he (looks_err hql hlk (look_err1 hx)))
   refine Ga (Gl HV (fun b5 => ?_))
   refine qs 8 ?_
   obtain ⟨hro2, hpo2, hr0, hrl⟩ := undR_ok hro hle.1 HY hx
   have hpl2 := hpo2.length_le
   obtain ⟨hrn, hre⟩ := Hz hr0 hrl
   refine Ga (GL HV HV HV (fun c23 => absurd HV c23) (fun _ => ?_))
   refine qs 20 ?_
   refine Ga (Gd (k := r.toNat) HV HV HV HY (enc := eTy) (lst := o2) memA hrn (fun _ _ => ?_))
   refine Ga (Hh HV HV (fun _ => ?_))
   refine Ga (Gt HV HV ?_)
   refine Ga (Gr HV HV HV (fun c37 => ?_) (fun c37 => ?_))
   ·refine qs 14 ?_
    have hof : (if (tyAt o2 r).kind = 7 then r else lev[q].typ) = r := by rw [if_pos (by rw [hre]; exact c37)]
    refine Ga (Gf HV HV (rownT_c o2 N hro2 r hr0 hrl (show fL o2 _ _ _ ∈ _ from memA) memA memA (fun e he hy => ?_) (fun o3 ms a43 k43 c43 a44 k44 c44 hy => ?_)))
    ·refine Ga (Gl HV (fun b7 => ?_))
     refine qs 8 ?_
     rw [← hof] at hy
     refine Ga (GL HV HV HV (fun _ => ?_) (fun c46 => absurd c46 he))
     refine qs 18 ?_
     exact Gx (rs := [.cell 2 _]) (L' := L) (F' := F) Tryz.results121 (.agg (j := 4) rfl rfl rfl .nil) subA (hE e he (looks_err hql hlk (look_err2 hx hy)))
    refine Ga (Gl HV (fun b7 => ?_))
    refine qs 8 ?_
    rw [← hof] at hy
    refine Ga (GL HV HV HV (fun c46 => absurd HV c46) (fun _ => ?_))
    refine qs 21 ?_
    refine Ga (Gg HV HV HV HV HV (fun b60 => ?_))
    refine Ga (GB (i := 3) (enc := eWh) (lst := ws) [⟨r, ms⟩] HV HV HV HV (.val (.slc .nil memA)) HV HV (fun _ => rfl) HY HY (fun a61 k61 c61 => ?_))
    refine qs 9 ?_
    exact Gi (q + 1, (o3, ws ++ [⟨r, ms⟩]), (a43, k43, c43), (a61, k61, c61)) ⟨by simp only; omega, looks_ok hql hlk (look_ok hx hy)⟩ (by simp only; omega) srA (Sub.drop.trans (Sub.drop.trans (Sub.drop.trans (Gj (mem1 memA (fun x hx => by repeat (first | exact hx | refine List.mem_cons_of_mem _ ?_)))))))
   refine qs 10 ?_
   have hof : (if (tyAt o2 r).kind = 7 then r else lev[q].typ) = lev[q].typ := by rw [if_neg (by rw [hre]; exact c37)]
   refine Ga (Gf HV HV (rownT_c o2 N hro2 lev[q].typ hle.1 HY (show fL o2 _ _ _ ∈ _ from memA) memA memA (fun e he hy => ?_) (fun o3 ms a43 k43 c43 a44 k44 c44 hy => ?_)))
   ·refine Ga (Gl HV (fun b7 => ?_))
    refine qs 8 ?_
    rw [← hof] at hy
    refine Ga (GL HV HV HV (fun _ => ?_) (fun c46 => absurd c46 he))
    refine qs 18 ?_
    exact Gx (rs := [.cell 2 _]) (L' := L) (F' := F) Tryz.results121 (.agg (j := 4) rfl rfl rfl .nil) subA (hE e he (looks_err hql hlk (look_err2 hx hy)))
   refine Ga (Gl HV (fun b7 => ?_))
   refine qs 8 ?_
   rw [← hof] at hy
   refine Ga (GL HV HV HV (fun c46 => absurd HV c46) (fun _ => ?_))
   refine qs 21 ?_
   refine Ga (Gg HV HV HV HV HV (fun b60 => ?_))
   refine Ga (GB (i := 3) (enc := eWh) (lst := ws) [⟨r, ms⟩] HV HV HV HV (.val (.slc .nil memA)) HV HV (fun _ => rfl) HY HY (fun a61 k61 c61 => ?_))
   refine qs 9 ?_
   exact Gi (q + 1, (o3, ws ++ [⟨r, ms⟩]), (a43, k43, c43), (a61, k61, c61)) ⟨by simp only; omega, looks_ok hql hlk (look_ok hx hy)⟩ (by simp only; omega) srA (Sub.drop.trans (Sub.drop.trans (Sub.drop.trans (Gj (mem1 memA (fun x hx => by repeat (first | exact hx | refine List.mem_cons_of_mem _ ?_)))))))
  refine qs 16 ?_
  obtain rfl : q = lev.length := by omega
  exact Gx (rs := [.cell 2 _]) (L' := L) (F' := fL o a1 k1 c1 :: fWh ws a9 k9 c9 :: F) Tryz.results121 (.agg (j := 1) rfl rfl rfl .nil) ((Gv (i := 0) rfl).trans (Sub.drop.trans (Sub.drop.trans (Sub.drop.trans (Gj (mem2 memA memA (fun x hx => by repeat (first | exact hx | refine List.mem_cons_of_mem _ ?_)))))))) (hO o ws a1 k1 c1 a9 k9 c9 hlk)
end
end Go.Sy
namespace Go.Sy
open Go Go.Proofs Go.RowKit
def hadX (t : Ty) (e : Ent) (s : List UInt8) (l : List SelV) (k : Nat) : List SelV := if t.kind = 6 then hadF t e s l k else l
theorem hadX_len {t : Ty} {e : Ent} {s : List UInt8} {l : List SelV} (k : Nat) : (hadX t e s l k).length ≤ l.length + k := by
  unfold hadX; split
  · exact hadF_len k
  omega
theorem hadX_no {t : Ty} {e : Ent} {s : List UInt8} {l : List SelV} {k : Nat} (hk : k < t.words.length) (h : ¬(t.kind = 6 ∧ fieldN t.words[k] = s)) : hadX t e s l (k + 1) = hadX t e s l k := by
  unfold hadX
  by_cases c : t.kind = 6
  · rw [if_pos c, if_pos c, hadF_no hk (fun e => h ⟨c, e⟩)]
  rw [if_neg c, if_neg c]
theorem hadX_yes {t : Ty} {e : Ent} {s : List UInt8} {l : List SelV} {k : Nat} (hk : k < t.words.length) (hkk : k < t.kids.length) (h6 : t.kind = 6) (h : fieldN t.words[k] = s) : hadX t e s l (k + 1) = hadX t e s l k ++ [⟨false, t.kids[k], false, e.via, e.path ++ [(k : Int)]⟩] := by
  unfold hadX
  rw [if_pos h6, if_pos h6, hadF_yes hk hkk h]
theorem hadX_all {T : List Ty} {w : Wht} {e : Ent} {s : List UInt8} {l : List SelV} {t : Ty} (ht : tyAt T w.under = t) : hadX t e s (l ++ hadM w e s w.ms.length) t.words.length = l ++ had1 T w e s [] := by
  rw [← had1_app]
  unfold hadX had1
  simp only
  rw [ht]
attribute [local irreducible] AC AT AO AK AH ACalls Sub Res.cells Res.obj Res.nix Res.own Res.map Exit.then Exit.inBlock bodyPost Code.wp Code.wpIn WL Next Post Kont
section
variable {W0 : World} {L : List Res} {F : List Fact} {R : Value → List Res → List Fact → Prop}
set_option maxRecDepth 100000
set_option maxHeartbeats 16000000
theorem rHad_c (T : List Ty) (hr : rightP T) (lev : List Ent) (p : Nat) (hp : p ≤ 900) (hl : levP T p lev) (ws : List Wht) (hlen : ws.length = lev.length) (hws : ∀ w ∈ ws, whP T w) (s : List UInt8) {a a2 a3 a4 a5 : Option Addr} {k c k2 c2 k3 c3 k4 c4 k5 c5 : Nat} {e0 : Int} (mL : fL T a k c ∈ F) (mV : fEn lev a3 k3 c3 ∈ F) (mW : fWh ws a4 k4 c4 ∈ F)
    (h : ∀ a k c, R (.slice a k c) L (fSl (foundN T lev ws s lev.length) a k c :: F)) :
    ACalls Tryz.prog W0 68 #[vL a k c a2 k2 c2 a3 k3 c3 a4 k4 c4 a5 k5 c5 e0, S s] L F R := by
  have hml : 1000000 ≤ maxLen := by decide
  have hlf := hl.few
  have hT4 := hr.2.1
  refine Gh Tryz.func68 HV Tryz.ntmps68 HV ?_
  refine qs 2 ?_
  refine Ga (GO HV HV (fun b2 => ?_))
  refine qs 5 ?_
  refine Ga (GZ HV (fun b15 => ?_))
  refine GD (Hv (i := 0) (k := 0) (sz := 5) (enc := eSl) [] HV .nil (fun _ => rfl) HV (by decide)) ?_
  refine qs 8 ?_
  refine Ga (Gn HV HV (fun hl18 => ?_) (enc := eEn) (lst := lev) (hm := memA))
  refine qs 4 ?_
  refine Gz (fun (x : Nat × Option Addr × Nat × Nat) => x.1 ≤ lev.length) (fun x => [(1, S s), (2, .pointer (some ⟨b2, 0, none⟩)), (5, .slice x.2.1 x.2.2.1 x.2.2.2), (17, .slice a3 k3 c3), (18, .int .i64 lev.length), (19, .int .i64 (x.1 : Int))]) (fun x => Res.own (.slice x.2.1 x.2.2.1 x.2.2.2) 47 5 ((foundN T lev ws s x.1).map eSl) :: _) (fun _ => _) (fun x => lev.length - x.1) (0, some ⟨b15, 0, none⟩, 0, 0) (Nat.zero_le _) srA (Gc _ _) ?_
  rintro ⟨q, a6, k6, c6⟩ hq
  simp only at hq ⊢
  refine qs 2 ?_
  refine Ga (Gu HV HV HV (fun c20 => ?_) (fun c20 => ?_))
  ·refine qs 11 ?_
   have hql : q < lev.length := by omega
   have hqw : q < ws.length := by omega
   have hwq := hws _ (List.getElem_mem hqw)
   have hpt := (hl.1 _ (List.getElem_mem hql)).2
   obtain ⟨n, hn⟩ : ∃ n : Nat, ws[q].under = (n : Int) := ⟨ws[q].under.toNat, by have := hwq.1; omega⟩
   have hnl : n < T.length := by have := hwq.2.1; omega
   have hty : tyAt T ws[q].under = T[n] := by rw [hn]; exact HE hnl
   have hok := Hu hr _ (List.getElem_mem hnl)
   have hwl := hok.words
   have hfq := foundN_len hr hlen hws (s := s) q HY
   have h1l := had1_len hr hwq (e := lev[q]) (s := s) (l := [])
   have hstep := found_step (T := T) (s := s) hql hqw
   rw [hadE_rep] at hstep
   have hms := hwq.2.2
   simp only [List.length_nil] at h1l
   generalize hH : had1 T ws[q] lev[q] s [] = H at hstep h1l
   refine Ga (Gd HV HV HV HV (enc := eEn) (lst := lev) memA hql (fun _ _ => ?_))
   refine Ga (GJ HV HV ?_)
   intro a23 k23 z23
   refine Ga (Gl HV (fun b7 => ?_))
   refine qs 16 ?_
   refine AC.cond HV (fun c25 => ?_) (fun c25 => ?_)
   ·refine qs 5 ?_
    refine GP (fun i => Nat.beq i 12) [(b2, _, _)] bxA HV (fun hx hX => ?_)
    have hll := (Gs (hX (fL T a k c) memA)).1
    have hww := (Gs (hX (fWh ws a4 k4 c4) memA)).1
    obtain ⟨p0, o0, e0, at0⟩ := Gy (hX (fWh ws a4 k4 c4) memA) hqw
    subst e0
    obtain ⟨v0, hv0, hc0⟩ := at0 0 _ rfl
    cases hc0
    obtain ⟨p1, o1, e1, at1⟩ := Gy (hX (fL T a k c) memA) hnl
    subst e1
    obtain ⟨w1, x1, y1, w2, x2, y2, hv1, hw1, hw2⟩ := ty_cells at1
    refine Hx hw1 memA (Hx hw2 memA ?_)
    refine qt [0, 1, 2, 3, 4, 5] ?_
    refine GE (i := 6) HV (GC (k := q) HV HV HV HY) HW HV HV ?_
    refine qt [7] ?_
    refine GN (i := 8) HV (Hn HV hv0) HW HW HV HV HV ?_
    refine GE (i := 9) HV (GC (k := n) HV HV hn HY) HW HV HV ?_
    refine GN (i := 10) HV (HP HV HV hv1) HW HW HV HV HV ?_
    refine Gm (i := 11) HW HV HV (fun _ => ?_)
    refine Gl HV (fun b9 => ?_)
    refine Gk bxA memB ?_
    refine Gm (i := 12) HW HV HV (fun _ => ?_)
    refine GF HV HV HV HV ?_
    refine Gw HV ?_
    refine Gq HW ?_
    refine qs 7 ?_
    refine Gz (fun (x : Nat × Option Addr × Nat × Nat) => x.1 ≤ 2) (fun x => [(1, S s), (2, .pointer (some ⟨b2, 0, none⟩)), (5, .slice x.2.1 x.2.2.1 x.2.2.2), (6, .int .i64 (q : Int)), (7, .pointer (some ⟨b7, 0, none⟩)), (8, .int .i64 2), (9, .pointer (some ⟨b9, 0, none⟩)), (10, .int .i64 (x.1 : Int)), (17, .slice a3 k3 c3), (18, .int .i64 lev.length), (19, .int .i64 (q : Int))]) (fun x => _ :: _ :: Res.own (.slice x.2.1 x.2.2.1 x.2.2.2) 47 5 ((foundN T lev ws s q ++ repL H x.1).map eSl) :: _) (fun _ => _) (fun x => 2 - x.1) (0, a6, k6, c6) (Nat.zero_le _) srA (Hi (by simp only [repL, List.append_nil] <;> rfl)) ?_
    rintro ⟨r, a5', k5', c5'⟩ hr2
    simp only at hr2 ⊢
    refine qs 5 ?_
    refine Ga (Gu HV HV HV (fun c39 => ?_) (fun c39 => ?_))
    ·refine qs 13 ?_
     have hrep := repL_len H r
     have hmul : r * H.length ≤ 80 := by
      have h1 : r ≤ 2 := by omega
      have h2 : H.length ≤ 40 := by omega
      calc r * H.length ≤ 2 * 40 := Nat.mul_le_mul h1 h2
        _ = 80 := rfl
     have hbl : (foundN T lev ws s q ++ repL H r).length ≤ 33000 := by rw [List.length_append]; omega
     generalize hB : foundN T lev ws s q ++ repL H r = B at hbl ⊢
     refine Ga (Gd HV HV HV HV (enc := eWh) (lst := ws) memA hqw (fun _ _ => ?_))
     refine Ga (Hh HV HV (fun _ => ?_))
     refine Ga (Gt HV HV ?_)
     intro a47 k47 z47
     refine Ga (Gn HV HV (fun hl48 => ?_) (enc := eMt) (lst := ws[q].ms) (hm := memA))
     refine qs 4 ?_
     refine Gz (fun (x : Nat × Option Addr × Nat × Nat) => x.1 ≤ ws[q].ms.length) (fun x => [(1, S s), (2, .pointer (some ⟨b2, 0, none⟩)), (5, .slice x.2.1 x.2.2.1 x.2.2.2), (6, .int .i64 (q : Int)), (7, .pointer (some ⟨b7, 0, none⟩)), (8, _), (9, .pointer (some ⟨b9, 0, none⟩)), (10, .int .i64 (r : Int)), (17, .slice a3 k3 c3), (18, .int .i64 lev.length), (19, .int .i64 (q : Int)), (47, .slice a47 k47 z47), (48, .int .i64 ws[q].ms.length), (49, .int .i64 (x.1 : Int))]) (fun x => _ :: _ :: Res.own (.slice x.2.1 x.2.2.1 x.2.2.2) 47 5 ((B ++ hadM ws[q] lev[q] s x.1).map eSl) :: _) (fun _ => _) (fun x => ws[q].ms.length - x.1) (0, a5', k5', c5') (Nat.zero_le _) srA (Hi (by simp only [hadM, List.append_nil] <;> rfl)) ?_
     rintro ⟨v, a4', k4', c4'⟩ hv
     simp only at hv ⊢
     refine qs 2 ?_
     refine Ga (Gu HV HV HV (fun c50 => ?_) (fun c50 => ?_))
     ·refine qs 10 ?_
      have hvl : v < ws[q].ms.length := by omega
      have hhl := hadM_len (w := ws[q]) (e := lev[q]) (s := s) v
      refine Ga (Gd HV HV HV HV (enc := eMt) (lst := ws[q].ms) memA hvl (fun _ _ => ?_))
      refine Ga (GJ HV HV ?_)
      refine Ga (Gl HV (fun b12 => ?_))
      refine qs 8 ?_
      refine Ga (Hp HV HV HV (fun c56 => ?_) (fun c56 => ?_))
      ·refine qs 13 ?_
       refine Ga (GI HV HV HV ?_)
       refine Ga (Gg HV HV HV HV HV (fun b67 => ?_))
       refine Ga (GB (i := 3) (enc := eSl) (lst := B ++ hadM ws[q] lev[q] s v) [⟨true, ws[q].ms[v].sig, ws[q].ms[v].ptr, lev[q].via, lev[q].path⟩] HV HV HV HV (.val (.val (.val (.val (.slc .nil memA))))) HV HV (fun _ => rfl) (by rw [List.length_append]; omega) (by rw [List.length_append]; omega) (fun a68 k68 c68 => ?_))
       rw [List.append_assoc, ← hadM_yes hvl c56]
       refine qs 8 ?_
       exact Gi (v + 1, a68, k68, c68) (by simp only; omega) (by simp only; omega) srA (Sub.drop.trans subF)
      refine qs 10 ?_
      refine Gi (v + 1, a4', k4', c4') (by simp only; omega) (by simp only; omega) srA ?_
      rw [hadM_no hvl c56]
      exact Sub.drop.trans subF
     refine qs 13 ?_
     obtain rfl : v = ws[q].ms.length := by omega
     have hhl := hadM_len (w := ws[q]) (e := lev[q]) (s := s) ws[q].ms.length
     refine Ga (Gn HV HV (fun hl72 => ?_) (enc := eS) (lst := T[n].words) (hm := memA))
     refine qs 4 ?_
     have hal := hadX_all (e := lev[q]) (s := s) (l := B) hty
     rw [hH] at hal
     have hB2 : (B ++ hadM ws[q] lev[q] s ws[q].ms.length).length ≤ 33100 := by rw [List.length_append]; omega
     generalize hB2e : B ++ hadM ws[q] lev[q] s ws[q].ms.length = B2 at hal hB2 ⊢
     refine Gz (fun (x : Nat × Option Addr × Nat × Nat) => x.1 ≤ T[n].words.length) (fun x => [(1, S s), (2, .pointer (some ⟨b2, 0, none⟩)), (5, .slice x.2.1 x.2.2.1 x.2.2.2), (6, .int .i64 (q : Int)), (7, .pointer (some ⟨b7, 0, none⟩)), (8, _), (9, .pointer (some ⟨b9, 0, none⟩)), (10, .int .i64 (r : Int)), (17, .slice a3 k3 c3), (18, .int .i64 lev.length), (19, .int .i64 (q : Int)), (71, .slice w1 x1 y1), (72, .int .i64 T[n].words.length), (73, .int .i64 (x.1 : Int))]) (fun x => _ :: _ :: Res.own (.slice x.2.1 x.2.2.1 x.2.2.2) 47 5 ((hadX T[n] lev[q] s B2 x.1).map eSl) :: _) (fun _ => _) (fun x => T[n].words.length - x.1) (0, a4', k4', c4') (Nat.zero_le _) srA (Hi (by simp only [hadX, hadF, ite_self] <;> rfl)) ?_
     rintro ⟨j, a3', k3', c3'⟩ hj
     simp only at hj ⊢
     refine qs 2 ?_
     refine Ga (Gu HV HV HV (fun c74 => ?_) (fun c74 => ?_))
     ·refine qs 11 ?_
      have hjl : j < T[n].words.length := by omega
      have hxl := hadX_len (t := T[n]) (e := lev[q]) (s := s) (l := B2) j
      refine Ga (Gd HV HV HV HV (enc := eS) (lst := T[n].words) memA hjl (fun _ _ => ?_))
      refine Ga (Gt HV HV ?_)
      intros
      refine qs 8 ?_
      refine Ga (Gr HV HV HV (fun c80 => ?_) (fun c80 => ?_))
      ·refine qs 2 ?_
       refine Ge HV HV (Gf HV HV (sfieldR_c T[n].words[j] (hok.word _ (List.getElem_mem hjl)) ?_))
       refine qs 1 ?_
       refine Ge HV HV (Hp HV HV HV (fun c85 => ?_) (fun c85 => ?_))
       ·refine qs 4 ?_
        refine GP (fun _ => false) [(b9, _, _), (b7, _, _)] bxA HV (fun hx hX => ?_)
        have hst := struct_of hr hnl c80
        have hjk : j < T[n].kids.length := by omega
        have hkk := (Gs (hX (fK T[n] w2 x2 y2) memA)).1
        obtain ⟨p2, o2, e2, atq⟩ := Gy (hX (fK T[n] w2 x2 y2) memA) hjk
        subst e2
        obtain ⟨vq, hvq, hcq⟩ := atq 0 _ rfl
        cases hcq
        refine qt [0, 1, 2, 3] ?_
        refine GE (i := 4) HV (GC (k := j) HV HV HV HY) HW HV HV ?_
        refine GN (i := 5) HV (Hn HV hvq) HW HW HV HV HV ?_
        refine qt [6, 7, 8, 9, 10] ?_
        refine Gm (i := 11) HW HV HV (fun _ => ?_)
        refine Gf HV HV (rwithp_c lev[q].path (j : Int) HY (show fI lev[q].path _ _ _ ∈ _ from memA) (fun a98 k98 c98 => ?_))
        refine Gk bxA memB ?_
        refine qt [12] ?_
        refine Gm (i := 13) HW HV HV (fun _ => ?_)
        refine Gg HV HV HV HV HV (fun b100 => ?_)
        refine Gk bxA memB ?_
        refine Gm (i := 14) HW HV HV (fun _ => ?_)
        refine GB (i := 2) (enc := eSl) (lst := hadX T[n] lev[q] s B2 j) [⟨false, T[n].kids[j], false, lev[q].via, lev[q].path ++ [(j : Int)]⟩] HV HV HV HV (.val (.val (.val (.val (.slc .nil memA))))) HV HV (fun _ => rfl) HY HY (fun a101 k101 c101 => ?_)
        rw [← hadX_yes hjl hjk c80 c85]
        refine Gk bxA memB ?_
        refine qt [15] ?_
        refine Gq HW ?_
        refine qs 6 ?_
        exact Gi (j + 1, a101, k101, c101) (by simp only; omega) (by simp only; omega) srA subF
       refine qs 11 ?_
       refine Gi (j + 1, a3', k3', c3') (by simp only; omega) (by simp only; omega) srA ?_
       rw [hadX_no hjl (fun e => c85 e.2)]
       exact subF
      refine qs 16 ?_
      refine Gi (j + 1, a3', k3', c3') (by simp only; omega) (by simp only; omega) srA ?_
      rw [hadX_no hjl (fun e => c80 e.1)]
      exact subF
     refine qs 12 ?_
     obtain rfl : j = T[n].words.length := by omega
     rw [hal, ← hB, List.append_assoc]
     refine Ga (AO.add HV HV HV HY HY ?_)
     refine qs 2 ?_
     exact Gi (r + 1, a3', k3', c3') (by simp only; omega) (by simp only; omega) srA subF
    refine qs 13 ?_
    obtain rfl : r = (if lev[q].many = true then 2 else 1) := by first | (rw [if_pos c25]; omega) | (rw [if_neg (by simp [c25])]; omega)
    refine Gi (q + 1, a5', k5', c5') (by simp only; omega) (by simp only; omega) srA ?_
    rw [hstep]
    exact Sub.drop.trans (Sub.drop.trans subF)
   refine qs 3 ?_
   refine GP (fun i => Nat.beq i 12) [(b2, _, _)] bxA HV (fun hx hX => ?_)
   have hll := (Gs (hX (fL T a k c) memA)).1
   have hww := (Gs (hX (fWh ws a4 k4 c4) memA)).1
   obtain ⟨p0, o0, e0, at0⟩ := Gy (hX (fWh ws a4 k4 c4) memA) hqw
   subst e0
   obtain ⟨v0, hv0, hc0⟩ := at0 0 _ rfl
   cases hc0
   obtain ⟨p1, o1, e1, at1⟩ := Gy (hX (fL T a k c) memA) hnl
   subst e1
   obtain ⟨w1, x1, y1, w2, x2, y2, hv1, hw1, hw2⟩ := ty_cells at1
   refine Hx hw1 memA (Hx hw2 memA ?_)
   refine qt [0, 1, 2, 3, 4, 5] ?_
   refine GE (i := 6) HV (GC (k := q) HV HV HV HY) HW HV HV ?_
   refine qt [7] ?_
   refine GN (i := 8) HV (Hn HV hv0) HW HW HV HV HV ?_
   refine GE (i := 9) HV (GC (k := n) HV HV hn HY) HW HV HV ?_
   refine GN (i := 10) HV (HP HV HV hv1) HW HW HV HV HV ?_
   refine Gm (i := 11) HW HV HV (fun _ => ?_)
   refine Gl HV (fun b9 => ?_)
   refine Gk bxA memB ?_
   refine Gm (i := 12) HW HV HV (fun _ => ?_)
   refine GF HV HV HV HV ?_
   refine Gw HV ?_
   refine Gq HW ?_
   refine qs 7 ?_
   refine Gz (fun (x : Nat × Option Addr × Nat × Nat) => x.1 ≤ 1) (fun x => [(1, S s), (2, .pointer (some ⟨b2, 0, none⟩)), (5, .slice x.2.1 x.2.2.1 x.2.2.2), (6, .int .i64 (q : Int)), (7, .pointer (some ⟨b7, 0, none⟩)), (8, .int .i64 1), (9, .pointer (some ⟨b9, 0, none⟩)), (10, .int .i64 (x.1 : Int)), (17, .slice a3 k3 c3), (18, .int .i64 lev.length), (19, .int .i64 (q : Int))]) (fun x => _ :: _ :: Res.own (.slice x.2.1 x.2.2.1 x.2.2.2) 47 5 ((foundN T lev ws s q ++ repL H x.1).map eSl) :: _) (fun _ => _) (fun x => 1 - x.1) (0, a6, k6, c6) (Nat.zero_le _) srA (Hi (by simp only [repL, List.append_nil] <;> rfl)) ?_
   rintro ⟨r, a5', k5', c5'⟩ hr2
   simp only at hr2 ⊢
   refine qs 5 ?_
   refine Ga (Gu HV HV HV (fun c39 => ?_) (fun c39 => ?_))
   ·refine qs 13 ?_
    have hrep := repL_len H r
    have hmul : r * H.length ≤ 80 := by
     have h1 : r ≤ 2 := by omega
     have h2 : H.length ≤ 40 := by omega
     calc r * H.length ≤ 2 * 40 := Nat.mul_le_mul h1 h2
       _ = 80 := rfl
    have hbl : (foundN T lev ws s q ++ repL H r).length ≤ 33000 := by rw [List.length_append]; omega
    generalize hB : foundN T lev ws s q ++ repL H r = B at hbl ⊢
    refine Ga (Gd HV HV HV HV (enc := eWh) (lst := ws) memA hqw (fun _ _ => ?_))
    refine Ga (Hh HV HV (fun _ => ?_))
    refine Ga (Gt HV HV ?_)
    intro a47 k47 z47
    refine Ga (Gn HV HV (fun hl48 => ?_) (enc := eMt) (lst := ws[q].ms) (hm := memA))
    refine qs 4 ?_
    refine Gz (fun (x : Nat × Option Addr × Nat × Nat) => x.1 ≤ ws[q].ms.length) (fun x => [(1, S s), (2, .pointer (some ⟨b2, 0, none⟩)), (5, .slice x.2.1 x.2.2.1 x.2.2.2), (6, .int .i64 (q : Int)), (7, .pointer (some ⟨b7, 0, none⟩)), (8, _), (9, .pointer (some ⟨b9, 0, none⟩)), (10, .int .i64 (r : Int)), (17, .slice a3 k3 c3), (18, .int .i64 lev.length), (19, .int .i64 (q : Int)), (47, .slice a47 k47 z47), (48, .int .i64 ws[q].ms.length), (49, .int .i64 (x.1 : Int))]) (fun x => _ :: _ :: Res.own (.slice x.2.1 x.2.2.1 x.2.2.2) 47 5 ((B ++ hadM ws[q] lev[q] s x.1).map eSl) :: _) (fun _ => _) (fun x => ws[q].ms.length - x.1) (0, a5', k5', c5') (Nat.zero_le _) srA (Hi (by simp only [hadM, List.append_nil] <;> rfl)) ?_
    rintro ⟨v, a4', k4', c4'⟩ hv
    simp only at hv ⊢
    refine qs 2 ?_
    refine Ga (Gu HV HV HV (fun c50 => ?_) (fun c50 => ?_))
    ·refine qs 10 ?_
     have hvl : v < ws[q].ms.length := by omega
     have hhl := hadM_len (w := ws[q]) (e := lev[q]) (s := s) v
     refine Ga (Gd HV HV HV HV (enc := eMt) (lst := ws[q].ms) memA hvl (fun _ _ => ?_))
     refine Ga (GJ HV HV ?_)
     refine Ga (Gl HV (fun b12 => ?_))
     refine qs 8 ?_
     refine Ga (Hp HV HV HV (fun c56 => ?_) (fun c56 => ?_))
     ·refine qs 13 ?_
      refine Ga (GI HV HV HV ?_)
      refine Ga (Gg HV HV HV HV HV (fun b67 => ?_))
      refine Ga (GB (i := 3) (enc := eSl) (lst := B ++ hadM ws[q] lev[q] s v) [⟨true, ws[q].ms[v].sig, ws[q].ms[v].ptr, lev[q].via, lev[q].path⟩] HV HV HV HV (.val (.val (.val (.val (.slc .nil memA))))) HV HV (fun _ => rfl) (by rw [List.length_append]; omega) (by rw [List.length_append]; omega) (fun a68 k68 c68 => ?_))
      rw [List.append_assoc, ← hadM_yes hvl c56]
      refine qs 8 ?_
      exact Gi (v + 1, a68, k68, c68) (by simp only; omega) (by simp only; omega) srA (Sub.drop.trans subF)
     refine qs 10 ?_
     refine Gi (v + 1, a4', k4', c4') (by simp only; omega) (by simp only; omega) srA ?_
     rw [hadM_no hvl c56]
     exact Sub.drop.trans subF
    refine qs 13 ?_
    obtain rfl : v = ws[q].ms.length := by omega
    have hhl := hadM_len (w := ws[q]) (e := lev[q]) (s := s) ws[q].ms.length
    refine Ga (Gn HV HV (fun hl72 => ?_) (enc := eS) (lst := T[n].words) (hm := memA))
    refine qs 4 ?_
    have hal := hadX_all (e := lev[q]) (s := s) (l := B) hty
    rw [hH] at hal
    have hB2 : (B ++ hadM ws[q] lev[q] s ws[q].ms.length).length ≤ 33100 := by rw [List.length_append]; omega
    generalize hB2e : B ++ hadM ws[q] lev[q] s ws[q].ms.length = B2 at hal hB2 ⊢
    refine Gz (fun (x : Nat × Option Addr × Nat × Nat) => x.1 ≤ T[n].words.length) (fun x => [(1, S s), (2, .pointer (some ⟨b2, 0, none⟩)), (5, .slice x.2.1 x.2.2.1 x.2.2.2), (6, .int .i64 (q : Int)), (7, .pointer (some ⟨b7, 0, none⟩)), (8, _), (9, .pointer (some ⟨b9, 0, none⟩)), (10, .int .i64 (r : Int)), (17, .slice a3 k3 c3), (18, .int .i64 lev.length), (19, .int .i64 (q : Int)), (71, .slice w1 x1 y1), (72, .int .i64 T[n].words.length), (73, .int .i64 (x.1 : Int))]) (fun x => _ :: _ :: Res.own (.slice x.2.1 x.2.2.1 x.2.2.2) 47 5 ((hadX T[n] lev[q] s B2 x.1).map eSl) :: _) (fun _ => _) (fun x => T[n].words.length - x.1) (0, a4', k4', c4') (Nat.zero_le _) srA (Hi (by simp only [hadX, hadF, ite_self] <;> rfl)) ?_
    rintro ⟨j, a3', k3', c3'⟩ hj
    simp only at hj ⊢
    refine qs 2 ?_
    refine Ga (Gu HV HV HV (fun c74 => ?_) (fun c74 => ?_))
    ·refine qs 11 ?_
     have hjl : j < T[n].words.length := by omega
     have hxl := hadX_len (t := T[n]) (e := lev[q]) (s := s) (l := B2) j
     refine Ga (Gd HV HV HV HV (enc := eS) (lst := T[n].words) memA hjl (fun _ _ => ?_))
     refine Ga (Gt HV HV ?_)
     intros
     refine qs 8 ?_
     refine Ga (Gr HV HV HV (fun c80 => ?_) (fun c80 => ?_))
     ·refine qs 2 ?_
      refine Ge HV HV (Gf HV HV (sfieldR_c T[n].words[j] (hok.word _ (List.getElem_mem hjl)) ?_))
      refine qs 1 ?_
      refine Ge HV HV (Hp HV HV HV (fun c85 => ?_) (fun c85 => ?_))
      ·refine qs 4 ?_
       refine GP (fun _ => false) [(b9, _, _), (b7, _, _)] bxA HV (fun hx hX => ?_)
       have hst := struct_of hr hnl c80
       have hjk : j < T[n].kids.length := by omega
       have hkk := (Gs (hX (fK T[n] w2 x2 y2) memA)).1
       obtain ⟨p2, o2, e2, atq⟩ := Gy (hX (fK T[n] w2 x2 y2) memA) hjk
       subst e2
       obtain ⟨vq, hvq, hcq⟩ := atq 0 _ rfl
       cases hcq
       refine qt [0, 1, 2, 3] ?_
       refine GE (i := 4) HV (GC (k := j) HV HV HV HY) HW HV HV ?_
       refine GN (i := 5) HV (Hn HV hvq) HW HW HV HV HV ?_
       refine qt [6, 7, 8, 9, 10] ?_
       refine Gm (i := 11) HW HV HV (fun _ => ?_)
       refine Gf HV HV (rwithp_c lev[q].path (j : Int) HY (show fI lev[q].path _ _ _ ∈ _ from memA) (fun a98 k98 c98 => ?_))
       refine Gk bxA memB ?_
       refine qt [12] ?_
       refine Gm (i := 13) HW HV HV (fun _ => ?_)
       refine Gg HV HV HV HV HV (fun b100 => ?_)
       refine Gk bxA memB ?_
       refine Gm (i := 14) HW HV HV (fun _ => ?_)
       refine GB (i := 2) (enc := eSl) (lst := hadX T[n] lev[q] s B2 j) [⟨false, T[n].kids[j], false, lev[q].via, lev[q].path ++ [(j : Int)]⟩] HV HV HV HV (.val (.val (.val (.val (.slc .nil memA))))) HV HV (fun _ => rfl) HY HY (fun a101 k101 c101 => ?_)
       rw [← hadX_yes hjl hjk c80 c85]
       refine Gk bxA memB ?_
       refine qt [15] ?_
       refine Gq HW ?_
       refine qs 6 ?_
       exact Gi (j + 1, a101, k101, c101) (by simp only; omega) (by simp only; omega) srA subF
      refine qs 11 ?_
      refine Gi (j + 1, a3', k3', c3') (by simp only; omega) (by simp only; omega) srA ?_
      rw [hadX_no hjl (fun e => c85 e.2)]
      exact subF
     refine qs 16 ?_
     refine Gi (j + 1, a3', k3', c3') (by simp only; omega) (by simp only; omega) srA ?_
     rw [hadX_no hjl (fun e => c80 e.1)]
     exact subF
    refine qs 12 ?_
    obtain rfl : j = T[n].words.length := by omega
    rw [hal, ← hB, List.append_assoc]
    refine Ga (AO.add HV HV HV HY HY ?_)
    refine qs 2 ?_
    exact Gi (r + 1, a3', k3', c3') (by simp only; omega) (by simp only; omega) srA subF
   refine qs 13 ?_
   obtain rfl : r = (if lev[q].many = true then 2 else 1) := by first | (rw [if_pos c25]; omega) | (rw [if_neg (by simp [c25])]; omega)
   refine Gi (q + 1, a5', k5', c5') (by simp only; omega) (by simp only; omega) srA ?_
   rw [hstep]
   exact Sub.drop.trans (Sub.drop.trans subF)
  refine qs 16 ?_
  obtain rfl : q = lev.length := by omega
  exact Gb (L' := L) (F' := fSl (foundN T lev ws s lev.length) a6 k6 c6 :: F) Tryz.results68 rfl ((Gv (i := 0) rfl).trans (Sub.drop.trans (Sub.drop.trans (GW (fun x hx => by repeat (first | exact hx | refine List.mem_cons_of_mem _ ?_)))))) (h _ _ _)
end
end Go.Sy
namespace Go.Sy
open Go Go.Proofs Go.RowKit
theorem plus_ne {w : List UInt8} (h0 : 0 < w.length) : plusW w = true ↔ ((w[0].toNat : Nat) : Int) = 43 := by
  cases w with
  | nil => simp at h0
  | cons y ys =>
    simp only [plusW, List.head?_cons, List.getElem_cons_zero]
    constructor
    · intro h
      have h2 : some y = some 43 := eq_of_beq h
      injection h2 with h2
      subst h2; rfl
    intro h
    have : y = 43 := UInt8.toNat_inj.1 (by simpa using Int.ofNat_inj.1 h)
    subst this; rfl
def innX (T : List Ty) (e : Ent) (t : Ty) (seen : List Int) (out : List Ent) (k : Nat) : List Ent := if t.kind = 6 then innerN T e t seen out k else out
theorem innX_no {T : List Ty} {e : Ent} {t : Ty} {seen : List Int} {out : List Ent} {k : Nat} (h : t.kind ≠ 6) : innX T e t seen out (k + 1) = innX T e t seen out k := by unfold innX; rw [if_neg h, if_neg h]
theorem innX_skip {T : List Ty} {e : Ent} {t : Ty} {seen : List Int} {out : List Ent} {k : Nat} (h6 : t.kind = 6) (hk : k < t.words.length) (h : ¬ plusW t.words[k] = true) : innX T e t seen out (k + 1) = innX T e t seen out k := by unfold innX; rw [if_pos h6, if_pos h6, inner_no hk h]
theorem innX_yes {T : List Ty} {e : Ent} {t : Ty} {seen : List Int} {out : List Ent} {k : Nat} {x : Ent} (h6 : t.kind = 6) (hk : k < t.words.length) (h : plusW t.words[k] = true) (hx : entE T e t k = x) : innX T e t seen out (k + 1) = addE (innX T e t seen out k) seen x := by unfold innX; rw [if_pos h6, if_pos h6, inner_yes hk h hx]
theorem outer_x {T : List Ty} {lev : List Ent} {ws : List Wht} {seen : List Int} {q n : Nat} (hq : q < ws.length) (hql : q < lev.length) (hn : ws[q].under = (n : Int)) (hnl : n < T.length) : outerN T lev ws seen (q + 1) = innX T lev[q] T[n] seen (outerN T lev ws seen q) T[n].words.length := by
  unfold innX
  by_cases c : T[n].kind = 6
  · rw [if_pos c]; exact outer_yes hq hql hn hnl c
  rw [if_neg c]; exact outer_no hq hn hnl c
def docP (r : Except Int (List Ty × List Ent × List Wht × List Int)) (T : List Ty) (lev : List Ent) (ws : List Wht) (seen : List Int) (e : Int) : Prop := (e ≠ 0 ∧ r = .error e) ∨ (e = 0 ∧ r = .ok (T, lev, ws, seen))
theorem docL_err {N : List Nmd} {T : List Ty} {lev : List Ent} {seen : List Int} {e : Int} (h : looksR N T lev lev.length = .error e) : docL N T lev seen = .error e := by unfold docL; rw [h]
theorem docL_ok {N : List Nmd} {T o : List Ty} {lev : List Ent} {ws : List Wht} {seen : List Int} (h : looksR N T lev lev.length = .ok (o, ws)) : docL N T lev seen = .ok (o, lev, ws, seen) := by unfold docL; rw [h]
attribute [local irreducible] AC AT AO AK AH ACalls Sub Res.cells Res.obj Res.nix Res.own Res.map Exit.then Exit.inBlock bodyPost Code.wp Code.wpIn WL Next Post Kont
section
variable {W0 : World} {L : List Res} {F : List Fact} {R : Value → List Res → List Fact → Prop}
set_option maxRecDepth 100000
set_option maxHeartbeats 16000000
theorem rNext_c (T : List Ty) (N : List Nmd) (hu : rightU T N) (lev : List Ent) (p : Nat) (hp : p ≤ 900) (hl : levP T p lev) (ws : List Wht) (hlen : ws.length = lev.length) (hws : ∀ w ∈ ws, whP T w) (seen : List Int) (hse : seen.length ≤ 100000) {a a2 a3 a4 a5 : Option Addr} {k c k2 c2 k3 c3 k4 c4 k5 c5 : Nat} {e0 : Int} (mL : fL T a k c ∈ F) (mN : fN N a2 k2 c2 ∈ F) (mV : fEn lev a3 k3 c3 ∈ F) (mW : fWh ws a4 k4 c4 ∈ F) (mS : fI seen a5 k5 c5 ∈ F) (mE : Fact.slc (.slice none 0 0) 5 [] ∈ F)
    (h : ∀ T1 lev1 ws1 seen1 a k c an kn cn a3 k3 c3 a4 k4 c4 a5 k5 c5 e, docP (docL N T (nextL T lev ws seen) (seen ++ typs (nextL T lev ws seen))) T1 lev1 ws1 seen1 e → (e = 0 → an = a2 ∧ kn = k2 ∧ cn = c2) → R (vL a k c an kn cn a3 k3 c3 a4 k4 c4 a5 k5 c5 e) L (fL T1 a k c :: fEn lev1 a3 k3 c3 :: fWh ws1 a4 k4 c4 :: fI seen1 a5 k5 c5 :: F)) :
    ACalls Tryz.prog W0 69 #[vL a k c a2 k2 c2 a3 k3 c3 a4 k4 c4 a5 k5 c5 e0] L F R := by
  have hml : 1000000 ≤ maxLen := by decide
  have hlf := hl.few
  have hT4 := hu.1.2.1
  have hr := hu.1
  refine Hy ((Hm (sz := 4)).trans ((Hm (sz := 2)).trans (Hm (sz := 1)))) ?_
  refine Gh Tryz.func69 HV Tryz.ntmps69 HV ?_
  refine qs 2 ?_
  refine Ga (GO HV HV (fun b1 => (Ga (Gl HV (fun b2 => ?_)))))
  refine qs 4 ?_
  refine Ga (GZ HV (fun b14 => ?_))
  refine GD (GM (Hf (i := 0) (enc := eEn) (sz := 4) ([] : List Ent) HV .nil (fun _ => rfl) HV (by decide)) GA) ?_
  refine qs 8 ?_
  refine Ga (Gn HV HV (fun hl17 => ?_) (enc := eEn) (lst := lev) (hm := (show fEn lev a3 k3 c3 ∈ _ from memA)))
  refine qs 4 ?_
  refine Gz (fun (x : Nat × List Ent × (Option Addr × Nat × Nat)) => x.1 ≤ lev.length ∧ x.2.1 = outerN T lev ws seen x.1) (fun x => [(1, .pointer (some ⟨b1, 0, none⟩)), (2, .pointer (some ⟨b2, 0, none⟩)), (3, .slice x.2.2.1 x.2.2.2.1 x.2.2.2.2), (16, .slice a3 k3 c3), (17, .int .i64 lev.length), (18, .int .i64 (x.1 : Int))]) (fun _ => _) (fun x => fEn x.2.1 x.2.2.1 x.2.2.2.1 x.2.2.2.2 :: _) (fun x => lev.length - x.1) (0, [], (some ⟨b14, 0, none⟩, 0, 0)) ⟨Nat.zero_le _, rfl⟩ srA (Gj (mem1 memA (fun x hx => hx))) ?_
  rintro ⟨q, out, ⟨a9, k9, c9⟩⟩ ⟨hq, hout⟩
  simp only at hq hout ⊢
  refine qs 2 ?_
  refine Ga (Gu HV HV HV (fun c19 => ?_) (fun c19 => ?_))
  ·refine qs 11 ?_
   have hql : q < lev.length := by omega
   have hqw : q < ws.length := by omega
   have hwq := hws _ (List.getElem_mem hqw)
   have hpt := (hl.1 _ (List.getElem_mem hql)).2
   obtain ⟨n, hn⟩ : ∃ n : Nat, ws[q].under = (n : Int) := ⟨ws[q].under.toNat, by have := hwq.1; omega⟩
   have hnl : n < T.length := by have := hwq.2.1; omega
   have hok := Hu hr _ (List.getElem_mem hnl)
   have hrt := GV hr hnl
   have hkin : ∀ x ∈ T[n].kids, 0 ≤ x ∧ x < T.length := fun x hx => by have := hrt.kids x hx; omega
   have hlo : levP T (p + 1) out := hout ▸ outerN_ok (seen := seen) hr hl hlen hws q HY
   refine Ga (Gd HV HV HV HV (enc := eEn) (lst := lev) (show fEn lev a3 k3 c3 ∈ _ from memA) hql (fun _ _ => ?_))
   refine Ga (GJ HV HV ?_)
   intro a22 k22 z22
   refine Ga (Gl HV (fun b5 => ?_))
   refine qs 5 ?_
   refine GP (fun i => Nat.beq i 12) [(b1, _, _)] bxA HV (fun hx hX => ?_)
   have hll := (Gs (hX (fL T a k c) memA)).1
   have hww := (Gs (hX (fWh ws a4 k4 c4) memA)).1
   obtain ⟨p0, o0, e0, at0⟩ := Gy (hX (fWh ws a4 k4 c4) memA) hqw
   subst e0
   obtain ⟨v0, hv0, hc0⟩ := at0 0 _ rfl
   cases hc0
   obtain ⟨p1, o1, e1, at1⟩ := Gy (hX (fL T a k c) memA) hnl
   subst e1
   obtain ⟨w1, x1, y1, w2, x2, y2, hv1, hw1, hw2⟩ := ty_cells at1
   refine Hx hw1 memA (Hx hw2 memA ?_)
   refine qt [0, 1, 2, 3, 4, 5] ?_
   refine GE (i := 6) HV (GC (k := q) HV HV HV HY) HW HV HV ?_
   refine qt [7] ?_
   refine GN (i := 8) HV (Hn HV hv0) HW HW HV HV HV ?_
   refine GE (i := 9) HV (GC (k := n) HV HV hn HY) HW HV HV ?_
   refine GN (i := 10) HV (HP HV HV hv1) HW HW HV HV HV ?_
   refine Gm (i := 11) HW HV HV (fun _ => ?_)
   refine Gl HV (fun b6 => ?_)
   refine Gk bxA memB ?_
   refine Gm (i := 12) HW HV HV (fun _ => ?_)
   refine GF HV HV HV HV ?_
   refine Gw HV ?_
   refine Gq HW ?_
   refine qs 5 ?_
   refine Ga (Gn HV HV (fun hl36 => ?_) (enc := eS) (lst := T[n].words) (hm := memA))
   refine qs 4 ?_
   refine Gz (fun (x : Nat × List Ent × (Option Addr × Nat × Nat)) => x.1 ≤ T[n].words.length ∧ x.2.1 = innX T lev[q] T[n] seen out x.1 ∧ levP T (p + 1) x.2.1) (fun x => [(1, .pointer (some ⟨b1, 0, none⟩)), (2, .pointer (some ⟨b2, 0, none⟩)), (3, .slice x.2.2.1 x.2.2.2.1 x.2.2.2.2), (5, .pointer (some ⟨b5, 0, none⟩)), (6, .pointer (some ⟨b6, 0, none⟩)), (16, .slice a3 k3 c3), (17, .int .i64 lev.length), (18, .int .i64 (q : Int)), (35, .slice w1 x1 y1), (36, .int .i64 T[n].words.length), (37, .int .i64 (x.1 : Int))]) (fun _ => _) (fun x => fEn x.2.1 x.2.2.1 x.2.2.2.1 x.2.2.2.2 :: _) (fun x => T[n].words.length - x.1) (0, out, (a9, k9, c9)) ⟨Nat.zero_le _, by simp only [innX, innerN, ite_self], hlo⟩ srA (Gj (mem1 memA (fun x hx => hx))) ?_
   rintro ⟨j, ou, ⟨a8, k8, c8⟩⟩ ⟨hj, hou, hlu⟩
   simp only at hj hou hlu ⊢
   refine qs 2 ?_
   refine Ga (Gu HV HV HV (fun c38 => ?_) (fun c38 => ?_))
   ·refine qs 11 ?_
    have hjl : j < T[n].words.length := by omega
    have hof := hlu.few
    refine Ga (Gd HV HV HV HV (enc := eS) (lst := T[n].words) memA hjl (fun _ _ => ?_))
    refine Ga (Gt HV HV ?_)
    intros
    refine qs 9 ?_
    refine Ga (GL HV HV HV (fun c44 => ?_) (fun c44 => ?_))
    ·refine qs 16 ?_
     exact Gi (j + 1, ou, (a8, k8, c8)) ⟨by simp only; omega, by simp only; rw [innX_no c44]; exact hou, hlu⟩ (by simp only; omega) srA (Gj (mem1 memA (fun x hx => by repeat (first | exact hx | refine List.mem_cons_of_mem _ ?_))))
    refine qs 2 ?_
    have hst := struct_of hr hnl c44
    have hw0 : 0 < T[n].words[j].length := List.length_pos_iff.2 (field_ne hst.2 hjl)
    refine Ge HV HV (HB HV HV HV HV hw0 ?_)
    have hjk : j < T[n].kids.length := by omega
    have hkj := hkin _ (List.getElem_mem hjk)
    obtain ⟨y, hy⟩ : ∃ y : Nat, T[n].kids[j] = (y : Int) := ⟨T[n].kids[j].toNat, by omega⟩
    have hyl : y < T.length := by omega
    refine Ge HV HV (GL HV HV HV (fun c48 => ?_) (fun c48 => ?_))
    ·refine qs 12 ?_
     exact Gi (j + 1, ou, (a8, k8, c8)) ⟨by simp only; omega, by simp only; rw [innX_skip c44 hjl (fun e => c48 ((plus_ne hw0).1 e))]; exact hou, hlu⟩ (by simp only; omega) srA (Gj (mem1 memA (fun x hx => by repeat (first | exact hx | refine List.mem_cons_of_mem _ ?_))))
    refine qs 7 ?_
    refine AC.cut (fun (x : Nat × Option Addr × Nat × Nat) ρ => (9, .pointer (some ⟨x.1, 0, none⟩)) :: ρ) (fun x L => Res.cells x.1 #[.int .i64 (y : Int), .bool lev[q].via, .bool lev[q].many, .slice x.2.1 x.2.2.1 x.2.2.2] 186 :: L) (fun x F => fI (lev[q].path ++ [(j : Int)]) x.2.1 x.2.2.1 x.2.2.2 :: F) ?_ (fun key => ?_)
    ·rintro ⟨b9, a62, k62, c62⟩
     refine qs 8 ?_
     refine Ga (Gd (k := y) HV HV HV HV (show fL T _ _ _ ∈ _ from memA) hyl (fun _ _ => ?_))
     refine Ga (GJ HV HV ?_)
     intro a70 k70 z70 d70 e70 f70
     refine Ga (Gl HV (fun b10 => ?_))
     refine qs 8 ?_
     refine Ga (Gr HV HV HV (fun c73 => ?_) (fun c73 => ?_))
     ·refine qs 7 ?_
      have hk1 := ptr_of hr hyl c73
      have hk0 : 0 < T[y].kids.length := by omega
      refine Ga (Gd (k := 0) HV HV HV HV (show fK T[y] _ _ _ ∈ _ from memA) hk0 (fun _ _ => ?_))
      refine Ga (Gt HV HV ?_)
      intros
      refine qs 14 ?_
      have hx := ent_ptr (e := lev[q]) hjk hy hyl c73 hk0
      have hxk := entE_ok hr (e := lev[q]) hpt hjk hkin
      rw [hx] at hxk
      refine Ga (Gf HV HV (saddR_c ou HY seen ⟨T[y].kids[0], true, lev[q].many, lev[q].path ++ [(j : Int)]⟩ memA memA memA (fun a84 k84 c84 => ?_)))
      refine qs 8 ?_
      exact Gi (j + 1, addE ou seen _, (a84, k84, c84)) ⟨by simp only; omega, by simp only; rw [innX_yes c44 hjl ((plus_ne hw0).2 c48) hx, ← hou], addE_ok hlu hxk⟩ (by simp only; omega) srA (Sub.drop.trans (Sub.drop.trans (Gj (mem1 memA (fun x hx => by repeat (first | exact hx | refine List.mem_cons_of_mem _ ?_))))))
     refine qs 10 ?_
     have hx := ent_not (e := lev[q]) hjk hy hyl c73
     have hxk := entE_ok hr (e := lev[q]) hpt hjk hkin
     rw [hx] at hxk
     refine Ga (Gf HV HV (saddR_c ou HY seen ⟨(y : Int), lev[q].via, lev[q].many, lev[q].path ++ [(j : Int)]⟩ memA memA memA (fun a84 k84 c84 => ?_)))
     refine qs 8 ?_
     exact Gi (j + 1, addE ou seen _, (a84, k84, c84)) ⟨by simp only; omega, by simp only; rw [innX_yes c44 hjl ((plus_ne hw0).2 c48) hx, ← hou], addE_ok hlu hxk⟩ (by simp only; omega) srA (Sub.drop.trans (Sub.drop.trans (Gj (mem1 memA (fun x hx => by repeat (first | exact hx | refine List.mem_cons_of_mem _ ?_))))))
    refine GP (fun i => Nat.beq i 15) [(b6, _, _), (b5, _, _)] bxA HV (fun hx hX => ?_)
    have hkk := (Gs (hX (fK T[n] w2 x2 y2) memA)).1
    obtain ⟨p2, o2, e2, atq⟩ := Gy (hX (fK T[n] w2 x2 y2) memA) hjk
    subst e2
    obtain ⟨vq, hvq, hcq⟩ := atq 0 _ rfl
    cases hcq
    rw [hy] at hvq
    refine qt [0, 1, 2] ?_
    refine GE (i := 3) HV (GC (k := j) HV HV HV HY) HW HV HV ?_
    refine GN (i := 4) HV (Hn HV hvq) HW HW HV HV HV ?_
    refine qt [5, 6, 7, 8, 9, 10, 11] ?_
    refine HI (i := 12) (j := 14) HW HV HV HV HV (fun _ => ?_) (fun _ => ?_)
    ·refine Gf HV HV (rwithp_c lev[q].path (j : Int) HY (show fI lev[q].path _ _ _ ∈ _ from memA) (fun a62 k62 c62 => ?_))
     refine Gk bxA memB ?_
     refine qt [13] ?_
     refine Gm (i := 14) HW HV HV (fun _ => ?_)
     refine Gl HV (fun b9 => ?_)
     refine Gk bxA memB ?_
     refine Gm (i := 15) HW HV HV (fun _ => ?_)
     refine GF HV HV HV HV ?_
     refine Gw HV ?_
     refine Gq HW ?_
     exact HD srA (Gj (mem1 memA (fun x hx => by repeat (first | exact hx | refine List.mem_cons_of_mem _ ?_)))) (key (b9, a62, k62, c62))
    refine Gl HV (fun b9 => ?_)
    refine Gk bxA memB ?_
    refine Gm (i := 12) HW HV HV (fun _ => ?_)
    refine Gf HV HV (rwithp_c lev[q].path (j : Int) HY (show fI lev[q].path _ _ _ ∈ _ from memA) (fun a62 k62 c62 => ?_))
    refine Gk bxA memB ?_
    refine qt [13] ?_
    refine Gm (i := 15) HW HV HV (fun _ => ?_)
    refine GF HV HV HV HV ?_
    refine Gw HV ?_
    refine Gq HW ?_
    exact HD srA (Gj (mem1 memA (fun x hx => by repeat (first | exact hx | refine List.mem_cons_of_mem _ ?_)))) (key (b9, a62, k62, c62))
   refine qs 14 ?_
   obtain rfl : j = T[n].words.length := by omega
   exact Gi (q + 1, ou, (a8, k8, c8)) ⟨by simp only; omega, by simp only; rw [outer_x hqw hql hn hnl, ← hout]; exact hou⟩ (by simp only; omega) srA (Sub.drop.trans (Sub.drop.trans (Gj (mem1 memA (fun x hx => by repeat (first | exact hx | refine List.mem_cons_of_mem _ ?_))))))
  refine qs 11 ?_
  obtain rfl : q = lev.length := by omega
  have hnx : nextL T lev ws seen = out := hout.symm
  have hlo : levP T (p + 1) out := hout ▸ nextL_ok (seen := seen) hr hl hlen hws
  have hof := hlo.few
  rw [hnx] at h
  refine Ga (GZ HV (fun b87 => ?_))
  refine GD (Hv (i := 0) (k := 0) (sz := 1) (enc := eI) [] HV .nil (fun _ => rfl) HV (by decide)) ?_
  refine qs 8 ?_
  refine Ga (GT (i := 0) (enc := eI) (lst := []) (lst2 := seen) HV HV HV HV memA (fun x d hd v hv => Hk hd hv) (fun _ => rfl) (by simp only [List.length_nil]; omega) (by simp only [List.length_nil]; omega) (fun a91 k91 c91 => ?_))
  rw [List.nil_append]
  refine qs 7 ?_
  refine Ga (Gn HV HV (fun hl93 => ?_) (enc := eEn) (lst := out) (hm := (show fEn out a9 k9 c9 ∈ _ from memA)))
  refine qs 4 ?_
  refine Gz (fun (x : Nat × (Option Addr × Nat × Nat)) => x.1 ≤ out.length) (fun x => [(1, .pointer (some ⟨b1, 0, none⟩)), (2, .pointer (some ⟨b2, 0, none⟩)), (3, .slice a9 k9 c9), (11, .slice x.2.1 x.2.2.1 x.2.2.2), (92, .slice a9 k9 c9), (93, .int .i64 out.length), (94, .int .i64 (x.1 : Int))]) (fun x => Res.own (.slice x.2.1 x.2.2.1 x.2.2.2) 3 1 ((seen ++ typs (out.take x.1)).map eI) :: _) (fun _ => _) (fun x => out.length - x.1) (0, (a91, k91, c91)) (Nat.zero_le _) srA (Hi (by simp only [List.take_zero, typs, List.map_nil, List.append_nil] <;> rfl)) ?_
  rintro ⟨v, ⟨a7, k7, c7⟩⟩ hv
  simp only at hv ⊢
  refine qs 2 ?_
  refine Ga (Gu HV HV HV (fun c95 => ?_) (fun c95 => ?_))
  ·refine qs 10 ?_
   have hvl : v < out.length := by omega
   have htl : (seen ++ typs (out.take v)).length = seen.length + v := by rw [List.length_append]; unfold typs; rw [List.length_map, List.length_take]; omega
   refine Ga (Gd HV HV HV HV (enc := eEn) (lst := out) (show fEn out a9 k9 c9 ∈ _ from memA) hvl (fun _ _ => ?_))
   refine Ga (GJ HV HV ?_)
   intro a97 k97 z97
   refine Ga (Gl HV (fun b13 => ?_))
   refine qs 7 ?_
   refine Ga (Gg HV HV HV HV HV (fun b101 => ?_))
   refine Ga (GB (i := 1) (enc := eI) (lst := seen ++ typs (out.take v)) [out[v].typ] HV HV HV HV (.val .nil) HV HV (fun _ => rfl) HY HY (fun a102 k102 c102 => ?_))
   rw [List.append_assoc, ← typs_take hvl]
   refine qs 8 ?_
   exact Gi (v + 1, (a102, k102, c102)) (by simp only; omega) (by simp only; omega) srA (Sub.drop.trans subF)
  refine qs 12 ?_
  obtain rfl : v = out.length := by omega
  rw [List.take_length]
  refine GD (Gv (i := 0) HV) ?_
  refine Ga (HG HV HV ?_)
  refine qs 3 ?_
  refine Ga (Gf HV HV (rlook_c T N hu out (p + 1) hlo (a5 := a7) (k5 := k7) (c5 := c7) (show fL T a k c ∈ _ from memA) (show fN N a2 k2 c2 ∈ _ from memA) (show fEn out a9 k9 c9 ∈ _ from memA) memA (fun e he hx => ?_) (fun o ws1 a109 k109 c109 a110 k110 c110 hx => ?_)))
  ·refine qs 4 ?_
   exact Gx (rs := [.cell 2 _]) (L' := L) (F' := fL [] none 0 0 :: fEn [] none 0 0 :: fWh [] none 0 0 :: fI [] none 0 0 :: F) Tryz.results69 (.agg (j := 1) rfl rfl rfl .nil) (Sub.drop.trans (Sub.drop.trans (Sub.drop.trans (Gj (mem2 memA memA (mem2 memA memA (fun x hx => by repeat (first | exact hx | refine List.mem_cons_of_mem _ ?_)))))))) (h [] [] [] [] none 0 0 none 0 0 none 0 0 none 0 0 none 0 0 e (.inl ⟨he, docL_err hx⟩) (fun e0 => absurd e0 he))
  refine qs 4 ?_
  exact Gx (rs := [.cell 2 _]) (L' := L) (F' := fL o a109 k109 c109 :: fEn out a9 k9 c9 :: fWh ws1 a110 k110 c110 :: fI (seen ++ typs out) a7 k7 c7 :: F) Tryz.results69 (.agg (j := 1) rfl rfl rfl .nil) (Sub.drop.trans (Sub.drop.trans (Sub.drop.trans (Gj (mem2 memA memA (mem2 memA memA (fun x hx => by repeat (first | exact hx | refine List.mem_cons_of_mem _ ?_)))))))) (h o out ws1 (seen ++ typs out) a109 k109 c109 a2 k2 c2 a9 k9 c9 a110 k110 c110 a7 k7 c7 0 (.inr ⟨rfl, docL_ok hx⟩) (fun _ => ⟨rfl, rfl, rfl⟩))
end
end Go.Sy
