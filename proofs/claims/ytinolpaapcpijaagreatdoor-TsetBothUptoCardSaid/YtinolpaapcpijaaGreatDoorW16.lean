/- Joined of my own texts: SubD, SubF, TyK, SubG, SubS, UnP, SubI, SubL, SubW, UnL, TbA, UnA, UnB, UnC, UnD, SubJ. -/
import Derived.Test.YtinolpaapcpijaaGreatDoorW15
namespace Go.Sy
open Go Go.Proofs Go.RowKit
abbrev eTm (x : Tm) : List D := [.val (S x.1), .val (.int .i64 x.2)]
def oddK (l : List Ty) (k : Int) : Prop := kindAt l k = 7 ∨ kindAt l k = 9 ∨ (14 ≤ k ∧ k ≤ 19)
theorem zips_len {t : Ty} (h : t.words.length = t.kids.length) : (zips t).length = t.words.length := by unfold zips; rw [List.length_zip]; omega
theorem zips_get {t : Ty} {q : Nat} (hq : q < t.words.length) (hk : q < t.kids.length) (hz : q < (zips t).length) : (zips t)[q] = (t.words[q], t.kids[q]) := by simp [zips]
theorem decl_yes {zs : List Tm} {q : Nat} (hq : q < zs.length) (h : ¬ markP zs[q].1) : declsR (zs.take q) ++ [zs[q]] = declsR (zs.take (q + 1)) := by
  rw [List.take_succ_eq_append_getElem hq, declsR_snoc, if_neg h]
theorem decl_no {zs : List Tm} {q : Nat} (hq : q < zs.length) (h : markP zs[q].1) : declsR (zs.take q) = declsR (zs.take (q + 1)) := by
  rw [List.take_succ_eq_append_getElem hq, declsR_snoc, if_pos h]
theorem term_no {zs : List Tm} {q : Nat} (hq : q < zs.length) (h : ¬ markP zs[q].1) : termsA (zs.take q) = termsA (zs.take (q + 1)) := by
  rw [List.take_succ_eq_append_getElem hq, termsA_snoc, if_neg h]
theorem term_yes {zs : List Tm} {q : Nat} (hq : q < zs.length) (h : markP zs[q].1) : addTm (termsA (zs.take q)) zs[q] = termsA (zs.take (q + 1)) := by
  rw [List.take_succ_eq_append_getElem hq, termsA_snoc, if_pos h]
theorem addTm_none {a : List Tm} {z : Tm} (h : a.findIdx? (·.2 == z.2) = none) : a ++ [z] = addTm a z := by unfold addTm; rw [h]
theorem addTm_set {a : List Tm} {z : Tm} {k : Nat} (h : a.findIdx? (·.2 == z.2) = some k) (hz : z.1 = [126]) : a.set k z = addTm a z := by unfold addTm; rw [h]; simp only; rw [if_pos hz]
theorem addTm_stay {a : List Tm} {z : Tm} {k : Nat} (h : a.findIdx? (·.2 == z.2) = some k) (hz : z.1 ≠ [126]) : a = addTm a z := by unfold addTm; rw [h]; simp only; rw [if_neg hz]
theorem declsR_len (zs : List Tm) : (declsR zs).length ≤ zs.length := by unfold declsR; exact List.length_filter_le ..
theorem termsA_len (zs : List Tm) : (termsA zs).length ≤ zs.length := by
  refine snocInd (P := fun zs => (termsA zs).length ≤ zs.length) (by simp [termsA]) ?_ zs
  intro zs z ih
  rw [termsA_snoc, List.length_append]
  split
  · unfold addTm
    split
    · rw [List.length_append]; simp only [List.length_cons, List.length_nil]; omega
    split
    · rw [List.length_set]; simp only [List.length_cons, List.length_nil]; omega
    simp only [List.length_cons, List.length_nil]; omega
  simp only [List.length_cons, List.length_nil]; omega
theorem odd_not {l : List Ty} {t : Ty} (h : ∀ z ∈ zips t, markP z.1 → ¬ oddK l z.2) : ¬ oddP l t := fun ⟨z, hz, hm, ho⟩ => h z hz hm ho
theorem odd_step {l : List Ty} {zs : List Tm} {q : Nat} (hq : q < zs.length) (h : ∀ z ∈ zs.take q, markP z.1 → ¬ oddK l z.2) (h2 : markP zs[q].1 → ¬ oddK l zs[q].2) : ∀ z ∈ zs.take (q + 1), markP z.1 → ¬ oddK l z.2 := by
  intro z hz
  rw [List.take_succ_eq_append_getElem hq] at hz
  rcases List.mem_append.1 hz with k | k
  · exact h z k
  have : z = zs[q] := by simpa using k
  rw [this]; exact h2
abbrev Fm := List UInt8 × Fin 1048576
def encF (x : Fm) : List Value := [S x.1, .int .i64 ((x.2.val : Nat) : Int)]
def toF (x : Tm) : Fm := (x.1, ⟨x.2.toNat % 1048576, Nat.mod_lt _ (by decide)⟩)
def ofF (x : Fm) : Tm := (x.1, ((x.2.val : Nat) : Int))
def cfF (x y : Fm) : Int := ((x.2.val : Nat) : Int) - ((y.2.val : Nat) : Int)
theorem ltF (x y : Fm) : ltOf cfF x y = decide (x.2.val < y.2.val) := by
  unfold ltOf cfF
  rw [decide_eq_decide]; omega
theorem swoF : Go.Sort.SWO (ltOf cfF) where
  irrefl x := by rw [ltF]; simp
  trans x y z h1 h2 := by rw [ltF] at *; simp at *; omega
  ntrans x y z h1 h2 := by rw [ltF] at *; simp at *; omega
theorem of_to {x : Tm} (h : 0 ≤ x.2 ∧ x.2 < 1048576) : ofF (toF x) = x := by
  refine Prod.ext HU ?_
  show (((x.2.toNat % 1048576 : Nat)) : Int) = x.2
  omega
theorem rowF (x : Fm) : (encF x).map D.val = eTm (ofF x) := rfl
theorem rowsF {a : List Tm} (h : ∀ x ∈ a, 0 ≤ x.2 ∧ x.2 < 1048576) : (a.map toF).map (fun x => (encF x).map D.val) = a.map eTm := by
  rw [List.map_map]
  refine List.map_congr_left fun x hx => ?_
  show (encF (toF x)).map D.val = _
  rw [rowF, of_to (h x hx)]
theorem sortedF {a : List Tm} (h : ∀ x ∈ a, 0 ≤ x.2 ∧ x.2 < 1048576) {l2 : List Fm} (hp : l2.Perm (a.map toF)) (hs : l2.Pairwise fun x y => ltOf cfF y x = false) : (l2.map ofF).Perm a ∧ (l2.map ofF).Pairwise fun x y => x.2 ≤ y.2 := by
  constructor
  · have := hp.map ofF
    rw [List.map_map] at this
    have e : a.map (ofF ∘ toF) = a := by
      conv => rhs; rw [← List.map_id a]
      exact List.map_congr_left fun x hx => of_to (h x hx)
    rwa [e] at this
  rw [List.pairwise_map]
  refine hs.imp fun {x y} hxy => ?_
  rw [ltF] at hxy
  have := of_decide_eq_false hxy
  show ((x.2.val : Nat) : Int) ≤ ((y.2.val : Nat) : Int)
  omega
open Go.Sort in
theorem closeF (x y : Fm) (W : World) : Calls Tryz.prog 213 #[.agg (encF x).toArray, .agg (encF y).toArray] W fun e w' => e = .returned (.int .i64 (cfF x y)) ∧ ∃ q os', w' = Go.Sort.grow (W.drewN q) os' := by
  unfold encF cfF
  have hx := x.2.isLt
  have hy := y.2.isLt
  generalize x.2.val = i at *
  generalize y.2.val = j at *
  have hw : IntKind.i64.wrap ((i : Int) - (j : Int)) = (i : Int) - (j : Int) := wrap_i64 HW HW
  go_enter Tryz.func213, Tryz.ntmps213
  go_wp2
  go_ret
  exact ⟨rfl, 0, _, by rw [alloc_eq_grow, alloc_eq_grow, grow_grow]; rfl⟩
end Go.Sy
namespace Go.Sy
open Go Go.Proofs Go.RowKit
theorem eS_one {x : List UInt8} {d : D} (hd : d ∈ eS x) {v : Value} (hv : d = .val v) : oneC v = true := by
  subst hv; simp at hd; subst hd; rfl
theorem eI_one {x : Int} {d : D} (hd : d ∈ eI x) {v : Value} (hv : d = .val v) : oneC v = true := by
  subst hv; simp at hd; subst hd; rfl
theorem eTm_get {a : List Tm} {k : Nat} (hk : k < a.length) : (a.map eTm)[k]? = some ([S a[k].1, .int .i64 a[k].2].map D.val) := by
  rw [List.getElem?_map, List.getElem?_eq_getElem hk]; rfl
theorem eTm_set {a : List Tm} {k : Nat} (hk : k < a.length) {z : Tm} (hz : a[k].2 = z.2) : (a.map eTm).set k (([S a[k].1, .int .i64 a[k].2].map D.val).set 0 (.val (S z.1))) = (a.set k z).map eTm := by
  rw [List.map_set]; congr 1; rw [hz]; rfl
theorem idx_first {a : List Tm} {k : Int} {q : Nat} (hq : q < a.length) (h : a[q].2 = k) (hn : ∀ j (hj : j < a.length), j < q → a[j].2 ≠ k) : a.findIdx? (·.2 == k) = some q := by
  rw [List.findIdx?_eq_some_iff_getElem]
  exact ⟨hq, by simp [h], fun j hj => by have := hn j HW hj; simp [this]⟩
theorem idx_no {a : List Tm} {k : Int} (hn : ∀ j (hj : j < a.length), a[j].2 ≠ k) : a.findIdx? (·.2 == k) = none := by
  rw [List.findIdx?_eq_none_iff]
  intro x hx
  obtain ⟨j, hj, rfl⟩ := List.getElem_of_mem hx
  simp [hn j hj]
attribute [local irreducible] AC AT AO AK AH ACalls Sub Res.cells Res.obj Res.nix Res.own Res.map Exit.then Exit.inBlock bodyPost Code.wp Code.wpIn WL Next Post Kont
section
variable {W0 : World} {L : List Res} {F : List Fact} {R : Value → List Res → List Fact → Prop}
set_option maxRecDepth 100000
set_option maxHeartbeats 8000000
theorem sortTm_c (a : List Tm) (ha : ∀ x ∈ a, 0 ≤ x.2 ∧ x.2 < 1048576) (hl : a.length ≤ 1000) {i : Nat} {v : Value} {e : TypeId} (hi : L[i]? = some (Res.own v e 2 (a.map eTm)))
    (h : ∀ b : List Tm, b.Perm a → b.Pairwise (fun x y => x.2 ≤ y.2) → R (.tuple #[]) (L.set i (Res.own v e 2 (b.map eTm))) F) : ACalls Tryz.prog W0 212 #[v, .func (.func 213) #[] #[]] L F R := by
  have eg : ∀ args w, (callFunc 213 args).run Tryz.prog w = .ok (.enter 213 args) w := enters_of Tryz.func213 HV rfl
  refine ACalls.sortK (k := 2) encF (by decide) (fun _ => rfl) (ltOf cfF) (fun blk cap d w hH hblk hsz => ?_) (fun w => ?_) (a.map toF) (by rw [List.length_map]; omega) (by rw [rowsF ha]; exact hi) (fun l2 hp hs => ?_)
  · exact AnyQ.slices_SortFunc Tryz.sortTerm 2 Tryz.isAgg266 Tryz.sizeOf266 encF (fun _ => rfl) (fun x v hv => by unfold encF at hv; simp at hv; rcases hv with rfl | rfl <;> rfl) cfF swoF 213 #[] blk 0 cap d w eg (fun m os dk _ x y => by have := closeF x y (sortWorldK encF 2 w blk 0 m dk os); simpa using this) hH hblk hsz
  · exact AnyF.slices_SortFunc_none Tryz.sortTerm none 0 _ w
  obtain ⟨h1, h2⟩ := sortedF ha hp hs
  have e1 : l2.map (fun x => (encF x).map D.val) = (l2.map ofF).map eTm := by rw [List.map_map]; rfl
  rw [e1]
  exact h _ h1 h2
theorem mark_c (s : List UInt8) (hT : markP s → R (.bool true) L F) (hF : ¬ markP s → R (.bool false) L F) : ACalls Tryz.prog W0 209 #[S s] L F R := by
  refine Ge Tryz.func209 HU Tryz.ntmps209 HU ?_
  refine qs 8 ?_
  refine Ga (Hu HU HU HU (fun c4 => ?_) (fun c4 => ?_))
  ·refine qs 8 ?_
   first | exact Gb Tryz.results209 rfl (Gk _ _) (hT (Or.inl c4)) | exact Gb Tryz.results209 rfl (Gk _ _) (hT (Or.inr c7)) | exact Gb Tryz.results209 rfl (Gk _ _) (hF (fun e => e.elim c4 c7))
  refine qs 2 ?_
  refine Gh HU HU (Hu HU HU HU (fun c7 => ?_) (fun c7 => ?_))
  ·refine qs 5 ?_
   first | exact Gb Tryz.results209 rfl (Gk _ _) (hT (Or.inl c4)) | exact Gb Tryz.results209 rfl (Gk _ _) (hT (Or.inr c7)) | exact Gb Tryz.results209 rfl (Gk _ _) (hF (fun e => e.elim c4 c7))
  refine qs 5 ?_
  first | exact Gb Tryz.results209 rfl (Gk _ _) (hT (Or.inl c4)) | exact Gb Tryz.results209 rfl (Gk _ _) (hT (Or.inr c7)) | exact Gb Tryz.results209 rfl (Gk _ _) (hF (fun e => e.elim c4 c7))
theorem term1_c (x : Tm) (kid : Int) {b j : Nat} {e : TypeId} (hj : L[j]? = some (Res.cells b #[.int .i64 kid] e)) (hT : x.2 = kid → R (.bool true) L F) (hF : x.2 ≠ kid → R (.bool false) L F) : ACalls Tryz.prog W0 211 #[.agg #[S x.1, .int .i64 x.2], .pointer (some ⟨b, 0, none⟩)] L F R := by
  refine Ge Tryz.func211 HU Tryz.ntmps211 HU ?_
  refine qs 2 ?_
  refine Ga (GJ HU HU (fun b2 => ?_))
  refine qs 7 ?_
  refine Ga (Gw (cs := [.int .i64 kid]) HU HU ?_ (i := j + 1) (hi := hj) (hv := HU))
  refine Ga (GC HU HU HU (fun c7 => ?_) (fun c7 => ?_))
  ·refine qs 4 ?_
   first | exact Gb (L' := L) (F' := F) Tryz.results211 rfl Gn (hT c7) | exact Gb (L' := L) (F' := F) Tryz.results211 rfl Gn (hF c7)
  refine qs 4 ?_
  first | exact Gb (L' := L) (F' := F) Tryz.results211 rfl Gn (hT c7) | exact Gb (L' := L) (F' := F) Tryz.results211 rfl Gn (hF c7)
theorem idxTm_c (a : List Tm) (hl : a.length ≤ 1000) (kid : Int) {b i j : Nat} {e : TypeId} {a0 : Option Addr} {k0 c0 : Nat} (hi : L[i]? = some (Res.own (.slice a0 k0 c0) 266 2 (a.map eTm))) (hj : L[j]? = some (Res.cells b #[.int .i64 kid] e))
    (hF : a.findIdx? (·.2 == kid) = none → R (.int .i64 (-1)) L F) (hT : ∀ k : Nat, a.findIdx? (·.2 == kid) = some k → R (.int .i64 (k : Int)) L F) : ACalls Tryz.prog W0 210 #[.slice a0 k0 c0, .func (.func 211) #[] #[.pointer (some ⟨b, 0, none⟩)]] L F R := by
  refine Ge Tryz.func210 HU Tryz.ntmps210 HU ?_
  refine qs 9 ?_
  refine Ga (AO.lenO (i := i) HU HU hi (fun hk7 => ?_))
  rw [List.length_map]
  refine qs 4 ?_
  refine AC.loopC (fun (q : Nat) => q ≤ a.length ∧ ∀ j (hj : j < a.length), j < q → a[j].2 ≠ kid) (fun q => [(0, .slice a0 k0 c0), (1, .func (.func 211) #[] #[.pointer (some ⟨b, 0, none⟩)]), (7, .int .i64 a.length), (8, .int .i64 (q : Int))]) (fun q => a.length - q) 0 ⟨by omega, by omega⟩ srA ?_
  rintro q ⟨hq, hok⟩
  refine qs 2 ?_
  refine Ga (GB HU HU HU (fun c9 => ?_) (fun c9 => ?_))
  ·refine qs 19 ?_
   have hql : q < a.length := by omega
   refine Ga (Hc (i := i) (q := q) HU HU HU HU hi (by rw [List.length_map]; exact hql) (fun bo ho => ?_))
   subst ho
   refine Ga (AO.loadOA (i := i) (q := q) (vs := [S a[q].1, .int .i64 a[q].2]) HU HU HU hi (eTm_get hql) HU ?_)
   refine Ga (AO.callC (cs := [.pointer (some ⟨b, 0, none⟩)]) HU HU HU (term1_c a[q] kid hj (fun c16 => ?_) (fun c16 => ?_)))
   ·refine qs 15 ?_
    first | exact Gb (L' := L) (F' := F) Tryz.results210 rfl subF (hT q (idx_first hql c16 hok)) | exact Gb (L' := L) (F' := F) Tryz.results210 rfl subF (hF (idx_no (fun j hj => hok j hj HW)))
   refine qs 10 ?_
   refine Gl (q + 1) ⟨by omega, fun j hj hjq => ?_⟩ HW srA subF
   rcases Nat.lt_succ_iff_lt_or_eq.1 hjq with k9 | rfl
   · exact hok j hj k9
   exact c16
  refine qs 15 ?_
  first | exact Gb (L' := L) (F' := F) Tryz.results210 rfl subF (hT q (idx_first hql c16 hok)) | exact Gb (L' := L) (F' := F) Tryz.results210 rfl subF (hF (idx_no (fun j hj => hok j hj HW)))
end
end Go.Sy
namespace Go.Sy
abbrev GY := @eI_one
abbrev Hx := @eS_one
abbrev HN := @zips_get
abbrev HO := @odd_step
abbrev HP := @decl_yes
end Go.Sy
namespace Go.Sy
open Go Go.Proofs Go.RowKit
theorem fst_snoc {A : List Tm} {z : Tm} : (A.map (·.1)) ++ [z.1] = (A ++ [z]).map (·.1) := by simp
theorem snd_snoc {A : List Tm} {z : Tm} : (A.map (·.2)) ++ [z.2] = (A ++ [z]).map (·.2) := by simp
theorem take_snoc {α : Type} {A B : List α} {u : Nat} (hu : u < B.length) : (A ++ B.take u) ++ [B[u]] = A ++ B.take (u + 1) := by
  rw [List.append_assoc, ← List.take_succ_eq_append_getElem hu]
theorem termsA_in {B : Int} {zs : List Tm} (h : ∀ z ∈ zs, 0 ≤ z.2 ∧ z.2 < B) : ∀ x ∈ termsA zs, 0 ≤ x.2 ∧ x.2 < B := by
  intro x hx
  obtain ⟨h1, h2⟩ := ((termsA_is zs).2 x).1 hx
  obtain ⟨z, hz, _, e⟩ := markOf_kid zs x.2 (by rw [← h1]; exact h2)
  rw [← e]; exact h z hz
theorem zips_in {t : Ty} {B : Int} (h : ∀ k ∈ t.kids, 0 ≤ k ∧ k < B) : ∀ z ∈ zips t, 0 ≤ z.2 ∧ z.2 < B := fun _ hz => h _ (List.of_mem_zip hz).2
attribute [local irreducible] AC AT AO AK AH ACalls Sub Res.cells Res.obj Res.nix Res.own Res.map Exit.then Exit.inBlock bodyPost Code.wp Code.wpIn WL Next Post Kont
section
variable {W0 : World} {L : List Res} {F : List Fact} {R : Value → List Res → List Fact → Prop}
set_option maxRecDepth 100000
set_option maxHeartbeats 8000000
theorem terms_c (l : List Ty) (h400 : l.length ≤ 400) (t : Ty) (hkl : t.kids.length ≤ 20) (hk : ∀ k ∈ t.kids, 0 ≤ k ∧ k < l.length) (hwk : t.words.length = t.kids.length) (hname : t.name = []) {a a1 a2 : Option Addr} {k c k1 c1 k2 c2 : Nat} (mL : fL l a k c ∈ F) (m1 : fW t a1 k1 c1 ∈ F) (m2 : fK t a2 k2 c2 ∈ F)
    (hT : oddP l t → R (.tuple #[vTy (basicT []) none 0 0 none 0 0, .bool false]) L F)
    (hF : ¬ oddP l t → ∀ a1 k1 c1 a2 k2 c2, R (.tuple #[vTy (termsT l.length t) a1 k1 c1 a2 k2 c2, .bool true]) L (fW (termsT l.length t) a1 k1 c1 :: fK (termsT l.length t) a2 k2 c2 :: F)) : ACalls Tryz.prog W0 176 #[.slice a k c, vTy t a1 k1 c1 a2 k2 c2] L F R := by
  have hml : 1000000 ≤ maxLen := by decide
  have hzl := zips_len hwk
  have hzin := zips_in hk
  refine Ge Tryz.func176 HU Tryz.ntmps176 HU ?_
  refine qs 2 ?_
  refine Ga (GJ HU HU (fun b3 => (Ga (Gq HU (fun b4 => ?_)))))
  refine qs 6 ?_
  refine Ga (Gq HU (fun b6 => ?_))
  refine qs 19 ?_
  refine Ga (AO.field HU HU ?_)
  refine Gz ((Ha (e := 9) (sz := 1)).trans ((Ha (e := 3) (sz := 1)).trans (Ha (e := 266) (sz := 2)))) ?_
  refine qs 1 ?_
  refine Ga (Gv HU HU (fun hl20 => ?_) (hm := by repeat (first | exact mem0 | assumption | refine memS ?_)))
  refine qs 4 ?_
  refine GN (fun (x : Nat × (Option Addr × Nat × Nat) × (Option Addr × Nat × Nat) × (Option Addr × Nat × Nat)) => x.1 ≤ t.words.length ∧ ∀ z ∈ (zips t).take x.1, markP z.1 → ¬ oddK l z.2) (fun x => [(0, .slice a k c), (3, .pointer (some ⟨b3, 0, none⟩)), (4, .pointer (some ⟨b4, 0, none⟩)), (6, .pointer (some ⟨b6, 0, none⟩)), (7, .slice x.2.2.2.1 x.2.2.2.2.1 x.2.2.2.2.2), (19, .slice a1 k1 c1), (20, .int .i64 t.words.length), (21, .int .i64 (x.1 : Int))]) (fun x => Res.own (.slice x.2.2.2.1 x.2.2.2.2.1 x.2.2.2.2.2) 266 2 ((termsA ((zips t).take x.1)).map eTm) :: Res.own (.slice x.2.2.1.1 x.2.2.1.2.1 x.2.2.1.2.2) 3 1 (((declsR ((zips t).take x.1)).map (·.2)).map eI) :: Res.own (.slice x.2.1.1 x.2.1.2.1 x.2.1.2.2) 9 1 (((declsR ((zips t).take x.1)).map (·.1)).map eS) :: Res.cells b6 #[.int .i64 t.kind, S t.name, .int .i64 t.n, .slice x.2.1.1 x.2.1.2.1 x.2.1.2.2, .slice x.2.2.1.1 x.2.2.1.2.1 x.2.2.1.2.2] 29 :: _) (fun _ => F) (fun x => t.words.length - x.1) (0, (none, 0, 0), (none, 0, 0), (none, 0, 0)) ⟨Nat.zero_le _, fun z hz => by simp at hz⟩ srA (Gk _ _) ?_
  rintro ⟨q, ⟨aW, kW, cW⟩, ⟨aK, kK, cK⟩, ⟨aT, kT, cT⟩⟩ ⟨hq, hno⟩
  simp only at hq hno ⊢
  refine qs 2 ?_
  refine Ga (GB HU HU HU (fun c22 => ?_) (fun c22 => ?_))
  ·refine qs 11 ?_
   have hqw : q < t.words.length := by omega
   have hqk : q < t.kids.length := by omega
   have hqz : q < (zips t).length := by omega
   have hz := HN hqw hqk hqz
   have hb := hk _ (List.getElem_mem hqk)
   have hdl := declsR_len ((zips t).take q)
   have htl := termsA_len ((zips t).take q)
   have hzt : ((zips t).take q).length = q := by rw [List.length_take]; omega
   refine Ga (Gj HU HU HU HU (show fW t _ _ _ ∈ _ from memA) hqw (fun _ _ => ?_))
   refine Ga (GE HU HU ?_)
   intros
   refine qs 9 ?_
   refine Ga (Gj HU HU HU HU (show fK t _ _ _ ∈ _ from memA) hqk (fun _ _ => ?_))
   refine Ga (GE HU HU ?_)
   intros
   refine Ga (Gq HU (fun b10 => ?_))
   refine Ga (Gs HU HU HU ?_)
   refine Gz (Hn (L' := Res.cells b10 #[.int .i64 t.kids[q]] 3 :: _) HU) ?_
   refine qs 6 ?_
   refine Ga (Gd HU HU (mark_c t.words[q] (fun c32 => ?_) (fun c32 => ?_)))
   ·refine qs 11 ?_
    have hkn : t.kids[q].toNat < l.length := by omega
    have hkt : kindAt l t.kids[q] = l[t.kids[q].toNat].kind := kind_get HW hkn
    have hym : markP (zips t)[q].1 := by rw [hz]; exact c32
    refine Ga (Gj (k := t.kids[q].toNat) HU HU HU HW (enc := eTy) (lst := l) memA hkn (fun _ _ => ?_))
    refine Ga (HE HU HU (fun _ => ?_))
    refine Ga (GE HU HU ?_)
    intros
    refine qs 6 ?_
    refine Ga (GC HU HU HU (fun c52 => ?_) (fun c52 => ?_))
    ·refine qs 29 ?_
     refine GS (rs := [.cell 4 _, .tmp 5]) (L' := L) (F' := F) Tryz.results176 (.agg (j := 5) HU HU HU (.tmp HU .nil)) subA (hT ⟨(zips t)[q], List.getElem_mem hqz, hym, ?_⟩)
     rw [hz]; simp only; rw [hkt]; omega
    refine qs 2 ?_
    refine Gh HU HU (GC HU HU HU (fun c55 => ?_) (fun c55 => ?_))
    ·refine qs 26 ?_
     refine GS (rs := [.cell 4 _, .tmp 5]) (L' := L) (F' := F) Tryz.results176 (.agg (j := 5) HU HU HU (.tmp HU .nil)) subA (hT ⟨(zips t)[q], List.getElem_mem hqz, hym, ?_⟩)
     rw [hz]; simp only; rw [hkt]; omega
    refine qs 3 ?_
    refine Gh HU HU (Hh HU HU HU (fun c59 => ?_) (fun c59 => ?_))
    ·refine qs 2 ?_
     refine Gh HU HU (AO.leq HU HU HU (fun c62 => ?_) (fun c62 => ?_))
     ·refine qs 19 ?_
      refine GS (rs := [.cell 4 _, .tmp 5]) (L' := L) (F' := F) Tryz.results176 (.agg (j := 5) HU HU HU (.tmp HU .nil)) subA (hT ⟨(zips t)[q], List.getElem_mem hqz, hym, ?_⟩)
      rw [hz]; simp only; rw [hkt]; omega
     refine qs 10 ?_
     refine Ga (Hq HU HU ?_)
     have hodd : ¬ oddK l (zips t)[q].2 := by
      rw [hz]; simp only; unfold oddK; rw [hkt]; omega
     refine Ga (Gd HU HU (idxTm_c (termsA ((zips t).take q)) HW t.kids[q] (i := 1) (j := 0) HU HU (fun c68 => ?_) (fun j68 c68 => ?_)))
     ·refine qs 6 ?_
      refine Ga (GB HU HU HU (fun _ => ?_) (fun c70 => absurd c70 (by decide)))
      refine qs 8 ?_
      refine Ga (Gi HU HU HU HU HU (fun b75 => ?_))
      refine Ga (GZ (i := 1) (enc := eTm) (lst := termsA ((zips t).take q)) [(t.words[q], t.kids[q])] HU HU HU HU (.val (.val .nil)) HU HU (fun _ => rfl) HW HW (fun a76 k76 z76 => ?_))
      refine qs 8 ?_
      have e1 : termsA ((zips t).take q) ++ [(t.words[q], t.kids[q])] = termsA ((zips t).take (q + 1)) := by rw [← term_yes hqz hym, hz]; exact addTm_none c68
      rw [e1, decl_no hqz hym]
      exact Gl (q + 1, (aW, kW, cW), (aK, kK, cK), (a76, k76, z76)) ⟨by simp only; omega, HO hqz hno (fun _ => hodd)⟩ (by simp only; omega) srA (Sub.drop.trans subF)
     refine qs 6 ?_
     refine Ga (GB HU HU HU (fun c70 => absurd c70 HW) (fun _ => ?_))
     refine qs 6 ?_
     refine Ga (Hu HU HU HU (fun c78 => ?_) (fun c78 => ?_))
     ·refine qs 7 ?_
      have hj68 : j68 < (termsA ((zips t).take q)).length := (idx_some c68).1
      refine Ga (Hc (i := 1) (q := j68) HU HU HU HU HU (by rw [List.length_map]; exact hj68) (fun bo ho => ?_))
      subst ho
      refine qs 1 ?_
      refine Ga (AO.storeOR (i := 1) (q := j68) (j := 0) HU HU HU HU HU (eTm_get hj68) (by simp) ?_)
      have e2 : ((termsA ((zips t).take q)).map eTm).set j68 (([S (termsA ((zips t).take q))[j68].1, .int .i64 (termsA ((zips t).take q))[j68].2].map D.val).set 0 (.val (S t.words[q]))) = (termsA ((zips t).take (q + 1))).map eTm := by
       rw [← term_yes hqz hym, hz, ← addTm_set (z := (t.words[q], t.kids[q])) c68 c78]
       exact eTm_set hj68 (z := (t.words[q], t.kids[q])) (idx_some c68).2
      show AT _ _ _ _ (_ :: Res.own (.slice (some ⟨bo, 0, none⟩) kT cT) 266 2 (((termsA ((zips t).take q)).map eTm).set j68 (([S (termsA ((zips t).take q))[j68].1, .int .i64 (termsA ((zips t).take q))[j68].2].map D.val).set 0 (.val (S t.words[q])))) :: _) _
      rw [e2]
      refine qs 7 ?_
      rw [decl_no hqz hym]
      exact Gl (q + 1, (aW, kW, cW), (aK, kK, cK), (some ⟨bo, 0, none⟩, kT, cT)) ⟨by simp only; omega, HO hqz hno (fun _ => hodd)⟩ (by simp only; omega) srA (Sub.drop.trans subF)
     refine qs 10 ?_
     have e3 : termsA ((zips t).take q) = termsA ((zips t).take (q + 1)) := by rw [← term_yes hqz hym, hz]; exact addTm_stay c68 c78
     rw [decl_no hqz hym, e3]
     exact Gl (q + 1, (aW, kW, cW), (aK, kK, cK), (aT, kT, cT)) ⟨by simp only; omega, HO hqz hno (fun _ => hodd)⟩ (by simp only; omega) srA (Sub.drop.trans subF)
    refine qs 13 ?_
    refine Ga (Hq HU HU ?_)
    have hodd : ¬ oddK l (zips t)[q].2 := by
     rw [hz]; simp only; unfold oddK; rw [hkt]; omega
    refine Ga (Gd HU HU (idxTm_c (termsA ((zips t).take q)) HW t.kids[q] (i := 1) (j := 0) HU HU (fun c68 => ?_) (fun j68 c68 => ?_)))
    ·refine qs 6 ?_
     refine Ga (GB HU HU HU (fun _ => ?_) (fun c70 => absurd c70 (by decide)))
     refine qs 8 ?_
     refine Ga (Gi HU HU HU HU HU (fun b75 => ?_))
     refine Ga (GZ (i := 1) (enc := eTm) (lst := termsA ((zips t).take q)) [(t.words[q], t.kids[q])] HU HU HU HU (.val (.val .nil)) HU HU (fun _ => rfl) HW HW (fun a76 k76 z76 => ?_))
     refine qs 8 ?_
     have e1 : termsA ((zips t).take q) ++ [(t.words[q], t.kids[q])] = termsA ((zips t).take (q + 1)) := by rw [← term_yes hqz hym, hz]; exact addTm_none c68
     rw [e1, decl_no hqz hym]
     exact Gl (q + 1, (aW, kW, cW), (aK, kK, cK), (a76, k76, z76)) ⟨by simp only; omega, HO hqz hno (fun _ => hodd)⟩ (by simp only; omega) srA (Sub.drop.trans subF)
    refine qs 6 ?_
    refine Ga (GB HU HU HU (fun c70 => absurd c70 HW) (fun _ => ?_))
    refine qs 6 ?_
    refine Ga (Hu HU HU HU (fun c78 => ?_) (fun c78 => ?_))
    ·refine qs 7 ?_
     have hj68 : j68 < (termsA ((zips t).take q)).length := (idx_some c68).1
     refine Ga (Hc (i := 1) (q := j68) HU HU HU HU HU (by rw [List.length_map]; exact hj68) (fun bo ho => ?_))
     subst ho
     refine qs 1 ?_
     refine Ga (AO.storeOR (i := 1) (q := j68) (j := 0) HU HU HU HU HU (eTm_get hj68) (by simp) ?_)
     have e2 : ((termsA ((zips t).take q)).map eTm).set j68 (([S (termsA ((zips t).take q))[j68].1, .int .i64 (termsA ((zips t).take q))[j68].2].map D.val).set 0 (.val (S t.words[q]))) = (termsA ((zips t).take (q + 1))).map eTm := by
      rw [← term_yes hqz hym, hz, ← addTm_set (z := (t.words[q], t.kids[q])) c68 c78]
      exact eTm_set hj68 (z := (t.words[q], t.kids[q])) (idx_some c68).2
     show AT _ _ _ _ (_ :: Res.own (.slice (some ⟨bo, 0, none⟩) kT cT) 266 2 (((termsA ((zips t).take q)).map eTm).set j68 (([S (termsA ((zips t).take q))[j68].1, .int .i64 (termsA ((zips t).take q))[j68].2].map D.val).set 0 (.val (S t.words[q])))) :: _) _
     rw [e2]
     refine qs 7 ?_
     rw [decl_no hqz hym]
     exact Gl (q + 1, (aW, kW, cW), (aK, kK, cK), (some ⟨bo, 0, none⟩, kT, cT)) ⟨by simp only; omega, HO hqz hno (fun _ => hodd)⟩ (by simp only; omega) srA (Sub.drop.trans subF)
    refine qs 10 ?_
    have e3 : termsA ((zips t).take q) = termsA ((zips t).take (q + 1)) := by rw [← term_yes hqz hym, hz]; exact addTm_stay c68 c78
    rw [decl_no hqz hym, e3]
    exact Gl (q + 1, (aW, kW, cW), (aK, kK, cK), (aT, kT, cT)) ⟨by simp only; omega, HO hqz hno (fun _ => hodd)⟩ (by simp only; omega) srA (Sub.drop.trans subF)
   refine qs 5 ?_
   refine GO (fun i => Nat.beq i 11 || Nat.beq i 13) [(b6, _, _), (b10, _, _)] bxA HU (fun hx hX => ?_)
   refine qt [0, 1, 2, 5, 6] ?_
   refine Hj (i := 3) (j := 7) HV HU HU HU HU (fun _ => ?_) (fun _ => ?_)
   ·refine Gi HU HU HU HU HU (fun b37 => ?_)
    refine Gz ((GP (i := 0) (k := 1) (enc := eS) (sz := 1) [t.words[q]] HU (.val .nil) (fun _ => rfl) HU HW).trans Gn) ?_
    refine Gc bxA memB ?_
    refine Hj (i := 4) (j := 7) HV HU HU HU HU (fun _ => ?_) (fun _ => ?_)
    ·refine Gx (i := 3) (enc := eS) (lst := (declsR ((zips t).take q)).map (·.1)) (lst2 := [t.words[q]]) HU HU HU HU memA (fun x d hd v hv => Hx hd hv) (fun _ => rfl) (by simp only [List.length_map, List.length_cons, List.length_nil]; omega) (by simp only [List.length_map, List.length_cons, List.length_nil]; omega) (fun a38 k38 z38 => ?_)
     simp only [List.set_cons_zero, List.set_cons_succ]
     refine Gc bxA memB ?_
     refine qt [10] ?_
     refine Gf (i := 7) HV HU HU (fun _ => ?_)
     refine Gw (cs := [.int .i64 t.kids[q]]) HU HU ?_
     refine Gc bxA memB ?_
     refine Gf (i := 8) HV HU HU (fun _ => ?_)
     refine Gi HU HU HU HU HU (fun b42 => ?_)
     refine Gz ((GP (i := 0) (k := 1) (enc := eI) (sz := 1) [t.kids[q]] HU (.val .nil) (fun _ => rfl) HU HW).trans Gn) ?_
     refine Gc bxA memB ?_
     refine Gf (i := 9) HV HU HU (fun _ => ?_)
     refine Gx (i := 2) (enc := eI) (lst := (declsR ((zips t).take q)).map (·.2)) (lst2 := [t.kids[q]]) HU HU HU HU memA (fun x d hd v hv => GY hd hv) (fun _ => rfl) (by simp only [List.length_map, List.length_cons, List.length_nil]; omega) (by simp only [List.length_map, List.length_cons, List.length_nil]; omega) (fun a43 k43 z43 => ?_)
     simp only [List.set_cons_zero, List.set_cons_succ]
     refine Gc bxA memB ?_
     refine Gf (i := 11) HV HU HU (fun _ => ?_)
     refine Gs HU HU HU ?_
     refine Gr HU ?_
     refine qt [12] ?_
     refine Gf (i := 13) HV HU HU (fun _ => ?_)
     refine Gs HU HU HU ?_
     refine Gr HU ?_
     refine Gm HV ?_
     refine qs 9 ?_
     have hnm : ¬ markP (zips t)[q].1 := by rw [hz]; exact c32
     have e1 : (declsR ((zips t).take q)).map (·.1) ++ [t.words[q]] = (declsR ((zips t).take (q + 1))).map (·.1) := by rw [← HP hqz hnm, hz]; simp
     have e2 : (declsR ((zips t).take q)).map (·.2) ++ [t.kids[q]] = (declsR ((zips t).take (q + 1))).map (·.2) := by rw [← HP hqz hnm, hz]; simp
     rw [e1, e2, term_no hqz hnm]
     exact Gl (q + 1, (a38, k38, z38), (a43, k43, z43), (aT, kT, cT)) ⟨by simp only; omega, HO hqz hno (fun hm => absurd hm hnm)⟩ (by simp only; omega) srA (Sub.drop.trans subF)
    refine Gw (cs := [.int .i64 t.kids[q]]) HU HU ?_
    refine Gc bxA memB ?_
    refine Hj (i := 4) (j := 8) HV HU HU HU HU (fun _ => ?_) (fun _ => ?_)
    ·refine Gx (i := 3) (enc := eS) (lst := (declsR ((zips t).take q)).map (·.1)) (lst2 := [t.words[q]]) HU HU HU HU memA (fun x d hd v hv => Hx hd hv) (fun _ => rfl) (by simp only [List.length_map, List.length_cons, List.length_nil]; omega) (by simp only [List.length_map, List.length_cons, List.length_nil]; omega) (fun a38 k38 z38 => ?_)
     simp only [List.set_cons_zero, List.set_cons_succ]
     refine Gc bxA memB ?_
     refine qt [10] ?_
     refine Gf (i := 8) HV HU HU (fun _ => ?_)
     refine Gi HU HU HU HU HU (fun b42 => ?_)
     refine Gz ((GP (i := 0) (k := 1) (enc := eI) (sz := 1) [t.kids[q]] HU (.val .nil) (fun _ => rfl) HU HW).trans Gn) ?_
     refine Gc bxA memB ?_
     refine Gf (i := 9) HV HU HU (fun _ => ?_)
     refine Gx (i := 2) (enc := eI) (lst := (declsR ((zips t).take q)).map (·.2)) (lst2 := [t.kids[q]]) HU HU HU HU memA (fun x d hd v hv => GY hd hv) (fun _ => rfl) (by simp only [List.length_map, List.length_cons, List.length_nil]; omega) (by simp only [List.length_map, List.length_cons, List.length_nil]; omega) (fun a43 k43 z43 => ?_)
     simp only [List.set_cons_zero, List.set_cons_succ]
     refine Gc bxA memB ?_
     refine Gf (i := 11) HV HU HU (fun _ => ?_)
     refine Gs HU HU HU ?_
     refine Gr HU ?_
     refine qt [12] ?_
     refine Gf (i := 13) HV HU HU (fun _ => ?_)
     refine Gs HU HU HU ?_
     refine Gr HU ?_
     refine Gm HV ?_
     refine qs 9 ?_
     have hnm : ¬ markP (zips t)[q].1 := by rw [hz]; exact c32
     have e1 : (declsR ((zips t).take q)).map (·.1) ++ [t.words[q]] = (declsR ((zips t).take (q + 1))).map (·.1) := by rw [← HP hqz hnm, hz]; simp
     have e2 : (declsR ((zips t).take q)).map (·.2) ++ [t.kids[q]] = (declsR ((zips t).take (q + 1))).map (·.2) := by rw [← HP hqz hnm, hz]; simp
     rw [e1, e2, term_no hqz hnm]
     exact Gl (q + 1, (a38, k38, z38), (a43, k43, z43), (aT, kT, cT)) ⟨by simp only; omega, HO hqz hno (fun hm => absurd hm hnm)⟩ (by simp only; omega) srA (Sub.drop.trans subF)
    refine Gi HU HU HU HU HU (fun b42 => ?_)
    refine Gz ((GP (i := 0) (k := 1) (enc := eI) (sz := 1) [t.kids[q]] HU (.val .nil) (fun _ => rfl) HU HW).trans Gn) ?_
    refine Gc bxA memB ?_
    refine Gf (i := 4) HV HU HU (fun _ => ?_)
    refine Gx (i := 3) (enc := eS) (lst := (declsR ((zips t).take q)).map (·.1)) (lst2 := [t.words[q]]) HU HU HU HU memA (fun x d hd v hv => Hx hd hv) (fun _ => rfl) (by simp only [List.length_map, List.length_cons, List.length_nil]; omega) (by simp only [List.length_map, List.length_cons, List.length_nil]; omega) (fun a38 k38 z38 => ?_)
    simp only [List.set_cons_zero, List.set_cons_succ]
    refine Gc bxA memB ?_
    refine qt [10] ?_
    refine Gf (i := 9) HV HU HU (fun _ => ?_)
    refine Gx (i := 2) (enc := eI) (lst := (declsR ((zips t).take q)).map (·.2)) (lst2 := [t.kids[q]]) HU HU HU HU memA (fun x d hd v hv => GY hd hv) (fun _ => rfl) (by simp only [List.length_map, List.length_cons, List.length_nil]; omega) (by simp only [List.length_map, List.length_cons, List.length_nil]; omega) (fun a43 k43 z43 => ?_)
    simp only [List.set_cons_zero, List.set_cons_succ]
    refine Gc bxA memB ?_
    refine Gf (i := 11) HV HU HU (fun _ => ?_)
    refine Gs HU HU HU ?_
    refine Gr HU ?_
    refine qt [12] ?_
    refine Gf (i := 13) HV HU HU (fun _ => ?_)
    refine Gs HU HU HU ?_
    refine Gr HU ?_
    refine Gm HV ?_
    refine qs 9 ?_
    have hnm : ¬ markP (zips t)[q].1 := by rw [hz]; exact c32
    have e1 : (declsR ((zips t).take q)).map (·.1) ++ [t.words[q]] = (declsR ((zips t).take (q + 1))).map (·.1) := by rw [← HP hqz hnm, hz]; simp
    have e2 : (declsR ((zips t).take q)).map (·.2) ++ [t.kids[q]] = (declsR ((zips t).take (q + 1))).map (·.2) := by rw [← HP hqz hnm, hz]; simp
    rw [e1, e2, term_no hqz hnm]
    exact Gl (q + 1, (a38, k38, z38), (a43, k43, z43), (aT, kT, cT)) ⟨by simp only; omega, HO hqz hno (fun hm => absurd hm hnm)⟩ (by simp only; omega) srA (Sub.drop.trans subF)
   refine Gw (cs := [.int .i64 t.kids[q]]) HU HU ?_
   refine Gc bxA memB ?_
   refine Hj (i := 3) (j := 8) HV HU HU HU HU (fun _ => ?_) (fun _ => ?_)
   ·refine Gi HU HU HU HU HU (fun b37 => ?_)
    refine Gz ((GP (i := 0) (k := 1) (enc := eS) (sz := 1) [t.words[q]] HU (.val .nil) (fun _ => rfl) HU HW).trans Gn) ?_
    refine Gc bxA memB ?_
    refine Hj (i := 4) (j := 8) HV HU HU HU HU (fun _ => ?_) (fun _ => ?_)
    ·refine Gx (i := 3) (enc := eS) (lst := (declsR ((zips t).take q)).map (·.1)) (lst2 := [t.words[q]]) HU HU HU HU memA (fun x d hd v hv => Hx hd hv) (fun _ => rfl) (by simp only [List.length_map, List.length_cons, List.length_nil]; omega) (by simp only [List.length_map, List.length_cons, List.length_nil]; omega) (fun a38 k38 z38 => ?_)
     simp only [List.set_cons_zero, List.set_cons_succ]
     refine Gc bxA memB ?_
     refine qt [10] ?_
     refine Gf (i := 8) HV HU HU (fun _ => ?_)
     refine Gi HU HU HU HU HU (fun b42 => ?_)
     refine Gz ((GP (i := 0) (k := 1) (enc := eI) (sz := 1) [t.kids[q]] HU (.val .nil) (fun _ => rfl) HU HW).trans Gn) ?_
     refine Gc bxA memB ?_
     refine Gf (i := 9) HV HU HU (fun _ => ?_)
     refine Gx (i := 2) (enc := eI) (lst := (declsR ((zips t).take q)).map (·.2)) (lst2 := [t.kids[q]]) HU HU HU HU memA (fun x d hd v hv => GY hd hv) (fun _ => rfl) (by simp only [List.length_map, List.length_cons, List.length_nil]; omega) (by simp only [List.length_map, List.length_cons, List.length_nil]; omega) (fun a43 k43 z43 => ?_)
     simp only [List.set_cons_zero, List.set_cons_succ]
     refine Gc bxA memB ?_
     refine Gf (i := 11) HV HU HU (fun _ => ?_)
     refine Gs HU HU HU ?_
     refine Gr HU ?_
     refine qt [12] ?_
     refine Gf (i := 13) HV HU HU (fun _ => ?_)
     refine Gs HU HU HU ?_
     refine Gr HU ?_
     refine Gm HV ?_
     refine qs 9 ?_
     have hnm : ¬ markP (zips t)[q].1 := by rw [hz]; exact c32
     have e1 : (declsR ((zips t).take q)).map (·.1) ++ [t.words[q]] = (declsR ((zips t).take (q + 1))).map (·.1) := by rw [← HP hqz hnm, hz]; simp
     have e2 : (declsR ((zips t).take q)).map (·.2) ++ [t.kids[q]] = (declsR ((zips t).take (q + 1))).map (·.2) := by rw [← HP hqz hnm, hz]; simp
     rw [e1, e2, term_no hqz hnm]
     exact Gl (q + 1, (a38, k38, z38), (a43, k43, z43), (aT, kT, cT)) ⟨by simp only; omega, HO hqz hno (fun hm => absurd hm hnm)⟩ (by simp only; omega) srA (Sub.drop.trans subF)
    refine Gi HU HU HU HU HU (fun b42 => ?_)
    refine Gz ((GP (i := 0) (k := 1) (enc := eI) (sz := 1) [t.kids[q]] HU (.val .nil) (fun _ => rfl) HU HW).trans Gn) ?_
    refine Gc bxA memB ?_
    refine Gf (i := 4) HV HU HU (fun _ => ?_)
    refine Gx (i := 3) (enc := eS) (lst := (declsR ((zips t).take q)).map (·.1)) (lst2 := [t.words[q]]) HU HU HU HU memA (fun x d hd v hv => Hx hd hv) (fun _ => rfl) (by simp only [List.length_map, List.length_cons, List.length_nil]; omega) (by simp only [List.length_map, List.length_cons, List.length_nil]; omega) (fun a38 k38 z38 => ?_)
    simp only [List.set_cons_zero, List.set_cons_succ]
    refine Gc bxA memB ?_
    refine qt [10] ?_
    refine Gf (i := 9) HV HU HU (fun _ => ?_)
    refine Gx (i := 2) (enc := eI) (lst := (declsR ((zips t).take q)).map (·.2)) (lst2 := [t.kids[q]]) HU HU HU HU memA (fun x d hd v hv => GY hd hv) (fun _ => rfl) (by simp only [List.length_map, List.length_cons, List.length_nil]; omega) (by simp only [List.length_map, List.length_cons, List.length_nil]; omega) (fun a43 k43 z43 => ?_)
    simp only [List.set_cons_zero, List.set_cons_succ]
    refine Gc bxA memB ?_
    refine Gf (i := 11) HV HU HU (fun _ => ?_)
    refine Gs HU HU HU ?_
    refine Gr HU ?_
    refine qt [12] ?_
    refine Gf (i := 13) HV HU HU (fun _ => ?_)
    refine Gs HU HU HU ?_
    refine Gr HU ?_
    refine Gm HV ?_
    refine qs 9 ?_
    have hnm : ¬ markP (zips t)[q].1 := by rw [hz]; exact c32
    have e1 : (declsR ((zips t).take q)).map (·.1) ++ [t.words[q]] = (declsR ((zips t).take (q + 1))).map (·.1) := by rw [← HP hqz hnm, hz]; simp
    have e2 : (declsR ((zips t).take q)).map (·.2) ++ [t.kids[q]] = (declsR ((zips t).take (q + 1))).map (·.2) := by rw [← HP hqz hnm, hz]; simp
    rw [e1, e2, term_no hqz hnm]
    exact Gl (q + 1, (a38, k38, z38), (a43, k43, z43), (aT, kT, cT)) ⟨by simp only; omega, HO hqz hno (fun hm => absurd hm hnm)⟩ (by simp only; omega) srA (Sub.drop.trans subF)
   refine Gi HU HU HU HU HU (fun b42 => ?_)
   refine Gz ((GP (i := 0) (k := 1) (enc := eI) (sz := 1) [t.kids[q]] HU (.val .nil) (fun _ => rfl) HU HW).trans Gn) ?_
   refine Gc bxA memB ?_
   refine Gf (i := 3) HV HU HU (fun _ => ?_)
   refine Gi HU HU HU HU HU (fun b37 => ?_)
   refine Gz ((GP (i := 0) (k := 1) (enc := eS) (sz := 1) [t.words[q]] HU (.val .nil) (fun _ => rfl) HU HW).trans Gn) ?_
   refine Gc bxA memB ?_
   refine Gf (i := 4) HV HU HU (fun _ => ?_)
   refine Gx (i := 3) (enc := eS) (lst := (declsR ((zips t).take q)).map (·.1)) (lst2 := [t.words[q]]) HU HU HU HU memA (fun x d hd v hv => Hx hd hv) (fun _ => rfl) (by simp only [List.length_map, List.length_cons, List.length_nil]; omega) (by simp only [List.length_map, List.length_cons, List.length_nil]; omega) (fun a38 k38 z38 => ?_)
   simp only [List.set_cons_zero, List.set_cons_succ]
   refine Gc bxA memB ?_
   refine qt [10] ?_
   refine Gf (i := 9) HV HU HU (fun _ => ?_)
   refine Gx (i := 2) (enc := eI) (lst := (declsR ((zips t).take q)).map (·.2)) (lst2 := [t.kids[q]]) HU HU HU HU memA (fun x d hd v hv => GY hd hv) (fun _ => rfl) (by simp only [List.length_map, List.length_cons, List.length_nil]; omega) (by simp only [List.length_map, List.length_cons, List.length_nil]; omega) (fun a43 k43 z43 => ?_)
   simp only [List.set_cons_zero, List.set_cons_succ]
   refine Gc bxA memB ?_
   refine Gf (i := 11) HV HU HU (fun _ => ?_)
   refine Gs HU HU HU ?_
   refine Gr HU ?_
   refine qt [12] ?_
   refine Gf (i := 13) HV HU HU (fun _ => ?_)
   refine Gs HU HU HU ?_
   refine Gr HU ?_
   refine Gm HV ?_
   refine qs 9 ?_
   have hnm : ¬ markP (zips t)[q].1 := by rw [hz]; exact c32
   have e1 : (declsR ((zips t).take q)).map (·.1) ++ [t.words[q]] = (declsR ((zips t).take (q + 1))).map (·.1) := by rw [← HP hqz hnm, hz]; simp
   have e2 : (declsR ((zips t).take q)).map (·.2) ++ [t.kids[q]] = (declsR ((zips t).take (q + 1))).map (·.2) := by rw [← HP hqz hnm, hz]; simp
   rw [e1, e2, term_no hqz hnm]
   exact Gl (q + 1, (a38, k38, z38), (a43, k43, z43), (aT, kT, cT)) ⟨by simp only; omega, HO hqz hno (fun hm => absurd hm hnm)⟩ (by simp only; omega) srA (Sub.drop.trans subF)
  refine qs 12 ?_
  have hq9 : (zips t).take q = zips t := List.take_of_length_le HW
  rw [hq9] at hno ⊢
  have htl := termsA_len (zips t)
  have hdl := declsR_len (zips t)
  refine Ga (Gd HU HU (sortTm_c (termsA (zips t)) (fun x hx => by have := termsA_in hzin x hx; omega) HW (i := 0) HU (fun bs hbp hbs => ?_)))
  rw [terms_sort (m := l.length) (fun z hz _ => hzin z hz) hbp hbs]
  have hrl : (termsR l.length (zips t)).length ≤ 20 := by
   have e9 := terms_sort (m := l.length) (fun z hz _ => hzin z hz) hbp hbs
   have := hbp.length_eq
   rw [← e9]; omega
  simp only [List.set_cons_zero]
  refine qs 6 ?_
  refine Ga (AO.lenO (i := 0) HU HU HU (fun hk88 => ?_))
  rw [List.length_map]
  refine qs 4 ?_
  refine GN (fun (x : Nat × (Option Addr × Nat × Nat) × (Option Addr × Nat × Nat)) => x.1 ≤ (termsR l.length (zips t)).length) (fun x => [(4, .pointer (some ⟨b4, 0, none⟩)), (6, .pointer (some ⟨b6, 0, none⟩)), (87, .slice aT kT cT), (88, .int .i64 (termsR l.length (zips t)).length), (89, .int .i64 (x.1 : Int))]) (fun x => Res.own (.slice aT kT cT) 266 2 ((termsR l.length (zips t)).map eTm) :: Res.own (.slice x.2.2.1 x.2.2.2.1 x.2.2.2.2) 3 1 (((declsR (zips t) ++ (termsR l.length (zips t)).take x.1).map (·.2)).map eI) :: Res.own (.slice x.2.1.1 x.2.1.2.1 x.2.1.2.2) 9 1 (((declsR (zips t) ++ (termsR l.length (zips t)).take x.1).map (·.1)).map eS) :: Res.cells b6 #[.int .i64 t.kind, S t.name, .int .i64 t.n, .slice x.2.1.1 x.2.1.2.1 x.2.1.2.2, .slice x.2.2.1 x.2.2.2.1 x.2.2.2.2] 29 :: _) (fun _ => F) (fun x => (termsR l.length (zips t)).length - x.1) (0, (aW, kW, cW), (aK, kK, cK)) (Nat.zero_le _) srA (Hn (by rw [List.take_zero, List.append_nil])) ?_
  rintro ⟨u, ⟨aW, kW, cW⟩, ⟨aK, kK, cK⟩⟩ hu
  simp only at hu ⊢
  refine qs 2 ?_
  refine Ga (GB HU HU HU (fun c90 => ?_) (fun c90 => ?_))
  ·refine qs 10 ?_
   have hul : u < (termsR l.length (zips t)).length := by omega
   have hal : (declsR (zips t) ++ (termsR l.length (zips t)).take u).length ≤ 40 := by rw [List.length_append, List.length_take]; omega
   refine Ga (Hc (i := 0) (q := u) HU HU HU HU HU (by rw [List.length_map]; exact hul) (fun bo2 ho2 => ?_))
   subst ho2
   refine Ga (AO.loadOA (i := 0) (q := u) (vs := [S (termsR l.length (zips t))[u].1, .int .i64 (termsR l.length (zips t))[u].2]) HU HU HU HU (eTm_get hul) HU ?_)
   refine Ga (Gq HU (fun b14 => ?_))
   refine Ga (GA HU HU HU HU ?_)
   refine Gz (Hn (L' := Res.cells b14 #[S (termsR l.length (zips t))[u].1, .int .i64 (termsR l.length (zips t))[u].2] 266 :: _) HU) ?_
   refine qs 2 ?_
   refine GO (fun i => Nat.beq i 13 || Nat.beq i 15) [(b6, _, _), (b14, _, _)] bxA HU (fun hx hX => ?_)
   refine qt [0, 1, 2, 3, 6, 7, 8] ?_
   refine Hj (i := 4) (j := 9) HV HU HU HU HU (fun _ => ?_) (fun _ => ?_)
   ·refine Gi HU HU HU HU HU (fun b97 => ?_)
    refine Gz ((GP (i := 0) (k := 1) (enc := eS) (sz := 1) [(termsR l.length (zips t))[u].1] HU (.val .nil) (fun _ => rfl) HU HW).trans Gn) ?_
    refine Gc bxA memB ?_
    refine Hj (i := 5) (j := 9) HV HU HU HU HU (fun _ => ?_) (fun _ => ?_)
    ·refine Gx (i := 3) (enc := eS) (lst := (declsR (zips t) ++ (termsR l.length (zips t)).take u).map (·.1)) (lst2 := [(termsR l.length (zips t))[u].1]) HU HU HU HU memA (fun x d hd v hv => Hx hd hv) (fun _ => rfl) (by simp only [List.length_map, List.length_cons, List.length_nil]; omega) (by simp only [List.length_map, List.length_cons, List.length_nil]; omega) (fun a98 k98 z98 => ?_)
     simp only [List.set_cons_zero, List.set_cons_succ]
     refine Gc bxA memB ?_
     refine qt [12] ?_
     refine Gf (i := 9) HV HU HU (fun _ => ?_)
     refine Gw (cs := [S (termsR l.length (zips t))[u].1, .int .i64 (termsR l.length (zips t))[u].2]) HU HU ?_
     refine Gc bxA memB ?_
     refine Gf (i := 10) HV HU HU (fun _ => ?_)
     refine Gi HU HU HU HU HU (fun b103 => ?_)
     refine Gz ((GP (i := 0) (k := 1) (enc := eI) (sz := 1) [(termsR l.length (zips t))[u].2] HU (.val .nil) (fun _ => rfl) HU HW).trans Gn) ?_
     refine Gc bxA memB ?_
     refine Gf (i := 11) HV HU HU (fun _ => ?_)
     refine Gx (i := 2) (enc := eI) (lst := (declsR (zips t) ++ (termsR l.length (zips t)).take u).map (·.2)) (lst2 := [(termsR l.length (zips t))[u].2]) HU HU HU HU memA (fun x d hd v hv => GY hd hv) (fun _ => rfl) (by simp only [List.length_map, List.length_cons, List.length_nil]; omega) (by simp only [List.length_map, List.length_cons, List.length_nil]; omega) (fun a104 k104 z104 => ?_)
     simp only [List.set_cons_zero, List.set_cons_succ]
     refine Gc bxA memB ?_
     refine Gf (i := 13) HV HU HU (fun _ => ?_)
     refine Gs HU HU HU ?_
     refine Gr HU ?_
     refine qt [14] ?_
     refine Gf (i := 15) HV HU HU (fun _ => ?_)
     refine Gs HU HU HU ?_
     refine Gr HU ?_
     refine Gm HV ?_
     refine qs 6 ?_
     rw [fst_snoc, snd_snoc, take_snoc hul]
     exact Gl (u + 1, (a98, k98, z98), (a104, k104, z104)) (by simp only; omega) (by simp only; omega) srA (Sub.drop.trans subF)
    refine Gw (cs := [S (termsR l.length (zips t))[u].1, .int .i64 (termsR l.length (zips t))[u].2]) HU HU ?_
    refine Gc bxA memB ?_
    refine Hj (i := 5) (j := 10) HV HU HU HU HU (fun _ => ?_) (fun _ => ?_)
    ·refine Gx (i := 3) (enc := eS) (lst := (declsR (zips t) ++ (termsR l.length (zips t)).take u).map (·.1)) (lst2 := [(termsR l.length (zips t))[u].1]) HU HU HU HU memA (fun x d hd v hv => Hx hd hv) (fun _ => rfl) (by simp only [List.length_map, List.length_cons, List.length_nil]; omega) (by simp only [List.length_map, List.length_cons, List.length_nil]; omega) (fun a98 k98 z98 => ?_)
     simp only [List.set_cons_zero, List.set_cons_succ]
     refine Gc bxA memB ?_
     refine qt [12] ?_
     refine Gf (i := 10) HV HU HU (fun _ => ?_)
     refine Gi HU HU HU HU HU (fun b103 => ?_)
     refine Gz ((GP (i := 0) (k := 1) (enc := eI) (sz := 1) [(termsR l.length (zips t))[u].2] HU (.val .nil) (fun _ => rfl) HU HW).trans Gn) ?_
     refine Gc bxA memB ?_
     refine Gf (i := 11) HV HU HU (fun _ => ?_)
     refine Gx (i := 2) (enc := eI) (lst := (declsR (zips t) ++ (termsR l.length (zips t)).take u).map (·.2)) (lst2 := [(termsR l.length (zips t))[u].2]) HU HU HU HU memA (fun x d hd v hv => GY hd hv) (fun _ => rfl) (by simp only [List.length_map, List.length_cons, List.length_nil]; omega) (by simp only [List.length_map, List.length_cons, List.length_nil]; omega) (fun a104 k104 z104 => ?_)
     simp only [List.set_cons_zero, List.set_cons_succ]
     refine Gc bxA memB ?_
     refine Gf (i := 13) HV HU HU (fun _ => ?_)
     refine Gs HU HU HU ?_
     refine Gr HU ?_
     refine qt [14] ?_
     refine Gf (i := 15) HV HU HU (fun _ => ?_)
     refine Gs HU HU HU ?_
     refine Gr HU ?_
     refine Gm HV ?_
     refine qs 6 ?_
     rw [fst_snoc, snd_snoc, take_snoc hul]
     exact Gl (u + 1, (a98, k98, z98), (a104, k104, z104)) (by simp only; omega) (by simp only; omega) srA (Sub.drop.trans subF)
    refine Gi HU HU HU HU HU (fun b103 => ?_)
    refine Gz ((GP (i := 0) (k := 1) (enc := eI) (sz := 1) [(termsR l.length (zips t))[u].2] HU (.val .nil) (fun _ => rfl) HU HW).trans Gn) ?_
    refine Gc bxA memB ?_
    refine Gf (i := 5) HV HU HU (fun _ => ?_)
    refine Gx (i := 3) (enc := eS) (lst := (declsR (zips t) ++ (termsR l.length (zips t)).take u).map (·.1)) (lst2 := [(termsR l.length (zips t))[u].1]) HU HU HU HU memA (fun x d hd v hv => Hx hd hv) (fun _ => rfl) (by simp only [List.length_map, List.length_cons, List.length_nil]; omega) (by simp only [List.length_map, List.length_cons, List.length_nil]; omega) (fun a98 k98 z98 => ?_)
    simp only [List.set_cons_zero, List.set_cons_succ]
    refine Gc bxA memB ?_
    refine qt [12] ?_
    refine Gf (i := 11) HV HU HU (fun _ => ?_)
    refine Gx (i := 2) (enc := eI) (lst := (declsR (zips t) ++ (termsR l.length (zips t)).take u).map (·.2)) (lst2 := [(termsR l.length (zips t))[u].2]) HU HU HU HU memA (fun x d hd v hv => GY hd hv) (fun _ => rfl) (by simp only [List.length_map, List.length_cons, List.length_nil]; omega) (by simp only [List.length_map, List.length_cons, List.length_nil]; omega) (fun a104 k104 z104 => ?_)
    simp only [List.set_cons_zero, List.set_cons_succ]
    refine Gc bxA memB ?_
    refine Gf (i := 13) HV HU HU (fun _ => ?_)
    refine Gs HU HU HU ?_
    refine Gr HU ?_
    refine qt [14] ?_
    refine Gf (i := 15) HV HU HU (fun _ => ?_)
    refine Gs HU HU HU ?_
    refine Gr HU ?_
    refine Gm HV ?_
    refine qs 6 ?_
    rw [fst_snoc, snd_snoc, take_snoc hul]
    exact Gl (u + 1, (a98, k98, z98), (a104, k104, z104)) (by simp only; omega) (by simp only; omega) srA (Sub.drop.trans subF)
   refine Gw (cs := [S (termsR l.length (zips t))[u].1, .int .i64 (termsR l.length (zips t))[u].2]) HU HU ?_
   refine Gc bxA memB ?_
   refine Hj (i := 4) (j := 10) HV HU HU HU HU (fun _ => ?_) (fun _ => ?_)
   ·refine Gi HU HU HU HU HU (fun b97 => ?_)
    refine Gz ((GP (i := 0) (k := 1) (enc := eS) (sz := 1) [(termsR l.length (zips t))[u].1] HU (.val .nil) (fun _ => rfl) HU HW).trans Gn) ?_
    refine Gc bxA memB ?_
    refine Hj (i := 5) (j := 10) HV HU HU HU HU (fun _ => ?_) (fun _ => ?_)
    ·refine Gx (i := 3) (enc := eS) (lst := (declsR (zips t) ++ (termsR l.length (zips t)).take u).map (·.1)) (lst2 := [(termsR l.length (zips t))[u].1]) HU HU HU HU memA (fun x d hd v hv => Hx hd hv) (fun _ => rfl) (by simp only [List.length_map, List.length_cons, List.length_nil]; omega) (by simp only [List.length_map, List.length_cons, List.length_nil]; omega) (fun a98 k98 z98 => ?_)
     simp only [List.set_cons_zero, List.set_cons_succ]
     refine Gc bxA memB ?_
     refine qt [12] ?_
     refine Gf (i := 10) HV HU HU (fun _ => ?_)
     refine Gi HU HU HU HU HU (fun b103 => ?_)
     refine Gz ((GP (i := 0) (k := 1) (enc := eI) (sz := 1) [(termsR l.length (zips t))[u].2] HU (.val .nil) (fun _ => rfl) HU HW).trans Gn) ?_
     refine Gc bxA memB ?_
     refine Gf (i := 11) HV HU HU (fun _ => ?_)
     refine Gx (i := 2) (enc := eI) (lst := (declsR (zips t) ++ (termsR l.length (zips t)).take u).map (·.2)) (lst2 := [(termsR l.length (zips t))[u].2]) HU HU HU HU memA (fun x d hd v hv => GY hd hv) (fun _ => rfl) (by simp only [List.length_map, List.length_cons, List.length_nil]; omega) (by simp only [List.length_map, List.length_cons, List.length_nil]; omega) (fun a104 k104 z104 => ?_)
     simp only [List.set_cons_zero, List.set_cons_succ]
     refine Gc bxA memB ?_
     refine Gf (i := 13) HV HU HU (fun _ => ?_)
     refine Gs HU HU HU ?_
     refine Gr HU ?_
     refine qt [14] ?_
     refine Gf (i := 15) HV HU HU (fun _ => ?_)
     refine Gs HU HU HU ?_
     refine Gr HU ?_
     refine Gm HV ?_
     refine qs 6 ?_
     rw [fst_snoc, snd_snoc, take_snoc hul]
     exact Gl (u + 1, (a98, k98, z98), (a104, k104, z104)) (by simp only; omega) (by simp only; omega) srA (Sub.drop.trans subF)
    refine Gi HU HU HU HU HU (fun b103 => ?_)
    refine Gz ((GP (i := 0) (k := 1) (enc := eI) (sz := 1) [(termsR l.length (zips t))[u].2] HU (.val .nil) (fun _ => rfl) HU HW).trans Gn) ?_
    refine Gc bxA memB ?_
    refine Gf (i := 5) HV HU HU (fun _ => ?_)
    refine Gx (i := 3) (enc := eS) (lst := (declsR (zips t) ++ (termsR l.length (zips t)).take u).map (·.1)) (lst2 := [(termsR l.length (zips t))[u].1]) HU HU HU HU memA (fun x d hd v hv => Hx hd hv) (fun _ => rfl) (by simp only [List.length_map, List.length_cons, List.length_nil]; omega) (by simp only [List.length_map, List.length_cons, List.length_nil]; omega) (fun a98 k98 z98 => ?_)
    simp only [List.set_cons_zero, List.set_cons_succ]
    refine Gc bxA memB ?_
    refine qt [12] ?_
    refine Gf (i := 11) HV HU HU (fun _ => ?_)
    refine Gx (i := 2) (enc := eI) (lst := (declsR (zips t) ++ (termsR l.length (zips t)).take u).map (·.2)) (lst2 := [(termsR l.length (zips t))[u].2]) HU HU HU HU memA (fun x d hd v hv => GY hd hv) (fun _ => rfl) (by simp only [List.length_map, List.length_cons, List.length_nil]; omega) (by simp only [List.length_map, List.length_cons, List.length_nil]; omega) (fun a104 k104 z104 => ?_)
    simp only [List.set_cons_zero, List.set_cons_succ]
    refine Gc bxA memB ?_
    refine Gf (i := 13) HV HU HU (fun _ => ?_)
    refine Gs HU HU HU ?_
    refine Gr HU ?_
    refine qt [14] ?_
    refine Gf (i := 15) HV HU HU (fun _ => ?_)
    refine Gs HU HU HU ?_
    refine Gr HU ?_
    refine Gm HV ?_
    refine qs 6 ?_
    rw [fst_snoc, snd_snoc, take_snoc hul]
    exact Gl (u + 1, (a98, k98, z98), (a104, k104, z104)) (by simp only; omega) (by simp only; omega) srA (Sub.drop.trans subF)
   refine Gi HU HU HU HU HU (fun b103 => ?_)
   refine Gz ((GP (i := 0) (k := 1) (enc := eI) (sz := 1) [(termsR l.length (zips t))[u].2] HU (.val .nil) (fun _ => rfl) HU HW).trans Gn) ?_
   refine Gc bxA memB ?_
   refine Gf (i := 4) HV HU HU (fun _ => ?_)
   refine Gi HU HU HU HU HU (fun b97 => ?_)
   refine Gz ((GP (i := 0) (k := 1) (enc := eS) (sz := 1) [(termsR l.length (zips t))[u].1] HU (.val .nil) (fun _ => rfl) HU HW).trans Gn) ?_
   refine Gc bxA memB ?_
   refine Gf (i := 5) HV HU HU (fun _ => ?_)
   refine Gx (i := 3) (enc := eS) (lst := (declsR (zips t) ++ (termsR l.length (zips t)).take u).map (·.1)) (lst2 := [(termsR l.length (zips t))[u].1]) HU HU HU HU memA (fun x d hd v hv => Hx hd hv) (fun _ => rfl) (by simp only [List.length_map, List.length_cons, List.length_nil]; omega) (by simp only [List.length_map, List.length_cons, List.length_nil]; omega) (fun a98 k98 z98 => ?_)
   simp only [List.set_cons_zero, List.set_cons_succ]
   refine Gc bxA memB ?_
   refine qt [12] ?_
   refine Gf (i := 11) HV HU HU (fun _ => ?_)
   refine Gx (i := 2) (enc := eI) (lst := (declsR (zips t) ++ (termsR l.length (zips t)).take u).map (·.2)) (lst2 := [(termsR l.length (zips t))[u].2]) HU HU HU HU memA (fun x d hd v hv => GY hd hv) (fun _ => rfl) (by simp only [List.length_map, List.length_cons, List.length_nil]; omega) (by simp only [List.length_map, List.length_cons, List.length_nil]; omega) (fun a104 k104 z104 => ?_)
   simp only [List.set_cons_zero, List.set_cons_succ]
   refine Gc bxA memB ?_
   refine Gf (i := 13) HV HU HU (fun _ => ?_)
   refine Gs HU HU HU ?_
   refine Gr HU ?_
   refine qt [14] ?_
   refine Gf (i := 15) HV HU HU (fun _ => ?_)
   refine Gs HU HU HU ?_
   refine Gr HU ?_
   refine Gm HV ?_
   refine qs 6 ?_
   rw [fst_snoc, snd_snoc, take_snoc hul]
   exact Gl (u + 1, (a98, k98, z98), (a104, k104, z104)) (by simp only; omega) (by simp only; omega) srA (Sub.drop.trans subF)
  refine qs 11 ?_
  have hu9 : (termsR l.length (zips t)).take u = termsR l.length (zips t) := List.take_of_length_le HW
  rw [hu9, hname]
  refine Gz ((GH (i := 1) HU).trans (GH (i := 2) HU)) ?_
  simp only [List.set_cons_zero, List.set_cons_succ]
  refine Ga (AO.loadBA HU HU ?_)
  refine qs 5 ?_
  exact GS (rs := [.cell 4 _, .tmp 5]) (L' := L) (F' := fW (termsT l.length t) _ _ _ :: fK (termsT l.length t) _ _ _ :: F) Tryz.results176 (.agg (j := 4) rfl rfl rfl (.tmp rfl .nil)) (Sub.drop.trans (Sub.drop.trans (Sub.drop.trans (Sub.drop.trans (Sub.drop.trans (Sub.drop.trans (Gg (mem2 memA memA (fun x hx => by repeat (first | exact hx | refine List.mem_cons_of_mem _ ?_)))))))))) (hF (odd_not hno) _ _ _ _ _ _)
end
end Go.Sy
namespace Go.Sy
open Go Go.Proofs Go.RowKit
theorem Sub.ownNone {L : List Res} {F : List Fact} {e : TypeId} {sz k c : Nat} {rows : List (List D)} (hm : Fact.slc (.slice none k c) sz rows ∈ F) : Sub L F (Res.own (.slice none 0 0) e sz rows :: L) F := by
  intro W0 w s
  have hk : rows = [] := by
    obtain ⟨hh, hf, _⟩ := s.fact hm
    have hf' : CR hh (.slice none k c) (.slc sz rows) := hf
    generalize hd : D.slc sz rows = dd at hf'
    cases hf' with
    | val => simp at hd
    | nil => simp at hd; exact hd.2
  subst hk
  exact Ha W0 w s
attribute [local irreducible] AC AT AO AK AH ACalls Sub Res.cells Res.obj Res.nix Res.own Res.map Exit.then Exit.inBlock bodyPost Code.wp Code.wpIn WL Next Post Kont
section
variable {W0 : World} {L : List Res} {F : List Fact} {R : Value → List Res → List Fact → Prop}
set_option maxRecDepth 100000
set_option maxHeartbeats 4000000
theorem clone_c (ks : List Int) (hl : ks.length ≤ 1000) {a : Option Addr} {k c : Nat} (m1 : Fact.slc (.slice a k c) 1 (ks.map eI) ∈ F) (h : ∀ a k c, R (.slice a k c) (Res.own (.slice a k c) 3 1 (ks.map eI) :: L) F) : ACalls Tryz.prog W0 175 #[.slice a k c] L F R := by
  refine Ge Tryz.func175 HU Tryz.ntmps175 HU ?_
  refine qs 9 ?_
  refine Ga (AO.eqlSN Tryz.underlying27 HU HU HU (fun c4 => ?_) (fun b4 c4 => ?_))
  ·refine qs 10 ?_
   first
   | exact Gb Tryz.results175 rfl (Gk _ _) (h a7 k7 z7)
   | (subst c4; exact Gb (F' := F) Tryz.results175 rfl (Sub.ownNone m1) (h none 0 0))
  refine qs 7 ?_
  refine Ga (AO.buildSlice0 HU (fun b5 => ?_))
  refine Gz (Sub.toOwn (i := 0) (k := 0) (sz := 1) (enc := eI) [] HU .nil (fun _ => rfl) HU (by decide)) ?_
  refine qs 1 ?_
  refine Ga (Gx (i := 0) (enc := eI) (lst := []) (lst2 := ks) HU HU HU HU memA (fun x d hd v hv => by subst hv; simp at hd; subst hd; rfl) (fun _ => rfl) (by simp only [maxLen, List.length_nil]; omega) (by simp only [List.length_nil]; omega) (fun a7 k7 z7 => ?_))
  refine qs 4 ?_
  first
  | exact Gb Tryz.results175 rfl (Gk _ _) (h a7 k7 z7)
  | (subst c4; exact Gb (F' := F) Tryz.results175 rfl (Sub.ownNone m1) (h none 0 0))
end
end Go.Sy
namespace Go.Sy
open Go Go.Proofs
theorem name_short2 {s : List UInt8} (h : isName s = true) : s.length ≤ 20 := by
  unfold isName at h
  simp only [Bool.and_eq_true, decide_eq_true_eq] at h
  exact h.1.1.2
theorem field_short2 (w : List UInt8) : w.length ≤ (fieldN w).length + 1 := by
  unfold fieldN; split <;> simp
theorem cut_join (c : UInt8) : ∀ s : List UInt8, s.length ≤ (cutD c s).1.length + (cutD c s).2.1.length + 1
  | [] => by simp
  | x :: s => by
    have ih := cut_join c s
    unfold cutD
    split
    · simp
    simp only [List.length_cons]; omega
theorem named_short {s : List UInt8} (h : namedP s) : s.length ≤ 41 := by
  have h1 := name_short2 h.2.1
  have h2 := name_short2 h.2.2
  have h3 := cut_join 46 s
  omega
theorem made_ok {l : List Ty} (hl : l.length ≤ 400) {t : Ty} (h : madeP l t) : TyOk t := by
  obtain ⟨hk, hf, hn, hw, hK⟩ := h
  have hkind : 1 ≤ t.kind ∧ t.kind ≤ 9 := by rcases hK with e | e | e | e | e | e | e | e | e <;> (have := e.1; omega)
  refine ⟨by omega, ?_, ?_, ?_, ?_, by omega, fun k hm => by have := hk k hm; omega⟩
  · rcases hK with e | e | e | e | e | e | e | e | e
    · have := e.2.1; omega
    · have := e.2.1; omega
    · have := e.2.1; have := e.2.2.1; omega
    · have := e.2.1; omega
    · rcases e.2 with e | e
      · omega
      have := e.1; omega
    · have := e.2.1; omega
    · have h1 := e.2.2.1; have h2 := e.2.2.2.1; omega
    · have := e.2.1; omega
    have := e.2.1; have := e.2.2.1; omega
  · by_cases c : t.kind = 8
    · have := named_short ((madeK_8 c).1 hK).2; omega
    rw [hn c]; simp
  · by_cases c6 : t.kind = 6
    · have := ((madeK_6 c6).1 hK).2.2; omega
    by_cases c7 : t.kind = 7
    · have := ((madeK_7 c7).1 hK).1; omega
    rw [hw c6 c7]; simp
  intro w hm
  by_cases c6 : t.kind = 6
  · obtain ⟨i, hi, rfl⟩ := List.getElem_of_mem hm
    have h1 := name_short2 (((madeK_6 c6).1 hK).2.1 i hi).1
    have h2 := field_short2 t.words[i]
    omega
  by_cases c7 : t.kind = 7
  · obtain ⟨i, hi, rfl⟩ := List.getElem_of_mem hm
    rcases ((madeK_7 c7).1 hK).2.2.2 i hi with h1 | h1
    · rcases h1.1 with e | e <;> rw [e] <;> decide
    have := name_short2 h1.2.1; omega
  rw [hw c6 c7] at hm; simp at hm
theorem right_ok {l : List Ty} (h : rightP l) : ∀ t ∈ l, TyOk t := by
  intro t ht
  obtain ⟨q, hq, rfl⟩ := List.getElem_of_mem ht
  have hr := h.2.2 q hq
  unfold rowAt at hr
  by_cases c : q < 22
  · rw [if_pos c] at hr
    have hql : q < startL.length := by rw [start_len]; exact c
    rw [hr, start_get hql]
    exact start_ok _ (List.getElem_mem hql)
  rw [if_neg c] at hr
  have := h.2.1
  exact made_ok (by rw [List.length_take]; omega) hr.1
theorem decl_term_len (zs : List Tm) : (declsR zs).length + (termsA zs).length ≤ zs.length := by
  refine snocInd (P := fun zs => (declsR zs).length + (termsA zs).length ≤ zs.length) (by simp [declsR, termsA]) ?_ zs
  intro zs z ih
  rw [termsA_snoc, declsR_snoc, List.length_append]
  split
  · have : (addTm (termsA zs) z).length ≤ (termsA zs).length + 1 := by
      unfold addTm
      split
      · rw [List.length_append]; simp
      split
      · rw [List.length_set]; omega
      omega
    simp only [List.length_cons, List.length_nil]; omega
  rw [List.length_append]; simp only [List.length_cons, List.length_nil]; omega
theorem termsR_len {m : Nat} {zs : List Tm} (hz : ∀ z ∈ zs, 0 ≤ z.2 ∧ z.2 < m) : (termsR m zs).length = (termsA zs).length := by
  have hp := List.mergeSort_perm (termsA zs) (fun x y => decide (x.2 ≤ y.2))
  have hs : ((termsA zs).mergeSort (fun x y => decide (x.2 ≤ y.2))).Pairwise fun x y => x.2 ≤ y.2 := by
    have := List.pairwise_mergeSort (le := fun (x y : Tm) => decide (x.2 ≤ y.2)) (fun a b c h1 h2 => by simp at *; omega) (fun a b => by simp; omega) (termsA zs)
    exact this.imp fun h => by simpa using h
  rw [← terms_sort (fun z h _ => hz z h) hp hs]
  exact hp.length_eq
theorem zips_kids {t : Ty} (h : t.words.length = t.kids.length) : (zips t).length = t.kids.length := by unfold zips; rw [List.length_zip]; omega
theorem termsT_len {m : Nat} {t : Ty} (hw : t.words.length = t.kids.length) (hk : ∀ k ∈ t.kids, 0 ≤ k ∧ k < m) : (termsT m t).kids.length ≤ t.kids.length ∧ (termsT m t).words.length ≤ t.kids.length := by
  have h1 := decl_term_len (zips t)
  have h2 := termsR_len (m := m) (zips_in hk)
  have h3 := zips_kids hw
  have h4 : (declsR (zips t) ++ termsR m (zips t)).length ≤ t.kids.length := by rw [List.length_append]; omega
  unfold termsT
  simp only [List.length_map]
  omega
theorem terms_mem {m : Nat} {t : Ty} (hk : ∀ k ∈ t.kids, 0 ≤ k ∧ k < m) : ∀ z ∈ declsR (zips t) ++ termsR m (zips t), 0 ≤ z.2 ∧ z.2 < m ∧ (z.1 ∈ t.words ∨ markP z.1) := by
  intro z hz
  rcases List.mem_append.1 hz with h | h
  · have hm : z ∈ zips t := (List.mem_filter.1 h).1
    have := zips_in hk z hm
    exact ⟨this.1, this.2, .inl (List.of_mem_zip hm).1⟩
  have := (Hs m (zips t) z).1 h
  exact ⟨this.2.2.1, this.2.2.2, .inr (this.1 ▸ (markOf_is (zips t) z.2).resolve_left (by rw [← this.1]; exact this.2.1))⟩
theorem mapK_ok {out : List Ty} (ho : out.length ≤ 400) {ins : List Int} {t : Ty} (ht : TyOk t) (hk : ∀ k ∈ (mapK ins t).kids, 0 ≤ k ∧ k < out.length) : TyOk (mapK ins t) := by
  refine ⟨ht.kind, ht.n, ht.name, ht.words, ht.word, ?_, fun k hm => by have := hk k hm; omega⟩
  unfold mapK; simp only [List.length_map]; exact ht.kids
theorem termsT_ok {m : Nat} (hm : m ≤ 400) {t : Ty} (ht : TyOk t) (hw : t.words.length = t.kids.length) (hk : ∀ k ∈ t.kids, 0 ≤ k ∧ k < m) : TyOk (termsT m t) := by
  obtain ⟨h1, h2⟩ := termsT_len hw hk
  have hkl := ht.kids
  have hmem := terms_mem hk
  refine ⟨ht.kind, ht.n, by simp [termsT], by omega, ?_, by omega, ?_⟩
  · intro w hx
    obtain ⟨z, hz, rfl⟩ := List.mem_map.1 hx
    rcases (hmem z hz).2.2 with h | h
    · exact ht.word _ h
    rcases h with e | e <;> rw [e] <;> decide
  intro k hx
  obtain ⟨z, hz, rfl⟩ := List.mem_map.1 hx
  have := hmem z hz
  omega
theorem getD_eq {α : Type} {l : List α} {q : Nat} (z : α) (hq : q < l.length) : l.getD q z = l[q] := by rw [List.getD_eq_getElem?_getD, List.getElem?_eq_getElem hq]; rfl
def MapS (M : List Bool) (ins : List Int) (q : Nat) (m : Int → Option Int) : Prop := ∀ p : Nat, p < q → M.getD p false = true → m (p : Int) = some (ins.getD p 0)
open Classical in
theorem MapS.upd {M : List Bool} {ins : List Int} {q : Nat} {m : Int → Option Int} (h : MapS M ins q m) (hl : ins.length = q) (x : Int) : MapS M (ins ++ [x]) (q + 1) (upd m (q : Int) x) := by
  intro p hp hM
  by_cases e : p = q
  · subst e
    rw [upd_self, ← hl]; simp [List.getD_eq_getElem?_getD]
  rw [upd_ne _ HW, getD_app _ _ _ HW]
  exact h p HW hM
theorem MapS.skip {M : List Bool} {ins : List Int} {q : Nat} {m : Int → Option Int} (h : MapS M ins q m) (hl : ins.length = q) (x : Int) (hM : M.getD q false = false) : MapS M (ins ++ [x]) (q + 1) m := by
  intro p hp hMp
  by_cases e : p = q
  · subst e; rw [hM] at hMp; cases hMp
  rw [getD_app _ _ _ HW]
  exact h p HW hMp
section
variable {l : List Ty} {args A : List Int} {M : List Bool} {q : Nat} {out : List Ty} {ins : List Int}
theorem sub_out (hs : subN l args A M q = .ok (out, ins)) (h : M.getD q false = false ∨ A.getD q 0 = 0) : subN l args A M (q + 1) = .ok (out, ins ++ [(q : Int)]) := by
  rw [subN, hs]; simp only; unfold stepS; rw [if_pos h]
theorem sub_param (hs : subN l args A M q = .ok (out, ins)) (hM : M.getD q false = true) (hA : A.getD q 0 ≠ 0) (hq : q < l.length) (h9 : l[q].kind = 9) : subN l args A M (q + 1) = .ok (out, ins ++ [args.getD l[q].n.toNat 0]) := by
  rw [subN, hs]; simp only; unfold stepS
  rw [if_neg (by rw [hM]; simp only [Bool.true_eq_false, false_or]; exact hA), getD_eq _ hq, if_pos h9]
theorem sub_put (hs : subN l args A M q = .ok (out, ins)) (hM : M.getD q false = true) (hA : A.getD q 0 ≠ 0) (hq : q < l.length) (h9 : l[q].kind ≠ 9) : subN l args A M (q + 1) = putS out ins (mapK ins l[q]) := by
  rw [subN, hs]; simp only; unfold stepS
  rw [if_neg (by rw [hM]; simp only [Bool.true_eq_false, false_or]; exact hA), getD_eq _ hq, if_neg h9]
end
theorem put_odd {out : List Ty} {ins : List Int} {t : Ty} (h7 : t.kind = 7) (ho : oddP out t) : putS out ins t = .error 11 := by unfold putS; rw [if_pos ⟨h7, ho⟩]
theorem put_iface {out : List Ty} {ins : List Int} {t : Ty} (hr : rightP out) (h7 : t.kind = 7) (ho : ¬ oddP out t) {m : List Ty} {i e : Int} (h : AddP out (termsT out.length t) m i e) : putS out ins t = if e = 0 then .ok (m, ins ++ [i]) else .error e := by
  unfold putS; rw [if_neg (fun h => ho h.2), if_pos h7, addF_is hr h]
theorem put_plain {out : List Ty} {ins : List Int} {t : Ty} (hr : rightP out) (h7 : t.kind ≠ 7) {m : List Ty} {i e : Int} (h : AddP out t m i e) : putS out ins t = if e = 0 then .ok (m, ins ++ [i]) else .error e := by
  unfold putS; rw [if_neg (fun h => h7 h.1), if_neg h7, addF_is hr h]
def kidsS (ins ks : List Int) (v : Nat) : List Int := (ks.take v).map (fun k => ins.getD k.toNat 0) ++ ks.drop v
theorem kidsS_len (ins ks : List Int) (v : Nat) : (kidsS ins ks v).length = ks.length := by unfold kidsS; rw [List.length_append, List.length_map, List.length_take, List.length_drop]; omega
theorem kidsS_zero (ins ks : List Int) : kidsS ins ks 0 = ks := by simp [kidsS]
theorem kidsS_all (ins ks : List Int) {v : Nat} (h : ks.length ≤ v) : kidsS ins ks v = ks.map (fun k => ins.getD k.toNat 0) := by
  unfold kidsS; rw [List.take_of_length_le h, List.drop_eq_nil_of_le h, List.append_nil]
theorem kidsS_get {ins ks : List Int} {v : Nat} (hv : v < ks.length) : (kidsS ins ks v)[v]? = some ks[v] := by
  unfold kidsS
  rw [List.getElem?_append_right (by simp; omega)]
  simp [Nat.min_eq_left (Nat.le_of_lt hv), List.getElem?_drop, hv]
theorem kidsS_set {ins ks : List Int} {v : Nat} (hv : v < ks.length) : (kidsS ins ks v).set v (ins.getD ks[v].toNat 0) = kidsS ins ks (v + 1) := by
  unfold kidsS
  have hl : ((ks.take v).map (fun k => ins.getD k.toNat 0)).length = v := by rw [List.length_map, List.length_take]; omega
  rw [List.set_append_right _ _ HW, hl, Nat.sub_self, List.drop_eq_getElem_cons hv, List.set_cons_zero, List.take_succ_eq_append_getElem hv, List.map_append]
  simp
end Go.Sy
namespace Go.Sy
open Go Go.Proofs Go.RowKit
theorem eIs_get {A : List Int} {q : Nat} {x : Int} (h : A[q]? = some x) : (A.map eI)[q]? = some [.val (.int .i64 x)] := by rw [List.getElem?_map, h]; rfl
theorem eIs_set {A : List Int} {q : Nat} {x : Int} : (A.map eI).set q [.val (.int .i64 x)] = (A.set q x).map eI := by rw [List.map_set]
theorem bad_of {l : List Ty} {args : List Int} (h : ¬ ∀ j (hj : j < args.length), ¬ (args[j] < 0 ∨ args[j] ≥ (l.length : Int))) : ∃ a ∈ args, ¬(0 ≤ a ∧ a < l.length) := by
  refine Classical.byContradiction fun hn => h fun j hj hx => hn ⟨args[j], List.getElem_mem hj, by omega⟩
theorem good_of {l : List Ty} {args : List Int} (h : ∀ j (hj : j < args.length), ¬ (args[j] < 0 ∨ args[j] ≥ (l.length : Int))) : ∀ a ∈ args, 0 ≤ a ∧ a < l.length := by
  intro a ha
  obtain ⟨j, hj, rfl⟩ := List.getElem_of_mem ha
  have := h j hj
  omega
theorem not_bad {l : List Ty} {i : Nat} {args : List Int} (h1 : ∀ a ∈ args, 0 ≤ a ∧ a < l.length) (h2 : (asksL (l.take (i + 1))).getD i 0 ≤ args.length) : ¬ badArgs l i args := by
  rintro (h | ⟨a, ha, hn⟩)
  · omega
  exact hn (h1 a ha)
theorem subR_bad {l : List Ty} {i : Nat} {args : List Int} (h : badArgs l i args) : subR l i args = .error 1 := by unfold subR; rw [if_pos h]
theorem subR_ok {l : List Ty} {i : Nat} {args : List Int} (h : ¬ badArgs l i args) {out : List Ty} {ins : List Int} (hs : subN l args (asksL (l.take (i + 1))) (partsL l i) (i + 1) = .ok (out, ins)) : subR l i args = .ok (out, ins.getD i 0) := by
  unfold subR; rw [if_neg h, hs]
theorem subR_error {l : List Ty} {i : Nat} {args : List Int} (h : ¬ badArgs l i args) {q : Nat} (hq : q ≤ i + 1) {e : Int} (hs : subN l args (asksL (l.take (i + 1))) (partsL l i) q = .error e) : subR l i args = .error e := by
  have h2 := subN_error hs (i + 1 - q)
  rw [show q + (i + 1 - q) = i + 1 by omega] at h2
  unfold subR; rw [if_neg h, h2]
attribute [local irreducible] AC AT AO AK AH ACalls Sub Res.cells Res.obj Res.nix Res.own Res.map Exit.then Exit.inBlock bodyPost Code.wp Code.wpIn WL Next Post Kont
section
variable {W0 : World} {L : List Res} {F : List Fact} {R : Value → List Res → List Fact → Prop}
set_option maxRecDepth 100000
set_option maxHeartbeats 8000000
theorem there_c (g : Glob W0) (l : List Ty) (hok : ∀ t ∈ l, TyOk t) (i : Int) {a : Option Addr} {k c : Nat} (mL : fL l a k c ∈ F) (h1 : ¬ rightP l → R (.int .i64 1) L F) (h2 : rightP l → ¬(0 ≤ i ∧ i < l.length) → R (.int .i64 8) L F) (h3 : rightP l → 0 ≤ i ∧ i < l.length → R (.int .i64 0) L F) : ACalls Tryz.prog W0 171 #[.slice a k c, .int .i64 i] L F R := by
  refine Ge Tryz.func171 HU Tryz.ntmps171 HU ?_
  refine qs 10 ?_
  refine Ga (Gd HU HU (right_c g l hok memA (fun c7 => ?_) (fun c7 => ?_)))
  ·refine qs 8 ?_
   refine Ga (GB HU HU HU (fun c11 => ?_) (fun c11 => ?_))
   ·refine qs 18 ?_
    exact Gb Tryz.results171 rfl subF (h2 c7 HW)
   refine qs 3 ?_
   refine Gh HU HU (Gv HU HU (fun hl15 => ?_) (hm := by repeat (first | exact mem0 | assumption | refine memS ?_)))
   refine Gh HU HU (Hh HU HU HU (fun c16 => ?_) (fun c16 => ?_))
   ·refine qs 13 ?_
    exact Gb Tryz.results171 rfl subF (h2 c7 HW)
   refine qs 14 ?_
   exact Gb Tryz.results171 rfl subF (h3 c7 HW)
  refine qs 13 ?_
  exact Gb Tryz.results171 rfl subF (h1 c7)
theorem sub1_c (l : List Ty) (s : Int) {a3 : Option Addr} {k3 c3 b i : Nat} {ty : TypeId} (m3 : fL l a3 k3 c3 ∈ F) (hb : L[i]? = some (Res.cells b #[.slice a3 k3 c3] ty)) (hT : s < 0 ∨ s ≥ l.length → R (.bool true) L F) (hF : ¬(s < 0 ∨ s ≥ l.length) → R (.bool false) L F) :
    ACalls Tryz.prog W0 173 #[.int .i64 s, .pointer (some ⟨b, 0, none⟩)] L F R := by
  refine Ge Tryz.func173 HU Tryz.ntmps173 HU ?_
  refine qs 8 ?_
  refine Ga (GB HU HU HU (fun c5 => ?_) (fun c5 => ?_))
  ·refine qs 10 ?_
   first | exact Gb (L' := L) (F' := F) Tryz.results173 rfl subF (hT (Or.inl c5)) | exact Gb (L' := L) (F' := F) Tryz.results173 rfl subF (hT (Or.inr c10)) | exact Gb (L' := L) (F' := F) Tryz.results173 rfl subF (hF HW)
  refine qs 2 ?_
  refine Gh HU HU (Gw (cs := [.slice a3 k3 c3]) HU HU ?_ (hi := hb) (hv := HU))
  refine Gh HU HU (Gv HU HU (fun hl9 => ?_) (hm := m3))
  refine Gh HU HU (Hh HU HU HU (fun c10 => ?_) (fun c10 => ?_))
  ·refine qs 5 ?_
   first | exact Gb (L' := L) (F' := F) Tryz.results173 rfl subF (hT (Or.inl c5)) | exact Gb (L' := L) (F' := F) Tryz.results173 rfl subF (hT (Or.inr c10)) | exact Gb (L' := L) (F' := F) Tryz.results173 rfl subF (hF HW)
  refine qs 5 ?_
  first | exact Gb (L' := L) (F' := F) Tryz.results173 rfl subF (hT (Or.inl c5)) | exact Gb (L' := L) (F' := F) Tryz.results173 rfl subF (hT (Or.inr c10)) | exact Gb (L' := L) (F' := F) Tryz.results173 rfl subF (hF HW)
end
end Go.Sy
namespace Go.Sy
abbrev Gt := @getD_eq
abbrev Hp := @right_ok
abbrev HH := @zips_kids
abbrev HQ := @subR_error
end Go.Sy
namespace Go.Sy
open Go Go.Proofs
def askAt (N : List Ty) (p : Nat) : Int := (asksL N).getD p 0
theorem ask_all (N : List Ty) : asksL N = asksL (N.take N.length) := by rw [List.take_length]
theorem ask_in {N : List Ty} {i p : Nat} (hi : i < N.length) (hp : p ≤ i) : (asksL (N.take (i + 1))).getD p 0 = askAt N p := by
  unfold askAt
  rw [ask_all N]
  have e : N.length = i + 1 + (N.length - (i + 1)) := by omega
  have := asks_pre N (N.length - (i + 1)) (i + 1) p HW HW
  rw [← e] at this
  exact this.symm
theorem ask_one {N : List Ty} {p : Nat} (hp : p < N.length) : askAt N p = ask1 (asksL (N.take p)) N[p] := by
  rw [← ask_in hp (Nat.le_refl p)]
  exact asks_at hp (Nat.le_refl p)
theorem ask_pre {N M : List Ty} (h : N <+: M) {p : Nat} (hp : p < N.length) : askAt M p = askAt N p := by
  obtain ⟨r, rfl⟩ := h
  have hp2 : p < (N ++ r).length := by simp; omega
  rw [← ask_in hp2 (Nat.le_refl p), ← ask_in hp (Nat.le_refl p), List.take_append_of_le_length HW]
theorem ask_nonneg {N : List Ty} (hr : rightP N) {p : Nat} (hp : p < N.length) : 0 ≤ askAt N p := by
  rw [← ask_in hp (Nat.le_refl p)]; exact asks_nonneg hr hp (Nat.le_refl p)
theorem ask_kid {N : List Ty} (hr : rightP N) {p : Nat} (hp : p < N.length) {k : Int} (hk : k ∈ N[p].kids) : askAt N k.toNat ≤ askAt N p := by
  have hb := (GL hr hp).kids k hk
  rw [← ask_in hp (Nat.le_refl p), ← ask_in hp (show k.toNat ≤ p by omega)]
  exact asks_kid hr hp (Nat.le_refl p) hk
theorem ask_param {N : List Ty} (hr : rightP N) {p : Nat} (hp : p < N.length) (h9 : N[p].kind = 9) : askAt N p = N[p].n + 1 := by
  rw [ask_one hp]
  unfold ask1 ask0
  rw [if_pos h9, ((GL hr hp).param h9).2.2]; rfl
def mapG (g : Int → Nat) (t : Ty) : Ty := ⟨t.kind, t.name, t.n, t.words, t.kids.map fun k => ((g k : Nat) : Int)⟩
def normT (m : Nat) (t : Ty) : Ty := if t.kind = 7 then termsT m t else t
theorem mapG_congr {g f : Int → Nat} {t : Ty} (h : ∀ k ∈ t.kids, g k = f k) : mapG g t = mapG f t := by
  unfold mapG; congr 1; exact List.map_congr_left fun k hk => by rw [h k hk]
theorem zips_mapG (g : Int → Nat) (t : Ty) : zips (mapG g t) = (zips t).map fun z => (z.1, ((g z.2 : Nat) : Int)) := by
  unfold zips mapG; simp only; rw [List.zip_map_right]; rfl
theorem declsR_map (f : Int → Int) (zs : List Tm) : declsR (zs.map fun z => (z.1, f z.2)) = (declsR zs).map fun z => (z.1, f z.2) := by
  unfold declsR; rw [List.filter_map]; rfl
theorem markOf_set (zs : List Tm) (k : Int) : (markOf zs k = [126] ↔ ([126], k) ∈ zs) ∧ (markOf zs k = [61] ↔ ([126], k) ∉ zs ∧ ([61], k) ∈ zs) := by
  refine snocInd (P := fun zs => (markOf zs k = [126] ↔ ([126], k) ∈ zs) ∧ (markOf zs k = [61] ↔ ([126], k) ∉ zs ∧ ([61], k) ∈ zs)) ?_ ?_ zs
  · simp [markOf]
  intro zs z ih
  obtain ⟨z1, z2⟩ := z
  obtain ⟨h1, h2⟩ := ih
  rw [markOf_snoc]
  simp only [List.mem_append, List.mem_singleton, Prod.mk.injEq]
  by_cases c : markP z1 ∧ z2 = k ∧ markOf zs k ≠ [126]
  · rw [if_pos c]
    obtain ⟨c1, rfl, c3⟩ := c
    have hn : ([126], z2) ∉ zs := fun h => c3 (h1.2 h)
    rcases c1 with rfl | rfl
    · simp [hn]
    simp [hn]
  rw [if_neg c]
  constructor
  · rw [h1]
    constructor
    · exact fun h => .inl h
    rintro (h | ⟨rfl, rfl⟩)
    · exact h
    refine h1.1 (Classical.byContradiction fun h => c ⟨.inr rfl, rfl, h⟩)
  rw [h2]
  constructor
  · rintro ⟨a, b⟩
    refine ⟨fun h => h.elim a ?_, .inl b⟩
    rintro ⟨rfl, rfl⟩
    exact c ⟨.inr rfl, rfl, fun h => a (h1.1 h)⟩
  rintro ⟨a, b⟩
  refine ⟨fun h => a (.inl h), ?_⟩
  rcases b with b | ⟨rfl, rfl⟩
  · exact b
  exact absurd (h1.1 (Classical.byContradiction fun h => c ⟨.inl rfl, rfl, h⟩)) (fun h => a (.inl h))
theorem mark_ext {zs ws : List Tm} {k : Int} (h1 : ([126], k) ∈ zs ↔ ([126], k) ∈ ws) (h2 : ([126], k) ∉ zs → (([61], k) ∈ zs ↔ ([61], k) ∈ ws)) : markOf zs k = markOf ws k := by
  obtain ⟨a1, a2⟩ := markOf_set zs k
  obtain ⟨b1, b2⟩ := markOf_set ws k
  rcases markOf_is zs k with e | e | e
  · rcases markOf_is ws k with f | f | f
    · rw [e, f]
    · have := b2.1 f
      have hz : ([126], k) ∉ zs := fun h => this.1 (h1.1 h)
      rw [a2.2 ⟨hz, (h2 hz).2 this.2⟩, f]
    rw [a1.2 (h1.2 (b1.1 f)), f]
  · have := a2.1 e
    rw [e, b2.2 ⟨fun h => this.1 (h1.2 h), (h2 this.1).1 this.2⟩]
  rw [e, b1.2 (h1.1 (a1.1 e))]
theorem decl_no_mark {zs : List Tm} {z : Tm} (h : z ∈ declsR zs) : ¬ markP z.1 := by
  have := (List.mem_filter.1 h).2
  simpa using this
theorem decl_mem {zs : List Tm} {z : Tm} (h : z ∈ zs) (hm : ¬ markP z.1) : z ∈ declsR zs := List.mem_filter.2 ⟨h, by simpa using hm⟩
theorem termsR_mark {m : Nat} {zs : List Tm} {z : Tm} (h : z ∈ termsR m zs) : markP z.1 := by
  have := (Hs m zs z).1 h
  exact this.1 ▸ (markOf_is zs z.2).resolve_left (by rw [← this.1]; exact this.2.1)
theorem declsR_app (a b : List Tm) : declsR (a ++ b) = declsR a ++ declsR b := by unfold declsR; exact List.filter_append ..
theorem declsR_self (zs : List Tm) : declsR (declsR zs) = declsR zs := by unfold declsR; simp
theorem declsR_marks {zs : List Tm} (h : ∀ z ∈ zs, markP z.1) : declsR zs = [] := by
  unfold declsR
  rw [List.filter_eq_nil_iff]
  intro z hz
  simp [h z hz]
theorem termsR_ext {m : Nat} {zs ws : List Tm} (h : ∀ k : Int, markOf zs k = markOf ws k) : termsR m zs = termsR m ws := by
  unfold termsR; congr 1; funext p; rw [h]
theorem zips_terms (m : Nat) (t : Ty) : zips (termsT m t) = declsR (zips t) ++ termsR m (zips t) := by
  unfold termsT
  generalize declsR (zips t) ++ termsR m (zips t) = zs
  unfold zips
  simp only
  induction zs with
  | nil => rfl
  | cons z zs ih => simp [ih]
theorem terms_twice {m m2 : Nat} {t : Ty} (hk : ∀ k ∈ t.kids, 0 ≤ k ∧ k < m) (g : Int → Nat) : termsT m2 (mapG g (termsT m t)) = termsT m2 (mapG g t) := by
  have hz : zips (mapG g (termsT m t)) = (declsR (zips t) ++ termsR m (zips t)).map fun z => (z.1, ((g z.2 : Nat) : Int)) := by rw [zips_mapG, zips_terms]
  have hd : declsR (zips (mapG g (termsT m t))) = declsR (zips (mapG g t)) := by
    rw [hz, zips_mapG, declsR_map (fun k => ((g k : Nat) : Int)), declsR_map (fun k => ((g k : Nat) : Int)), declsR_app, declsR_self, declsR_marks (fun z h => termsR_mark h), List.append_nil]
  have hin := zips_in hk
  have hm : ∀ (w : List UInt8) (k : Int), markP w → ((w, k) ∈ zips (mapG g (termsT m t)) ↔ ∃ p, (w, p) ∈ termsR m (zips t) ∧ ((g p : Nat) : Int) = k) := by
    intro w k hw
    rw [hz, List.mem_map]
    constructor
    · rintro ⟨⟨w2, p⟩, hx, e⟩
      simp only [Prod.mk.injEq] at e
      obtain ⟨rfl, e⟩ := e
      rcases List.mem_append.1 hx with hx | hx
      · exact absurd hw (decl_no_mark hx)
      exact ⟨p, hx, e⟩
    rintro ⟨p, hx, e⟩
    exact ⟨(w, p), List.mem_append_right _ hx, by simp [e]⟩
  have hn : ∀ (w : List UInt8) (k : Int), ((w, k) ∈ zips (mapG g t) ↔ ∃ p, (w, p) ∈ zips t ∧ ((g p : Nat) : Int) = k) := by
    intro w k
    rw [zips_mapG, List.mem_map]
    constructor
    · rintro ⟨⟨w2, p⟩, hx, e⟩
      simp only [Prod.mk.injEq] at e
      obtain ⟨rfl, e⟩ := e
      exact ⟨p, hx, e⟩
    rintro ⟨p, hx, e⟩
    exact ⟨(w, p), hx, by simp [e]⟩
  have h126 : ∀ p, ([126], p) ∈ termsR m (zips t) ↔ ([126], p) ∈ zips t := by
    intro p
    rw [Hs]
    simp only
    constructor
    · rintro ⟨h1, _⟩; exact (markOf_set (zips t) p).1.1 h1.symm
    intro h
    have := hin _ h
    exact ⟨((markOf_set (zips t) p).1.2 h).symm, by simp, this.1, this.2⟩
  have hmark : ∀ k : Int, markOf (zips (mapG g (termsT m t))) k = markOf (zips (mapG g t)) k := by
    intro k
    refine mark_ext ?_ ?_
    · rw [hm [126] k (.inr rfl), hn]
      exact ⟨fun ⟨p, h, e⟩ => ⟨p, (h126 p).1 h, e⟩, fun ⟨p, h, e⟩ => ⟨p, (h126 p).2 h, e⟩⟩
    intro hno
    rw [hm [126] k (.inr rfl)] at hno
    rw [hm [61] k (.inl rfl), hn]
    constructor
    · rintro ⟨p, h, e⟩
      have h1 := ((Hs m (zips t) ([61], p)).1 h).1
      exact ⟨p, ((markOf_set (zips t) p).2.1 h1.symm).2, e⟩
    rintro ⟨p, h, e⟩
    have h2 : ([126], p) ∉ zips t := fun h3 => hno ⟨p, (h126 p).2 h3, e⟩
    have := hin _ h
    exact ⟨p, (Hs m (zips t) ([61], p)).2 ⟨((markOf_set (zips t) p).2.2 ⟨h2, h⟩).symm, by simp, this.1, this.2⟩, e⟩
  show (⟨_, _, _, _, _⟩ : Ty) = ⟨_, _, _, _, _⟩
  rw [hd, termsR_ext hmark]
  rfl
theorem terms_kids {m : Nat} {t : Ty} (hw : t.words.length = t.kids.length) (hk : ∀ k ∈ t.kids, 0 ≤ k ∧ k < m) : ∀ k : Int, k ∈ (termsT m t).kids ↔ k ∈ t.kids := by
  intro k
  have e : (termsT m t).kids = (declsR (zips t) ++ termsR m (zips t)).map (·.2) := rfl
  have hz : ∀ k, k ∈ t.kids ↔ ∃ w, (w, k) ∈ zips t := by
    intro k
    constructor
    · intro h
      obtain ⟨i, hi, rfl⟩ := List.getElem_of_mem h
      have hl : i < (zips t).length := by rw [HH hw]; exact hi
      exact ⟨t.words[i]'HW, by rw [← HN HW hi hl]; exact List.getElem_mem hl⟩
    rintro ⟨w, h⟩; exact (List.of_mem_zip h).2
  rw [e, hz, List.mem_map]
  constructor
  · rintro ⟨⟨w, p⟩, hx, rfl⟩
    rcases List.mem_append.1 hx with hx | hx
    · exact ⟨w, (List.mem_filter.1 hx).1⟩
    have h1 := (Hs m (zips t) (w, p)).1 hx
    obtain ⟨z, hz1, _, e2⟩ := markOf_kid (zips t) p (by rw [← h1.1]; exact h1.2.1)
    obtain ⟨w2, p2⟩ := z
    simp only at e2
    exact ⟨w2, e2 ▸ hz1⟩
  rintro ⟨w, h⟩
  by_cases hm : markP w
  · have hb := zips_in hk _ h
    have hne : markOf (zips t) k ≠ [] := by
      rcases hm with rfl | rfl
      · by_cases h2 : ([126], k) ∈ zips t
        · rw [(markOf_set (zips t) k).1.2 h2]; simp
        rw [(markOf_set (zips t) k).2.2 ⟨h2, h⟩]; simp
      rw [(markOf_set (zips t) k).1.2 h]; simp
    exact ⟨(markOf (zips t) k, k), List.mem_append_right _ ((Hs m (zips t) _).2 ⟨rfl, hne, hb.1, hb.2⟩), rfl⟩
  exact ⟨(w, k), List.mem_append_left _ (decl_mem h hm), rfl⟩
end Go.Sy
namespace Go.Sy
open Go Go.Proofs
theorem markOf_none {zs : List Tm} {k : Int} (h : ∀ z ∈ zs, z.2 ≠ k) : markOf zs k = [] := by
  refine Classical.byContradiction fun hn => ?_
  obtain ⟨z, hz, _, e⟩ := markOf_kid zs k hn
  exact h z hz e
theorem termsR_more {m : Nat} {zs : List Tm} (hz : ∀ z ∈ zs, 0 ≤ z.2 ∧ z.2 < m) : ∀ d, termsR (m + d) zs = termsR m zs
  | 0 => rfl
  | d + 1 => by
    have e : termsR (m + (d + 1)) zs = termsR (m + d) zs ++ (if markOf zs ((m + d : Nat) : Int) = [] then [] else [(markOf zs ((m + d : Nat) : Int), ((m + d : Nat) : Int))]) := by
      unfold termsR
      rw [show m + (d + 1) = m + d + 1 by omega, List.range_succ, List.filterMap_append]
      generalize m + d = x
      congr 1
      by_cases h : markOf zs (x : Int) = []
      · simp [h]
      simp [h]
    rw [e, if_pos (markOf_none fun z hx e2 => by have := hz z hx; omega), List.append_nil, termsR_more hz d]
theorem norm_more {m m2 : Nat} {t : Ty} (hk : ∀ k ∈ t.kids, 0 ≤ k ∧ k < m) (h : m ≤ m2) : normT m2 t = normT m t := by
  unfold normT
  split
  · unfold termsT
    obtain ⟨d, rfl⟩ : ∃ d, m2 = m + d := ⟨m2 - m, by omega⟩
    rw [termsR_more (zips_in hk)]
  rfl
theorem norm_kind (m : Nat) (t : Ty) : (normT m t).kind = t.kind := by unfold normT; split <;> rfl
theorem norm_kids {m : Nat} {t : Ty} (hw : t.kind = 7 → t.words.length = t.kids.length) (hk : ∀ k ∈ t.kids, 0 ≤ k ∧ k < m) (k : Int) : k ∈ (normT m t).kids ↔ k ∈ t.kids := by
  unfold normT
  split
  · exact terms_kids (hw ‹_›) hk k
  exact Iff.rfl
theorem mapG_kids {g : Int → Nat} {m : Nat} {t : Ty} (h : ∀ k ∈ t.kids, g k < m) : ∀ k ∈ (mapG g t).kids, 0 ≤ k ∧ k < m := by
  intro k hk
  obtain ⟨x, hx, rfl⟩ := List.mem_map.1 hk
  have := h x hx
  omega
theorem mapG_in {g : Int → Nat} {t : Ty} {k : Int} (h : k ∈ t.kids) : ((g k : Nat) : Int) ∈ (mapG g t).kids := List.mem_map.2 ⟨k, h, rfl⟩
theorem odd_pre {N M : List Ty} (h : N <+: M) {t : Ty} (hk : ∀ k ∈ t.kids, 0 ≤ k ∧ k < N.length) : oddP M t ↔ oddP N t := by
  have e : ∀ k : Int, 0 ≤ k → k < N.length → kindAt M k = kindAt N k := by
    obtain ⟨r, rfl⟩ := h
    intro k h0 h1
    unfold kindAt
    rw [List.getElem?_append_left HW]
  unfold oddP
  constructor
  · rintro ⟨z, hz, hm, ho⟩
    have := zips_in hk z hz
    exact ⟨z, hz, hm, by rw [← e _ this.1 this.2]; exact ho⟩
  rintro ⟨z, hz, hm, ho⟩
  have := zips_in hk z hz
  exact ⟨z, hz, hm, by rw [e _ this.1 this.2]; exact ho⟩
theorem get_pre {N M : List Ty} (h : N <+: M) {p : Nat} (hp : p < N.length) : M[p]'(Nat.lt_of_lt_of_le hp h.length_le) = N[p] := by
  obtain ⟨r, rfl⟩ := h
  exact List.getElem_append_left hp
inductive SubS (N : List Ty) (args : List Int) : Nat → Nat → Prop where
  | stay {p : Nat} (hp : p < N.length) (h : askAt N p = 0) : SubS N args p p
  | param {p q : Nat} (hp : p < N.length) (h9 : N[p].kind = 9) (hq : args[N[p].n.toNat]? = some (q : Int)) : SubS N args p q
  | made {p q : Nat} (g : Int → Nat) (hp : p < N.length) (h9 : N[p].kind ≠ 9) (ha : askAt N p ≠ 0) (hg : ∀ k ∈ N[p].kids, SubS N args k.toNat (g k)) (ho : N[p].kind = 7 → ¬ oddP N (mapG g N[p])) (hq : q < N.length) (hN : N[q] = normT N.length (mapG g N[p])) : SubS N args p q
section
variable {N : List Ty} {args : List Int}
theorem SubS.lt (hgood : ∀ a ∈ args, 0 ≤ a ∧ a < N.length) {p q : Nat} (h : SubS N args p q) : q < N.length := by
  cases h with
  | stay hp _ => exact hp
  | param hp h9 hq =>
    have := hgood _ (List.mem_of_getElem? hq)
    omega
  | made g hp h9 ha hg ho hq hN => exact hq
theorem ask_pos {p : Nat} (hr : rightP N) (hp : p < N.length) (h9 : N[p].kind = 9) : askAt N p ≠ 0 := by
  have h1 := ask_param hr hp h9
  have h2 := ((GL hr hp).param h9).1
  omega
theorem SubS.inj (hr : rightP N) : ∀ p q q2, SubS N args p q → SubS N args p q2 → q = q2 := by
  intro p
  induction p using Nat.strongRecOn with
  | ind p ih =>
    intro q q2 h1 h2
    cases h1 with
    | stay hp h =>
      cases h2 with
      | stay _ _ => rfl
      | param _ h9 _ => exact absurd h (ask_pos hr hp h9)
      | made g _ h9 ha _ _ _ _ => exact absurd h ha
    | param hp h9 hq =>
      cases h2 with
      | stay _ h => exact absurd h (ask_pos hr hp h9)
      | param _ _ hq2 => rw [hq] at hq2; injection hq2 with e; omega
      | made g _ h92 _ _ _ _ _ => exact absurd h9 h92
    | made g hp h9 ha hg ho hq hN =>
      cases h2 with
      | stay _ h => exact absurd h ha
      | param _ h92 _ => exact absurd h92 h9
      | made f _ _ _ hf _ hq2 hN2 =>
        have e : mapG g N[p] = mapG f N[p] := mapG_congr fun k hk => by
          have hb := (GL hr hp).kids k hk
          exact ih k.toNat HW _ _ (hg k hk) (hf k hk)
        exact right_inj hr hq hq2 (by rw [hN, hN2, e])
theorem SubS.mono {M : List Ty} (h : N <+: M) (hgood : ∀ a ∈ args, 0 ≤ a ∧ a < N.length) {p q : Nat} (hs : SubS N args p q) : SubS M args p q := by
  have hl := h.length_le
  induction hs with
  | stay hp h0 => exact .stay HW (by rw [ask_pre h hp]; exact h0)
  | param hp h9 hq => exact .param HW (by rw [get_pre h hp]; exact h9) (by rw [get_pre h hp]; exact hq)
  | @made p q g hp h9 ha hg ho hq hN ih =>
    have hk := mapG_kids (g := g) fun k hk => (hg k hk).lt hgood
    refine .made g HW (by rw [get_pre h hp]; exact h9) (by rw [ask_pre h hp]; exact ha) (fun k hk => ?_) ?_ HW ?_
    · rw [get_pre h hp] at hk; exact ih k hk
    · rw [get_pre h hp]
      intro h7
      rw [odd_pre h hk]
      exact ho h7
    rw [get_pre h hq, get_pre h hp, hN, norm_more hk hl]
theorem SubS.parts (hr : rightP N) {i : Nat} (hi : i < N.length) (h0 : ∃ q, SubS N args i q) : ∀ j, j ≤ i + 1 → ∀ p, (partsN N i j).getD p false = true → ∃ q, SubS N args p q
  | 0, _, p, h => by
    rw [partsN, set_getD] at h
    split at h
    · rename_i c; rw [← c.1]; exact h0
    rw [List.getD_eq_getElem?_getD, List.getElem?_replicate] at h
    split at h <;> simp at h
  | j + 1, hj, p, h => by
    rw [mkpart_get hr hi j HW] at h
    rcases h with h | ⟨h1, k, hk, e⟩
    · exact SubS.parts hr hi h0 j HW p h
    obtain ⟨q, hq⟩ := SubS.parts hr hi h0 j HW _ h1
    have hb := kid_low hr hi (Nat.sub_le i j) hk
    rw [row_kid hi (Nat.sub_le i j)] at hk
    rw [← e]
    cases hq with
    | stay hp h =>
      have h3 := ask_kid hr hp hk
      have h4 := ask_nonneg hr (show k.toNat < N.length by omega)
      exact ⟨_, .stay HW HW⟩
    | param hp h9 _ => rw [((GL hr hp).param h9).2.2] at hk; simp at hk
    | made g hp _ _ hg _ _ _ => exact ⟨_, hg k hk⟩
end
theorem mapK_G {ins : List Int} {t : Ty} (h : ∀ k ∈ t.kids, 0 ≤ ins.getD k.toNat 0) : mapK ins t = mapG (fun k => (ins.getD k.toNat 0).toNat) t := by
  unfold mapK mapG
  congr 1
  exact List.map_congr_left fun k hk => by have := h k hk; simp only; omega
theorem add_at {l : List Ty} {t : Ty} {m : List Ty} {i e : Int} (h : AddP l t m i e) (he : e = 0) : ∃ q : Nat, ∃ hq : q < m.length, i = (q : Int) ∧ m[q] = t := by
  rcases h with ⟨q, hq, h1, h2, h3, h4⟩ | ⟨n, ⟨_, h2, _, h4⟩ | ⟨_, _, h2, _, h4⟩ | ⟨hm, hl, h2, h3, h4⟩⟩
  · subst h2; exact ⟨q, hq, h3, h1⟩
  · omega
  · omega
  subst h2; exact ⟨l.length, by simp, h3, by simp⟩
theorem add_has (l : List Ty) (t : Ty) : ∃ m i e, AddP l t m i e := by
  by_cases h : t ∈ l
  · obtain ⟨q, hq, e⟩ := List.getElem_of_mem h
    exact ⟨l, q, 0, .inl ⟨q, hq, e, rfl, rfl, rfl⟩⟩
  by_cases h2 : madeP l t
  · by_cases h3 : l.length = 400
    · exact ⟨[], 0, 7, .inr ⟨h, .inr (.inl ⟨h2, h3, rfl, rfl, rfl⟩)⟩⟩
    exact ⟨l ++ [t], l.length, 0, .inr ⟨h, .inr (.inr ⟨h2, h3, rfl, rfl, rfl⟩)⟩⟩
  exact ⟨[], 0, 1, .inr ⟨h, .inl ⟨h2, rfl, rfl, rfl⟩⟩⟩
theorem put_ok {out : List Ty} {ins : List Int} {t : Ty} (hr : rightP out) {o : List Ty} {ins2 : List Int} (h : putS out ins t = .ok (o, ins2)) : (t.kind = 7 → ¬ oddP out t) ∧ ∃ q : Nat, ∃ hq : q < o.length, rightP o ∧ out <+: o ∧ ins2 = ins ++ [(q : Int)] ∧ o[q] = normT out.length t := by
  by_cases h7 : t.kind = 7
  · by_cases ho : oddP out t
    · rw [put_odd h7 ho] at h; cases h
    obtain ⟨m, i, e, hP⟩ := add_has out (termsT out.length t)
    rw [put_iface hr h7 ho hP] at h
    split at h
    · rename_i he
      obtain ⟨h1, h2, _, _⟩ := add_pre hr hP he
      obtain ⟨q, hq, rfl, e2⟩ := add_at hP he
      injection h with h; injection h with h h'
      subst h h'
      exact ⟨fun _ => ho, q, hq, h1, h2, rfl, by unfold normT; rw [if_pos h7]; exact e2⟩
    cases h
  obtain ⟨m, i, e, hP⟩ := add_has out t
  rw [put_plain hr h7 hP] at h
  split at h
  · rename_i he
    obtain ⟨h1, h2, _, _⟩ := add_pre hr hP he
    obtain ⟨q, hq, rfl, e2⟩ := add_at hP he
    injection h with h; injection h with h h'
    subst h h'
    exact ⟨fun h => absurd h h7, q, hq, h1, h2, rfl, by unfold normT; rw [if_neg h7]; exact e2⟩
  cases h
theorem put_found {out : List Ty} {ins : List Int} {t : Ty} (hr : rightP out) (ho : t.kind = 7 → ¬ oddP out t) {q : Nat} (hq : q < out.length) (h : out[q] = normT out.length t) : putS out ins t = .ok (out, ins ++ [(q : Int)]) := by
  by_cases h7 : t.kind = 7
  · have hP : AddP out (termsT out.length t) out (q : Int) 0 := .inl ⟨q, hq, by rw [h]; unfold normT; rw [if_pos h7], rfl, rfl, rfl⟩
    rw [put_iface hr h7 (ho h7) hP, if_pos rfl]
  have hP : AddP out t out (q : Int) 0 := .inl ⟨q, hq, by rw [h]; unfold normT; rw [if_neg h7], rfl, rfl, rfl⟩
  rw [put_plain hr h7 hP, if_pos rfl]
section
variable {l : List Ty} {args : List Int} {i : Nat}
theorem sub_sound (hr : rightP l) (hi : i < l.length) (hgood : ∀ a ∈ args, 0 ≤ a ∧ a < l.length) (hlen : (asksL (l.take (i + 1))).getD i 0 ≤ args.length) : ∀ q, q ≤ i + 1 → ∀ out ins, subN l args (asksL (l.take (i + 1))) (partsL l i) q = .ok (out, ins) →
    SubOk l q out ins ∧ ∀ p, p < q → (partsL l i).getD p false = true → SubS out args p (ins.getD p 0).toNat
  | 0, _, out, ins, h => by
    injection h with h; injection h with h h'
    subst h h'
    exact ⟨⟨hr, List.prefix_rfl, rfl, fun p hp => absurd hp HW⟩, fun p hp => absurd hp HW⟩
  | q + 1, hq, out2, ins2, h => by
    rw [subN] at h
    cases hs : subN l args (asksL (l.take (i + 1))) (partsL l i) q with
    | error e => rw [hs] at h; cases h
    | ok x =>
      obtain ⟨out, ins⟩ := x
      rw [hs] at h
      simp only at h
      obtain ⟨hso, hS⟩ := sub_sound hr hi hgood hlen q HW out ins hs
      have hql : q < l.length := by omega
      have hol := hso.pre.length_le
      have hil := hso.len
      have hrt := GL hr hql
      have hgo : ∀ a ∈ args, 0 ≤ a ∧ a < out.length := fun a ha => by have := hgood a ha; omega
      have hlast : ∀ x : Int, (ins ++ [x]).getD q 0 = x := fun x => by rw [← hil]; simp [List.getD_eq_getElem?_getD]
      have hold : ∀ (x : Int) p, p < q → (ins ++ [x]).getD p 0 = ins.getD p 0 := fun x p hp => getD_app _ _ _ HW
      have hq2 : q < out.length := by omega
      have hoq : out[q] = l[q] := get_pre hso.pre hql
      unfold stepS at h
      by_cases c : (partsL l i).getD q false = false ∨ (asksL (l.take (i + 1))).getD q 0 = 0
      · rw [if_pos c] at h
        injection h with h; injection h with h h'
        subst h h'
        refine ⟨hso.step hso.right List.prefix_rfl HW, fun p hp hM => ?_⟩
        by_cases e : p = q
        · subst e
          rw [hlast]
          have h0 : askAt out p = 0 := by rw [ask_pre hso.pre hql, ← ask_in hi HW]; exact c.resolve_left (by rw [hM]; simp)
          exact .stay hq2 h0
        rw [hold _ _ HW]; exact hS p HW hM
      rw [if_neg c] at h
      have hM1 : (partsL l i).getD q false = true := by
        cases hx : (partsL l i).getD q false
        · exact absurd (.inl hx) c
        rfl
      rw [Gt _ hql] at h
      by_cases h9 : l[q].kind = 9
      · rw [if_pos h9] at h
        injection h with h; injection h with h h'
        subst h h'
        have hp9 := hrt.param h9
        have hask := (parts_ask hr hi (i + 1) (Nat.le_refl _) hM1).2
        have hA9 : (asksL (l.take (i + 1))).getD q 0 = l[q].n + 1 := by rw [ask_in hi HW]; exact ask_param hr hql h9
        have hna : l[q].n.toNat < args.length := by omega
        have hga := Gt (0 : Int) hna
        have hgr := hgood _ (List.getElem_mem hna)
        refine ⟨hso.step hso.right List.prefix_rfl (by rw [hga]; omega), fun p hp hM => ?_⟩
        by_cases e : p = q
        · subst e
          rw [hlast, hga]
          refine .param hq2 (by rw [hoq]; exact h9) ?_
          rw [hoq, List.getElem?_eq_getElem hna]
          congr 1; omega
        rw [hold _ _ HW]; exact hS p HW hM
      rw [if_neg h9] at h
      obtain ⟨ho, q2, hq2l, hr2, hp2, rfl, hN⟩ := put_ok hso.right h
      have hkids : ∀ k ∈ l[q].kids, 0 ≤ ins.getD k.toNat 0 ∧ ins.getD k.toNat 0 < out.length := fun k hk => by
        have := hrt.kids k hk
        exact hso.ins k.toNat HW
      refine ⟨hso.step hr2 hp2 HW, fun p hp hM => ?_⟩
      by_cases e : p = q
      · subst e
        rw [hlast]
        have hol2 := hp2.length_le
        have hpre := hso.pre.trans hp2
        have ho2 : out2[p]'HW = l[p] := get_pre hpre hql
        have hm := mapK_G fun k hk => (hkids k hk).1
        have hmk : ∀ k ∈ (mapK ins l[p]).kids, 0 ≤ k ∧ k < out.length := mapK_kids hso.ins hrt.kids
        refine .made (fun k => (ins.getD k.toNat 0).toNat) HW (by rw [ho2]; exact h9) ?_ (fun k hk => ?_) ?_ HW ?_
        · rw [ask_pre hpre hql, ← ask_in hi HW]; exact fun h0 => c (.inr h0)
        · rw [ho2] at hk
          have := hrt.kids k hk
          exact (hS k.toNat HW (parts_kid hr hi HW hM1 hk)).mono hp2 hgo
        · rw [ho2, ← hm]
          intro h7
          rw [odd_pre hp2 hmk]
          exact ho h7
        have e3 : (((q2 : Nat) : Int)).toNat = q2 := by omega
        simp only [e3]
        rw [ho2, ← hm, hN, norm_more hmk hol2]
      rw [hold _ _ HW]
      exact (hS p HW hM).mono hp2 hgo
theorem sub_complete (hr : rightP l) (hi : i < l.length) (hall : ∀ p, (partsL l i).getD p false = true → ∃ q, SubS l args p q) (hgood : ∀ a ∈ args, 0 ≤ a ∧ a < l.length) : ∀ q, q ≤ i + 1 → ∃ ins, subN l args (asksL (l.take (i + 1))) (partsL l i) q = .ok (l, ins) ∧ ins.length = q ∧ ∀ p, p < q → (partsL l i).getD p false = true → ∃ x : Nat, ins.getD p 0 = (x : Int) ∧ SubS l args p x
  | 0, _ => ⟨[], rfl, rfl, fun p hp => absurd hp HW⟩
  | q + 1, hq => by
    obtain ⟨ins, hs, hil, hS⟩ := sub_complete hr hi hall hgood q HW
    have hql : q < l.length := by omega
    have hrt := GL hr hql
    have hlast : ∀ x : Int, (ins ++ [x]).getD q 0 = x := fun x => by rw [← hil]; simp [List.getD_eq_getElem?_getD]
    have hold : ∀ (x : Int) p, p < q → (ins ++ [x]).getD p 0 = ins.getD p 0 := fun x p hp => getD_app _ _ _ HW
    have fin : ∀ x : Nat, subN l args (asksL (l.take (i + 1))) (partsL l i) (q + 1) = .ok (l, ins ++ [(x : Int)]) → ((partsL l i).getD q false = true → SubS l args q x) → ∃ ins, subN l args (asksL (l.take (i + 1))) (partsL l i) (q + 1) = .ok (l, ins) ∧ ins.length = q + 1 ∧ ∀ p, p < q + 1 → (partsL l i).getD p false = true → ∃ x : Nat, ins.getD p 0 = (x : Int) ∧ SubS l args p x := by
      intro x h1 h2
      refine ⟨_, h1, by rw [List.length_append, hil]; rfl, fun p hp hM => ?_⟩
      by_cases e : p = q
      · subst e; exact ⟨x, hlast _, h2 hM⟩
      rw [hold _ _ HW]; exact hS p HW hM
    by_cases c : (partsL l i).getD q false = false ∨ (asksL (l.take (i + 1))).getD q 0 = 0
    · refine fin q (sub_out hs c) fun hM => .stay hql ?_
      rw [← ask_in hi HW]; exact c.resolve_left (by rw [hM]; simp)
    have hM1 : (partsL l i).getD q false = true := by
      cases hx : (partsL l i).getD q false
      · exact absurd (.inl hx) c
      rfl
    have hA : (asksL (l.take (i + 1))).getD q 0 ≠ 0 := fun h => c (.inr h)
    obtain ⟨x, hx⟩ := hall q hM1
    cases hx with
    | stay _ h => rw [← ask_in hi HW] at h; exact absurd h hA
    | param _ h9 hq2 =>
      have e : args.getD l[q].n.toNat 0 = (x : Int) := by rw [List.getD_eq_getElem?_getD, hq2]; rfl
      have h1 := sub_param hs hM1 hA hql h9
      rw [e] at h1
      exact fin x h1 fun _ => .param hql h9 hq2
    | made g _ h9 ha hg ho hx2 hN =>
      have hk : ∀ k ∈ l[q].kids, ins.getD k.toNat 0 = ((g k : Nat) : Int) := fun k hk => by
        have hb := hrt.kids k hk
        obtain ⟨y, hy, hyS⟩ := hS k.toNat HW (parts_kid hr hi HW hM1 hk)
        rw [hy, SubS.inj hr _ _ _ hyS (hg k hk)]
      have hm : mapK ins l[q] = mapG g l[q] := by
        unfold mapK mapG; congr 1; exact List.map_congr_left hk
      have h1 := sub_put hs hM1 hA hql h9
      rw [hm, put_found hr (by exact ho) hx2 hN] at h1
      exact fin x h1 fun _ => .made g hql h9 ha hg ho hx2 hN
end
end Go.Sy
namespace Go.Sy
open Go Go.Proofs
section
variable {N : List Ty} {args others both : List Int}
end
theorem good_args {l : List Ty} {i : Nat} {args : List Int} (h : ¬ badArgs l i args) : (∀ a ∈ args, 0 ≤ a ∧ a < l.length) ∧ (asksL (l.take (i + 1))).getD i 0 ≤ args.length := by
  refine ⟨fun a ha => Classical.byContradiction fun hn => h (.inr ⟨a, ha, hn⟩), ?_⟩
  have : ¬ ((args.length : Int) < (asksL (l.take (i + 1))).getD i 0) := fun hn => h (.inl hn)
  omega
theorem subR_sound {l : List Ty} {i : Nat} {args : List Int} (hr : rightP l) (hi : i < l.length) {o : List Ty} {q : Int} (h : subR l i args = .ok (o, q)) : ¬ badArgs l i args ∧ rightP o ∧ l <+: o ∧ 0 ≤ q ∧ q < o.length ∧ SubS o args i q.toNat := by
  by_cases hb : badArgs l i args
  · rw [subR_bad hb] at h; cases h
  obtain ⟨hgood, hlen⟩ := good_args hb
  cases hs : subN l args (asksL (l.take (i + 1))) (partsL l i) (i + 1) with
  | error e => rw [HQ hb (Nat.le_refl _) hs] at h; cases h
  | ok x =>
    obtain ⟨out, ins⟩ := x
    rw [subR_ok hb hs] at h
    injection h with h; injection h with h h'
    subst h h'
    obtain ⟨hso, hS⟩ := sub_sound hr hi hgood hlen (i + 1) (Nat.le_refl _) out ins hs
    have := hso.ins i HW
    exact ⟨hb, hso.right, hso.pre, this.1, this.2, hS i HW (parts_self hr hi)⟩
theorem subR_found {N : List Ty} {i q : Nat} {args : List Int} (hr : rightP N) (hi : i < N.length) (hb : ¬ badArgs N i args) (hS : SubS N args i q) : subR N i args = .ok (N, (q : Int)) := by
  obtain ⟨hgood, hlen⟩ := good_args hb
  obtain ⟨ins, hs, _, hall⟩ := sub_complete hr hi (fun p hM => SubS.parts hr hi ⟨q, hS⟩ (i + 1) (Nat.le_refl _) p hM) hgood (i + 1) (Nat.le_refl _)
  obtain ⟨x, hx, hxS⟩ := hall i HW (parts_self hr hi)
  rw [subR_ok hb hs, hx, SubS.inj hr _ _ _ hxS hS]
theorem subR_zero {l : List Ty} {i : Nat} (hr : rightP l) (hi : i < l.length) (h : (asksL (l.take (i + 1))).getD i 0 = 0) : subR l i [] = .ok (l, (i : Int)) := by
  refine subR_found hr hi (not_bad (by simp) (by rw [h]; simp)) (.stay hi ?_)
  rw [← ask_in hi (Nat.le_refl i)]; exact h
def paramN (k : Int) : Ty := ⟨9, [], k, [], []⟩
theorem last_app {α : Type} (ds ms : List α) (h : ms ≠ []) : (ds ++ ms).getLast? = ms.getLast? := by
  rw [List.getLast?_append, List.getLast?_eq_some_getLast h]; rfl
theorem elems_parts {l : List Ty} {t : Ty} (h : elemsP l t) : ∃ ds ms : List Tm, zips t = ds ++ ms ∧ (∀ z ∈ ds, ¬ markP z.1) ∧ (∀ z ∈ ms, markP z.1) ∧ ms.Pairwise fun x y => x.2 < y.2 := by
  obtain ⟨hl, _, _, hall⟩ := h
  have hzl := HH hl
  have key : ∀ q, q ≤ (zips t).length → ∃ ds ms : List Tm, (zips t).take q = ds ++ ms ∧ (∀ z ∈ ds, ¬ markP z.1) ∧ (∀ z ∈ ms, markP z.1) ∧ ms.Pairwise fun x y => x.2 < y.2 := by
    intro q
    induction q with
    | zero => intro _; exact ⟨[], [], by simp, by simp, by simp, .nil⟩
    | succ q ih =>
      intro hq
      obtain ⟨ds, ms, e, h1, h2, h3⟩ := ih HW
      have hqw : q < t.words.length := by omega
      have hqk : q < t.kids.length := by omega
      have hqz : q < (zips t).length := by omega
      have hz := HN hqw hqk hqz
      have hlast : 0 < q → ∃ hq1 : q - 1 < (zips t).length, (ds ++ ms).getLast? = some (zips t)[q - 1] := by
        intro h0
        refine ⟨by omega, ?_⟩
        rw [← e, List.getLast?_take]
        rw [if_neg HW, List.getElem?_eq_getElem HW]; rfl
      rw [List.take_succ_eq_append_getElem hqz, e]
      have hprev : ∀ hq1 : q - 1 < (zips t).length, 0 < q → (zips t)[q - 1] = (t.words.getD (q - 1) [], kidAt t (q - 1)) := by
        intro hq1 h0
        rw [HN (show q - 1 < t.words.length by omega) (show q - 1 < t.kids.length by omega) hq1, Gt _ (show q - 1 < t.words.length by omega), kid_get (show q - 1 < t.kids.length by omega)]
      rcases hall q hqw with ⟨hm, _, _, _, _, hp⟩ | ⟨hm, _, _, hp⟩
      · refine ⟨ds, ms ++ [(zips t)[q]], by rw [List.append_assoc], h1, fun z hx => ?_, ?_⟩
        · rcases List.mem_append.1 hx with hx | hx
          · exact h2 z hx
          have : z = (zips t)[q] := by simpa using hx
          rw [this, hz]; exact hm
        refine List.pairwise_append.2 ⟨h3, by simp, fun x hx y hy => ?_⟩
        have : y = (zips t)[q] := by simpa using hy
        subst this
        have h0 : 0 < q := by
          rcases Nat.eq_zero_or_pos q with c | c
          · subst c
            have hen : ds ++ ms = [] := by rw [← e]; simp
            rw [(List.append_eq_nil_iff.1 hen).2] at hx; cases hx
          exact c
        obtain ⟨hq1, hg⟩ := hlast h0
        have hne : ms ≠ [] := fun c => by rw [c] at hx; cases hx
        rw [last_app _ _ hne] at hg
        have hgl : ms.getLast? = some (ms.getLast hne) := List.getLast?_eq_some_getLast hne
        rw [hgl] at hg
        have e5 : ms.getLast hne = (zips t)[q - 1] := Option.some.inj hg
        have hmk : markP (t.words.getD (q - 1) []) := by
          have := h2 _ (List.getLast_mem hne)
          rw [e5, hprev hq1 h0] at this; exact this
        have hlt := hp h0 hmk
        have hle : x.2 ≤ ((zips t)[q - 1]).2 := by
          rw [← e5]
          rcases List.eq_nil_or_concat ms with c | ⟨ms', y', c⟩
          · exact absurd c hne
          rw [List.concat_eq_append] at c
          subst c
          have hgy : (ms' ++ [y']).getLast hne = y' := by simp
          rw [hgy]
          rcases List.mem_append.1 hx with hx | hx
          · have := (List.pairwise_append.1 h3).2.2 x hx y' (by simp)
            omega
          have : x = y' := by simpa using hx
          rw [this]; exact Int.le_refl _
        rw [hprev hq1 h0] at hle
        rw [hz]
        have hle2 : x.2 ≤ kidAt t (q - 1) := hle
        rw [kid_get hqk] at hlt
        show x.2 < t.kids[q]
        omega
      have hms : ms = [] := by
        refine Classical.byContradiction fun hne => ?_
        have h0 : 0 < q := by
          rcases Nat.eq_zero_or_pos q with c | c
          · subst c
            have hen : ds ++ ms = [] := by rw [← e]; simp
            exact absurd (List.append_eq_nil_iff.1 hen).2 hne
          exact c
        obtain ⟨hq1, hg⟩ := hlast h0
        rw [last_app _ _ hne, List.getLast?_eq_some_getLast hne] at hg
        have e5 : ms.getLast hne = (zips t)[q - 1] := Option.some.inj hg
        have := h2 _ (List.getLast_mem hne)
        rw [e5, hprev hq1 h0] at this
        exact (hp h0).1 this
      subst hms
      refine ⟨ds ++ [(zips t)[q]], [], by simp, fun z hx => ?_, by simp, .nil⟩
      rcases List.mem_append.1 hx with hx | hx
      · exact h1 z hx
      have : z = (zips t)[q] := by simpa using hx
      rw [this, hz]; exact hm
  obtain ⟨ds, ms, e, h⟩ := key (zips t).length (Nat.le_refl _)
  rw [List.take_length] at e
  exact ⟨ds, ms, e, h⟩
theorem parts_norm {m : Nat} {t : Ty} (hw : t.words.length = t.kids.length) (hk : ∀ k ∈ t.kids, 0 ≤ k ∧ k < m) (hname : t.name = []) (h : ∃ ds ms : List Tm, zips t = ds ++ ms ∧ (∀ z ∈ ds, ¬ markP z.1) ∧ (∀ z ∈ ms, markP z.1) ∧ ms.Pairwise fun x y => x.2 < y.2) : termsT m t = t := by
  obtain ⟨ds, ms, e, h1, h2, h3⟩ := h
  have hd : declsR (zips t) = ds := by
    rw [e, declsR_app, declsR_marks h2, List.append_nil]
    unfold declsR
    rw [List.filter_eq_self]
    intro z hz; simp [h1 z hz]
  have hin := zips_in hk
  have hnd : ms.Nodup := h3.imp fun h e => by rw [e] at h; omega
  have huniq : ∀ x ∈ ms, ∀ y ∈ ms, x.2 = y.2 → x = y := by
    intro x hx y hy exy
    obtain ⟨a, ha, rfl⟩ := List.getElem_of_mem hx
    obtain ⟨b, hb, rfl⟩ := List.getElem_of_mem hy
    rcases Nat.lt_trichotomy a b with c | c | c
    · have := List.pairwise_iff_getElem.1 h3 a b ha hb c; omega
    · subst c; rfl
    have := List.pairwise_iff_getElem.1 h3 b a hb ha c; omega
  have hmem : ∀ x : Tm, x ∈ ms ↔ x ∈ termsR m (zips t) := by
    intro x
    rw [Hs]
    have hmz : ∀ x : Tm, markP x.1 → (x ∈ zips t ↔ x ∈ ms) := fun x hm => by
      rw [e, List.mem_append]
      exact ⟨fun h => h.resolve_left fun h => h1 x h hm, .inr⟩
    constructor
    · intro hx
      have hm := h2 x hx
      have hb := hin x ((hmz x hm).2 hx)
      obtain ⟨w, k⟩ := x
      refine ⟨?_, by rcases hm with c | c <;> rw [c] <;> simp, hb.1, hb.2⟩
      simp only at hm ⊢
      rcases hm with rfl | rfl
      · refine ((markOf_set (zips t) k).2.2 ⟨fun hx2 => ?_, (hmz _ (.inl HU)).2 hx⟩).symm
        have := huniq _ ((hmz _ (.inr rfl)).1 hx2) _ hx rfl
        simp at this
      exact ((markOf_set (zips t) k).1.2 ((hmz _ (.inr rfl)).2 hx)).symm
    rintro ⟨ha, hb, _, _⟩
    obtain ⟨w, k⟩ := x
    simp only at ha hb
    have hm : markP w := ha ▸ (markOf_is (zips t) k).resolve_left (by rw [← ha]; exact hb)
    refine (hmz _ hm).1 ?_
    rcases hm with rfl | rfl
    · exact ((markOf_set (zips t) k).2.1 ha.symm).2
    exact (markOf_set (zips t) k).1.1 ha.symm
  have hnr : (termsR m (zips t)).Nodup := (termsR_sorted m (zips t)).imp fun h e => by rw [e] at h; omega
  have hperm := (List.perm_ext_iff_of_nodup hnd hnr).2 hmem
  have hms : ms = termsR m (zips t) := List.Perm.eq_of_pairwise (le := fun x y => x.2 < y.2) (fun a b _ _ h1 h2 => by omega) h3 (termsR_sorted m (zips t)) hperm
  have hz : declsR (zips t) ++ termsR m (zips t) = zips t := by rw [hd, ← hms, ← e]
  unfold termsT
  rw [hz]
  refine ty_ext HU hname.symm HU ?_ ?_
  · show (zips t).map (·.1) = t.words
    unfold zips; rw [List.map_fst_zip HW]
  show (zips t).map (·.2) = t.kids
  unfold zips; rw [List.map_snd_zip HW]
theorem right_iface {N : List Ty} (hr : rightP N) {p : Nat} (hp : p < N.length) (h7 : N[p].kind = 7) : termsT N.length N[p] = N[p] ∧ ¬ oddP N N[p] := by
  have hrt := GL hr hp
  have hk : ∀ k ∈ N[p].kids, 0 ≤ k ∧ k < N.length := fun k hk => by have := hrt.kids k hk; omega
  have h := hr.2.2 p hp
  unfold rowAt at h
  by_cases c : p < 22
  · rw [if_pos c] at h
    have hql : p < startL.length := by rw [start_len]; exact c
    rw [start_get hql] at h
    obtain ⟨s1, s2, _, _⟩ := start_plain _ (List.getElem_mem hql)
    have hzn : zips N[p] = [] := by unfold zips; rw [h, s1, s2]; rfl
    refine ⟨parts_norm (hrt.iface h7) hk (hrt.bare h7) ⟨[], [], by rw [hzn]; rfl, by simp, by simp, .nil⟩, fun ⟨z, hz, _⟩ => ?_⟩
    rw [hzn] at hz; cases hz
  rw [if_neg c] at h
  have hE := (madeK_7 h7).1 h.1.2.2.2.2
  have hkp := h.1.1
  refine ⟨parts_norm (hrt.iface h7) hk (hrt.bare h7) (elems_parts hE), fun ⟨z, hz, hm, ho⟩ => ?_⟩
  obtain ⟨i, hi, rfl⟩ := List.getElem_of_mem hz
  have hzk := HH (hrt.iface h7)
  have hiw : i < N[p].words.length := by rw [hrt.iface h7]; omega
  have hik : i < N[p].kids.length := by omega
  rw [HN hiw hik hi] at hm ho
  simp only at hm ho
  have hb := hrt.kids _ (List.getElem_mem hik)
  have hpre : N.take p <+: N := List.take_prefix p N
  have hkn : kindAt N N[p].kids[i] = kindAt (N.take p) N[p].kids[i] := by
    unfold kindAt
    rw [List.getElem?_take, if_pos HW]
  rcases hE.2.2.2 i hiw with ⟨_, _, k7, k9, kr, _⟩ | ⟨hn, _⟩
  · rw [kid_get hik] at k7 k9 kr
    rw [hkn] at ho
    rcases ho with ho | ho | ho
    · exact k7 ho
    · exact k9 ho
    exact kr ho
  exact hn hm
end Go.Sy
namespace Go.Sy
open Go Go.Proofs
structure Mth where
  name : List UInt8
  ptr : Bool
  sig : Int
deriving DecidableEq
structure Nmd where
  name : List UInt8
  bounds : List Int
  under : Int
  methods : List Mth
deriving DecidableEq
instance : Inhabited Mth := ⟨⟨[], false, 0⟩⟩
instance : Inhabited Nmd := ⟨⟨[], [], 0, []⟩⟩
abbrev eMt (m : Mth) : List D := [.val (S m.name), .val (.bool m.ptr), .val (.int .i64 m.sig)]
abbrev eNm (n : Nmd) : List D := [.val (S n.name), .slc 1 (n.bounds.map eI), .val (.int .i64 n.under), .slc 3 (n.methods.map eMt)]
abbrev vNm (n : Nmd) (a1 : Option Addr) (k1 c1 : Nat) (a2 : Option Addr) (k2 c2 : Nat) : Value := .agg #[S n.name, .slice a1 k1 c1, .int .i64 n.under, .slice a2 k2 c2]
abbrev fBd (n : Nmd) (a : Option Addr) (k c : Nat) : Fact := .slc (.slice a k c) 1 (n.bounds.map eI)
abbrev fMs (l : List Mth) (a : Option Addr) (k c : Nat) : Fact := .slc (.slice a k c) 3 (l.map eMt)
abbrev fN (l : List Nmd) (a : Option Addr) (k c : Nat) : Fact := .slc (.slice a k c) 4 (l.map eNm)
def isK (T : List Ty) (i k : Int) : Prop := 0 ≤ i ∧ i < T.length ∧ kindAt T i = k
def fewA (T : List Ty) (i most : Int) : Prop := 0 ≤ i ∧ i < T.length ∧ askAt T i.toNat ≤ most
def boundsP (T : List Ty) (n : Nmd) : Prop := n.bounds.length ≤ 16 ∧ ∀ b ∈ n.bounds, isK T b 7 ∧ fewA T b n.bounds.length
def underP (T : List Ty) (n : Nmd) : Prop := fewA T n.under n.bounds.length ∧ ¬ isK T n.under 8 ∧ ¬ isK T n.under 9 ∧ ¬(14 ≤ n.under ∧ n.under ≤ 19)
def methodP (T : List Ty) (n : Nmd) (i : Nat) (hi : i < n.methods.length) : Prop :=
  isName n.methods[i].name = true ∧ isK T n.methods[i].sig 5 ∧ fewA T n.methods[i].sig n.bounds.length ∧ (0 < i → Op.bytesLess (n.methods.getD (i - 1) default).name n.methods[i].name = true)
def methodsP (T : List Ty) (n : Nmd) : Prop :=
  n.methods.length ≤ 16 ∧ (∀ i (hi : i < n.methods.length), methodP T n i hi) ∧ (n.methods ≠ [] → ¬ isK T n.under 7 ∧ ¬ isK T n.under 1)
def namedU (T : List Ty) (n : Nmd) : Prop := namedP n.name ∧ boundsP T n ∧ underP T n ∧ methodsP T n
def atN (N : List Nmd) (s : List UInt8) : Option Nat := N.findIdx? (·.name == s)
def fitsU (N : List Nmd) (t : Ty) : Prop := t.kind = 8 → ∃ i, atN N t.name = some i ∧ (N.getD i default).bounds.length = t.kids.length
def nameAt (T : List Ty) (N : List Nmd) (i : Nat) (hi : i < N.length) : Prop := namedU T N[i] ∧ (0 < i → Op.bytesLess (N.getD (i - 1) default).name N[i].name = true)
def rightU (T : List Ty) (N : List Nmd) : Prop := rightP T ∧ N.length ≤ 60 ∧ (∀ i (hi : i < N.length), nameAt T N i hi) ∧ ∀ t ∈ T, fitsU N t
theorem atN_some {N : List Nmd} {s : List UInt8} {i : Nat} (h : atN N s = some i) : ∃ hi : i < N.length, N[i].name = s := by
  obtain ⟨hi, h1, _⟩ := List.findIdx?_eq_some_iff_getElem.1 h
  exact ⟨hi, by simpa using h1⟩
theorem atN_first {N : List Nmd} {s : List UInt8} {q : Nat} (hq : q < N.length) (h : N[q].name = s) (hn : ∀ j (hj : j < N.length), j < q → N[j].name ≠ s) : atN N s = some q := by
  unfold atN
  rw [List.findIdx?_eq_some_iff_getElem]
  exact ⟨hq, by simp [h], fun j hj => by have := hn j HW hj; simp [this]⟩
theorem atN_no {N : List Nmd} {s : List UInt8} (hn : ∀ j (hj : j < N.length), N[j].name ≠ s) : atN N s = none := by
  unfold atN
  rw [List.findIdx?_eq_none_iff]
  intro x hx
  obtain ⟨j, hj, rfl⟩ := List.getElem_of_mem hx
  simp [hn j hj]
end Go.Sy
namespace Go.Sy
open Go Go.Proofs Go.RowKit
attribute [local irreducible] AC AT AO AK AH ACalls Sub Res.cells Res.obj Res.nix Res.own Res.map Exit.then Exit.inBlock bodyPost Code.wp Code.wpIn WL Next Post Kont
section
variable {W0 : World} {L : List Res} {F : List Fact} {R : Value → List Res → List Fact → Prop}
set_option maxRecDepth 100000
set_option maxHeartbeats 16000000
theorem substIn_c (g : Glob W0) (l : List Ty) (hok : ∀ t ∈ l, TyOk t) (hr : rightP l) (n : Nat) (hn : n < l.length) (args : List Int) (_hargs : args.length ≤ 1000) {a a2 : Option Addr} {k c k2 c2 : Nat} (mL : fL l a k c ∈ F) (mA : fI args a2 k2 c2 ∈ F) (mN : Fact.slc (.slice none 0 0) 5 [] ∈ F)
    (h3 : ∀ e, subR l n args = .error e → R (.tuple #[.slice none 0 0, .int .i64 0, .int .i64 e]) L (fL [] none 0 0 :: F))
    (h4 : ∀ o q a k c, subR l n args = .ok (o, q) → R (.tuple #[.slice a k c, .int .i64 q, .int .i64 0]) L (fL o a k c :: F)) :
    ACalls Tryz.prog W0 114 #[.slice a k c, .int .i64 (n : Int), .slice a2 k2 c2] L F R := by
  have h400 := hr.2.1
  have hAl := asks_len l (n + 1) HW
  have hAget := Gt (l := asksL (l.take (n + 1))) (0 : Int) (q := n) HW
  have hMl : (partsL l n).length = n + 1 := partsN_len l n (n + 1)
  refine Ge Tryz.func114 HU Tryz.ntmps114 HU ?_
  refine qs 2 ?_
  refine Ga (GJ HU HU (fun b3 => ?_))
  refine qs 10 ?_
  refine Ga (Gd HU HU (there_c g l hok (n : Int) memA (fun c => absurd hr c) (fun _ c => absurd HW c) (fun _ _ => ?_)))
  refine qs 6 ?_
  refine Ga (GK HU HU HU (fun c28 => absurd HU c28) (fun _ => ?_))
  refine qs 9 ?_
  refine Ga (Gd HU HU (asks_c l hr n hn memA (fun a32 k32 z32 => ?_)))
  refine qs 5 ?_
  refine Ga (Hq HU HU ?_)
  refine qs 8 ?_
  refine Ga (Gd HU HU (containsFuncI_c args (show fI args a2 k2 c2 ∈ _ from memA) _ [.pointer (some ⟨b3, 0, none⟩)] (fun s => s < 0 ∨ s ≥ l.length) (fun s F' hF' R hT hF => sub1_c l s (i := 0) (hF' _ memA) HU hT hF) (fun c36 => ?_) (fun c36 => ?_)))
  ·refine qs 21 ?_
   exact GX (L' := L) (F' := fL [] none 0 0 :: F) Tryz.results114 rfl rfl rfl (Sub.drop.trans (Gg (mem1 memA (fun x hx => by repeat (first | exact hx | refine List.mem_cons_of_mem _ ?_))))) (h3 1 (subR_bad (.inr (bad_of c36))))
  refine qs 2 ?_
  refine Gh HU HU (Gv HU HU (fun hl39 => ?_) (enc := eI) (lst := args) (hm := (show fI args a2 k2 c2 ∈ _ from memA)))
  refine qs 2 ?_
  refine Gh HU HU (Gj (k := n) HU HU HU HU (enc := eI) (lst := asksL (l.take (n + 1))) memA HW (fun _ _ => ?_))
  rw [← hAget]
  refine Gh HU HU (GE HU HU ?_)
  intros
  refine Gh HU HU (GB HU HU HU (fun c44 => ?_) (fun c44 => ?_))
  ·refine qs 13 ?_
   exact GX (L' := L) (F' := fL [] none 0 0 :: F) Tryz.results114 rfl rfl rfl (Sub.drop.trans (Gg (mem1 memA (fun x hx => by repeat (first | exact hx | refine List.mem_cons_of_mem _ ?_))))) (h3 1 (subR_bad (.inl c44)))
  refine qs 8 ?_
  refine Ga (AO.makeMap vI vI HU (fun b46 => ?_))
  refine qs 14 ?_
  have hgood := good_of c36
  have hnb : ¬ badArgs l n args := not_bad hgood HW
  refine Ga (Gd HU HU (parts_c l hr n hn memA (fun a50 k50 z50 => ?_)))
  refine Ga (Gv HU HU (fun hl51 => ?_) (enc := eBl) (lst := partsL l n) (hm := memA))
  refine qs 4 ?_
  refine GN (fun (x : Nat × (List Ty × List Int × (Int → Option Int)) × (Option Addr × Nat × Nat)) => x.1 ≤ n + 1 ∧ subN l args (asksL (l.take (n + 1))) (partsL l n) x.1 = .ok (x.2.1.1, x.2.1.2.1) ∧ SubOk l x.1 x.2.1.1 x.2.1.2.1 ∧ MapS (partsL l n) x.2.1.2.1 x.1 x.2.1.2.2) (fun x => [(1, .int .i64 (n : Int)), (2, .slice a2 k2 c2), (3, .pointer (some ⟨b3, 0, none⟩)), (10, .slice a32 k32 z32), (12, .map (some b46)), (13, .slice x.2.2.1 x.2.2.2.1 x.2.2.2.2), (50, .slice a50 k50 z50), (51, .int .i64 (partsL l n).length), (52, .int .i64 (x.1 : Int))]) (fun x => Res.map b46 vI vI x.2.1.2.2 :: Res.cells b3 #[.slice a k c] 22 :: L) (fun x => fL x.2.1.1 x.2.2.1 x.2.2.2.1 x.2.2.2.2 :: _) (fun x => n + 1 - x.1) (0, (l, [], fun _ => none), (a, k, c)) ⟨Nat.zero_le _, rfl, ⟨hr, List.prefix_rfl, rfl, fun p hp => absurd hp (by simp)⟩, fun p hp => absurd hp (by simp)⟩ srA (Gg (mem1 memA (fun x hx => hx))) ?_
  rintro ⟨q, ⟨out, ins, m⟩, ⟨a13, k13, c13⟩⟩ ⟨hq, hs, hso, hm⟩
  simp only at hq hs hso hm ⊢
  refine qs 2 ?_
  refine Ga (GB HU HU HU (fun c53 => ?_) (fun c53 => ?_))
  ·refine qs 11 ?_
   have hqn : q < n + 1 := by omega
   have hql : q < l.length := by omega
   have hqA : q < (asksL (l.take (n + 1))).length := by omega
   have hqM : q < (partsL l n).length := by omega
   have hMq := Gt false hqM
   have hAq := Gt (0 : Int) hqA
   have hrt := GL hr hql
   have hout := hso.right.2.1
   have hol := hso.pre.length_le
   refine Ga (Gj HU HU HU HU (enc := eBl) (lst := partsL l n) memA hqM (fun _ _ => ?_))
   rw [← hMq]
   refine Ga (GE HU HU ?_)
   intros
   refine qs 8 ?_
   refine Ga (Gj HU HU HU HU (show fL l a k c ∈ _ from memA) hql (fun _ _ => ?_))
   refine Ga (GU HU HU ?_)
   intro a60 k60 z60 d60 e60 f60
   refine Ga (Gq HU (fun b16 => ?_))
   refine qs 12 ?_
   refine AC.cond HU (fun c61 => ?_) (fun c61 => ?_)
   ·refine qs 9 ?_
    have hM0 : (partsL l n).getD q false = false := by simpa using c61
    exact Gl (q + 1, (out, ins ++ [(q : Int)], m), (a13, k13, c13)) ⟨by simp only; omega, sub_out hs (.inl hM0), hso.step hso.right List.prefix_rfl (by simp only; omega), hm.skip hso.len _ hM0⟩ (by simp only; omega) srA (Sub.drop.trans (Gg (mem1 memA (fun x hx => by repeat (first | exact hx | refine List.mem_cons_of_mem _ ?_)))))
   refine qs 4 ?_
   refine Ga (GC HU HU HU (fun c67 => ?_) (fun c67 => ?_))
   ·refine qs 11 ?_
    have hM1 : (partsL l n).getD q false = true := by simpa using c61
    have hp9 := hrt.param c67
    have hask := parts_ask hr hn (n + 1) (Nat.le_refl _) hM1
    have hA9 : (asksL (l.take (n + 1))).getD q 0 = l[q].n + 1 := by
     rw [asks_at hn HW]; unfold ask1 ask0; rw [if_pos c67, hp9.2.2]; rfl
    have hna : l[q].n.toNat < args.length := by omega
    have hga := Gt (0 : Int) hna
    have hgr := hgood _ (List.getElem_mem hna)
    refine Ga (Gj (k := l[q].n.toNat) HU HU HU HW (show fI args a2 k2 c2 ∈ _ from memA) hna (fun _ _ => ?_))
    rw [← hga]
    refine Ga (GE HU HU ?_)
    intros
    refine Ga (Hi (kenc := vI) (venc := vI) (m := m) (i := 1) (q : Int) (args.getD l[q].n.toNat 0) HU HU HU HU ?_)
    simp only [List.set_cons_zero, List.set_cons_succ]
    refine qs 11 ?_
    exact Gl (q + 1, (out, ins ++ [args.getD l[q].n.toNat 0], upd m (q : Int) (args.getD l[q].n.toNat 0)), (a13, k13, c13)) ⟨by simp only; omega, sub_param hs hM1 HW hql c67, hso.step hso.right List.prefix_rfl (by simp only; rw [hga]; omega), hm.upd hso.len _⟩ (by simp only; omega) srA (Sub.drop.trans (Gg (mem1 memA (fun x hx => by repeat (first | exact hx | refine List.mem_cons_of_mem _ ?_)))))
   refine qs 8 ?_
   have hM1 : (partsL l n).getD q false = true := by simpa using c61
   refine Ga (Gj HU HU HU HU (enc := eI) (lst := asksL (l.take (n + 1))) memA hqA (fun _ _ => ?_))
   rw [← hAq]
   refine Ga (GE HU HU ?_)
   intros
   refine Ga (GC HU HU HU (fun c80 => ?_) (fun c80 => ?_))
   ·refine qs 9 ?_
    refine Ga (Hi (kenc := vI) (venc := vI) (m := m) (i := 1) (q : Int) (q : Int) HU HU HU HU ?_)
    simp only [List.set_cons_zero, List.set_cons_succ]
    refine qs 11 ?_
    exact Gl (q + 1, (out, ins ++ [(q : Int)], upd m (q : Int) (q : Int)), (a13, k13, c13)) ⟨by simp only; omega, sub_out hs (.inr c80), hso.step hso.right List.prefix_rfl (by simp only; omega), hm.upd hso.len _⟩ (by simp only; omega) srA (Sub.drop.trans (Gg (mem1 memA (fun x hx => by repeat (first | exact hx | refine List.mem_cons_of_mem _ ?_)))))
   refine qs 11 ?_
   refine Ga (Gd HU HU (clone_c l[q].kids (by have := hrt.few; omega) (show fK l[q] _ _ _ ∈ _ from memA) (fun a86 k86 z86 => ?_)))
   rw [← kidsS_zero ins l[q].kids]
   refine qs 9 ?_
   refine Ga (AO.lenO (i := 0) HU HU HU (fun hk90 => ?_))
   rw [List.length_map, kidsS_len]
   refine qs 4 ?_
   refine GN (fun (v : Nat) => v ≤ l[q].kids.length) (fun v => [(1, .int .i64 (n : Int)), (2, .slice a2 k2 c2), (3, .pointer (some ⟨b3, 0, none⟩)), (10, .slice a32 k32 z32), (12, .map (some b46)), (13, .slice a13 k13 c13), (50, .slice a50 k50 z50), (51, .int .i64 (partsL l n).length), (52, .int .i64 (q : Int)), (14, .int .i64 (q : Int)), (16, .pointer (some ⟨b16, 0, none⟩)), (89, .slice a86 k86 z86), (90, .int .i64 l[q].kids.length), (91, .int .i64 (v : Int))]) (fun v => Res.own (.slice a86 k86 z86) 3 1 ((kidsS ins l[q].kids v).map eI) :: _) (fun _ => _) (fun v => l[q].kids.length - v) 0 (Nat.zero_le _) srA (Gk _ _) ?_
   rintro v hv
   refine qs 2 ?_
   refine Ga (GB HU HU HU (fun c92 => ?_) (fun c92 => ?_))
   ·refine qs 11 ?_
    have hkf := hrt.few
    have hvl : v < l[q].kids.length := by omega
    have hb := hrt.kids _ (List.getElem_mem hvl)
    have hMk := parts_kid hr hn HW hM1 (List.getElem_mem hvl)
    have hmk := hm l[q].kids[v].toNat HW hMk
    rw [show ((l[q].kids[v].toNat : Nat) : Int) = l[q].kids[v] by omega] at hmk
    have hkl := kidsS_len ins l[q].kids v
    refine Ga (Hc (i := 0) (q := v) HU HU HU HU HU (by rw [List.length_map]; omega) (fun bo ho => ?_))
    subst ho
    refine Ga (AO.loadO (i := 0) (q := v) HU HU HU HU (eIs_get (kidsS_get hvl)) ?_)
    refine qs 10 ?_
    refine Ga (AO.lookup (kenc := vI) (venc := vI) (m := m) (i := 2) l[q].kids[v] HU HU HU HU ?_)
    rw [hmk]
    refine Ga (Hc (i := 0) (q := v) HU HU HU HU HU (by rw [List.length_map]; omega) (fun bo2 ho2 => ?_))
    cases ho2
    refine Ga (AO.storeO (i := 0) (q := v) (v := .int .i64 (ins.getD l[q].kids[v].toNat 0)) HU HU HU HU HU (by rw [List.length_map]; omega) ?_)
    rw [eIs_set, kidsS_set hvl]
    refine qs 7 ?_
    refine Gl (v + 1) HW HW srA subF
   refine qs 14 ?_
   have hkd : ∀ k ∈ (mapK ins l[q]).kids, 0 ≤ k ∧ k < out.length := mapK_kids hso.ins hrt.kids
   have htok : TyOk (mapK ins l[q]) := mapK_ok hout (Hp hr _ (List.getElem_mem hql)) hkd
   have hput := sub_put hs hM1 c80 hql c67
   rw [kidsS_all ins l[q].kids (show l[q].kids.length ≤ v by omega)]
   refine Gz ((GH (i := 0) HU).trans Gn) ?_
   refine Ga (GC HU HU HU (fun c106 => ?_) (fun c106 => ?_))
   ·refine qs 7 ?_
    have hwk : (mapK ins l[q]).words.length = (mapK ins l[q]).kids.length := by unfold mapK; simp only [List.length_map]; exact hrt.iface c106
    refine Ga (Gd HU HU (terms_c out hout (mapK ins l[q]) htok.kids hkd hwk (hrt.bare c106) (show fL out a13 k13 c13 ∈ _ from memA) (show fW (mapK ins l[q]) _ _ _ ∈ _ from memA) (show fK (mapK ins l[q]) _ _ _ ∈ _ from memA) (fun c110 => ?_) (fun c110 p1 p2 p3 p4 p5 p6 => ?_)))
    ·refine qs 2 ?_
     refine Ga (AO.extract HU HU HU ?_)
     refine Ga (Gq HU (fun b19 => ?_))
     refine qs 27 ?_
     exact GX (L' := L) (F' := fL [] none 0 0 :: F) Tryz.results114 rfl rfl rfl (Sub.drop.trans (Sub.drop.trans (Sub.drop.trans (Sub.drop.trans (Gg (mem1 memA (fun x hx => by repeat (first | exact hx | refine List.mem_cons_of_mem _ ?_)))))))) (h3 11 (HQ hnb hqn (hput.trans (put_odd c106 c110))))
    refine qs 2 ?_
    refine Ga (AO.extract HU HU HU ?_)
    refine Ga (Gq HU (fun b19 => ?_))
    refine qs 23 ?_
    refine Ga (Gd HU HU (add2_c g out (Hp hso.right) (termsT out.length (mapK ins l[q])) (termsT_ok hout htok hwk hkd).up (show fL out a13 k13 c13 ∈ _ from memA) (show fW (termsT out.length (mapK ins l[q])) p1 p2 p3 ∈ _ from memA) (show fK (termsT out.length (mapK ins l[q])) p4 p5 p6 ∈ _ from memA) (fun c => absurd hso.right c) (fun _ o2 i2 e2 a119 k119 c119 hP => ?_)))
    rw [put_iface (t := mapK ins l[q]) hso.right c106 c110 hP] at hput
    refine qs 13 ?_
    refine Ga (GK HU HU HU (fun c124 => ?_) (fun c124 => ?_))
    ·refine qs 18 ?_
     rw [if_neg c124] at hput
     first
     | exact GX (L' := L) (F' := fL [] none 0 0 :: F) Tryz.results114 rfl rfl rfl (Sub.drop.trans (Sub.drop.trans (Sub.drop.trans (Sub.drop.trans (Gg (mem1 memA (fun x hx => by repeat (first | exact hx | refine List.mem_cons_of_mem _ ?_)))))))) (h3 e2 (HQ hnb HW hput))
     | exact GX (L' := L) (F' := fL [] none 0 0 :: F) Tryz.results114 rfl rfl rfl (Sub.drop.trans (Sub.drop.trans (Sub.drop.trans (Gg (mem1 memA (fun x hx => by repeat (first | exact hx | refine List.mem_cons_of_mem _ ?_))))))) (h3 e2 (HQ hnb HW hput))
    refine qs 11 ?_
    have hmi : m = m := rfl
    refine Ga (Hi (kenc := vI) (venc := vI) (m := m) (q : Int) i2 HU HU HU (by repeat (first | exact has0 | apply hasS)) ?_)
    simp only [List.set_cons_zero, List.set_cons_succ]
    refine qs 7 ?_
    rw [if_pos c124] at hput
    obtain ⟨hr2, hp2, hi2, hi3⟩ := add_pre hso.right hP c124
    first
    | exact Gl (q + 1, (o2, ins ++ [i2], upd m (q : Int) i2), (a119, k119, c119)) ⟨by simp only; omega, hput, hso.step hr2 hp2 ⟨hi2, hi3⟩, hm.upd hso.len _⟩ (by simp only; omega) srA (Sub.drop.trans (Sub.drop.trans (Gg (mem1 memA (fun x hx => by repeat (first | exact hx | refine List.mem_cons_of_mem _ ?_))))))
    | exact Gl (q + 1, (o2, ins ++ [i2], upd m (q : Int) i2), (a119, k119, c119)) ⟨by simp only; omega, hput, hso.step hr2 hp2 ⟨hi2, hi3⟩, hm.upd hso.len _⟩ (by simp only; omega) srA (Sub.drop.trans (Gg (mem1 memA (fun x hx => by repeat (first | exact hx | refine List.mem_cons_of_mem _ ?_)))))
   refine qs 9 ?_
   refine Ga (Gd HU HU (add2_c g out (Hp hso.right) (mapK ins l[q]) htok.up (show fL out a13 k13 c13 ∈ _ from memA) (show fW (mapK ins l[q]) _ _ _ ∈ _ from memA) (show fK (mapK ins l[q]) _ _ _ ∈ _ from memA) (fun c => absurd hso.right c) (fun _ o2 i2 e2 a119 k119 c119 hP => ?_)))
   rw [put_plain (t := mapK ins l[q]) hso.right c106 hP] at hput
   refine qs 13 ?_
   refine Ga (GK HU HU HU (fun c124 => ?_) (fun c124 => ?_))
   ·refine qs 18 ?_
    rw [if_neg c124] at hput
    first
    | exact GX (L' := L) (F' := fL [] none 0 0 :: F) Tryz.results114 rfl rfl rfl (Sub.drop.trans (Sub.drop.trans (Sub.drop.trans (Sub.drop.trans (Gg (mem1 memA (fun x hx => by repeat (first | exact hx | refine List.mem_cons_of_mem _ ?_)))))))) (h3 e2 (HQ hnb HW hput))
    | exact GX (L' := L) (F' := fL [] none 0 0 :: F) Tryz.results114 rfl rfl rfl (Sub.drop.trans (Sub.drop.trans (Sub.drop.trans (Gg (mem1 memA (fun x hx => by repeat (first | exact hx | refine List.mem_cons_of_mem _ ?_))))))) (h3 e2 (HQ hnb HW hput))
   refine qs 11 ?_
   have hmi : m = m := rfl
   refine Ga (Hi (kenc := vI) (venc := vI) (m := m) (q : Int) i2 HU HU HU (by repeat (first | exact has0 | apply hasS)) ?_)
   simp only [List.set_cons_zero, List.set_cons_succ]
   refine qs 7 ?_
   rw [if_pos c124] at hput
   obtain ⟨hr2, hp2, hi2, hi3⟩ := add_pre hso.right hP c124
   first
   | exact Gl (q + 1, (o2, ins ++ [i2], upd m (q : Int) i2), (a119, k119, c119)) ⟨by simp only; omega, hput, hso.step hr2 hp2 ⟨hi2, hi3⟩, hm.upd hso.len _⟩ (by simp only; omega) srA (Sub.drop.trans (Sub.drop.trans (Gg (mem1 memA (fun x hx => by repeat (first | exact hx | refine List.mem_cons_of_mem _ ?_))))))
   | exact Gl (q + 1, (o2, ins ++ [i2], upd m (q : Int) i2), (a119, k119, c119)) ⟨by simp only; omega, hput, hso.step hr2 hp2 ⟨hi2, hi3⟩, hm.upd hso.len _⟩ (by simp only; omega) srA (Sub.drop.trans (Gg (mem1 memA (fun x hx => by repeat (first | exact hx | refine List.mem_cons_of_mem _ ?_)))))
  refine qs 10 ?_
  refine GO (fun _ => false) [] bxA HU (fun hx hX => ?_)
  have hq9 : q = n + 1 := by omega
  subst hq9
  have hmn := hm n HW (parts_self hr hn)
  refine qt [0, 1, 2, 4] ?_
  refine Gf (i := 3) HV HU HU (fun _ => ?_)
  refine AO.lookup (kenc := vI) (venc := vI) (m := m) (i := 0) (n : Int) HU HU HU HU ?_
  rw [hmn]
  refine Gc bxA memB ?_
  refine qt [5, 6] ?_
  refine Gm HV ?_
  refine qs 2 ?_
  exact GX (L' := L) (F' := fL out a13 k13 c13 :: F) Tryz.results114 rfl rfl rfl (Sub.drop.trans (Sub.drop.trans (Gg (mem1 memA (fun x hx => by repeat (first | exact hx | refine List.mem_cons_of_mem _ ?_)))))) (h4 _ _ _ _ _ (subR_ok hnb hs))
end
end Go.Sy
namespace Go.Sy
open Go Go.Proofs Go.RowKit
def oneS (t : Ty) : Ty := ⟨t.kind, t.name.take (min t.name.length 50), t.n, t.words.take (min t.words.length 18), t.kids.take (min t.kids.length 18)⟩
def fewS (l : List Ty) (most : Nat) : List Ty := (l.take (min l.length most)).map oneS
structure TyUp (t : Ty) : Prop where
  inn : TyIn t
  word : ∀ w ∈ t.words, w.length ≤ 1048576
theorem oneS_ok {t : Ty} (h : TyUp t) : TyOk (oneS t) := by
  refine ⟨h.inn.kind, h.inn.n, by simp [oneS]; omega, by simp [oneS]; omega, ?_, by simp [oneS]; omega, fun k hk => h.inn.kid k (List.mem_of_mem_take hk)⟩
  intro w hw
  exact h.word w (List.mem_of_mem_take hw)
theorem fewS_ok {l : List Ty} {m : Nat} (h : ∀ t ∈ l, TyUp t) : ∀ t ∈ fewS l m, TyOk t := by
  intro t ht
  unfold fewS at ht
  obtain ⟨x, hx, rfl⟩ := List.mem_map.1 ht
  exact oneS_ok (h x (List.mem_of_mem_take hx))
theorem fewS_step {l : List Ty} {q : Nat} (hq : q < l.length) : (l.take q).map oneS ++ [oneS l[q]] = (l.take (q + 1)).map oneS := by
  rw [List.take_succ_eq_append_getElem hq, List.map_append]; rfl
attribute [local irreducible] AC AT AO AK AH ACalls Sub Res.cells Res.obj Res.nix Res.own Res.map Exit.then Exit.inBlock bodyPost Code.wp Code.wpIn WL Next Post Kont
section
variable {W0 : World} {L : List Res} {F : List Fact} {R : Value → List Res → List Fact → Prop}
set_option maxRecDepth 100000
set_option maxHeartbeats 16000000
theorem rstartO_c (h : ∀ a k c, R (.slice a k c) (Res.own (.slice a k c) 29 5 (startL.map eTy) :: L) F) : ACalls Tryz.prog W0 50 #[] L F R := by
  refine Ge Tryz.func50 HU Tryz.ntmps50 HU ?_
  refine qs 7 ?_
  refine Ga (AO.buildSlice0 HU (fun b4 => ?_))
  refine Gz (GR (Sub.toOwn (i := 0) (k := 0) (sz := 5) (enc := eTy) [] HU .nil (fun _ => rfl) HU (by decide)) (HG (sz := 1))) ?_
  refine qs 6 ?_
  refine Ga (Gd HU HU (rnames_c (fun b5 => ?_)))
  refine Ga (Gv HU HU (fun hl6 => ?_) (hm := by repeat (first | exact mem0 | assumption | refine memS ?_)))
  refine qs 4 ?_
  refine GN (fun (i : Nat × Option Addr × Nat × Nat) => i.1 ≤ startNames.length) (fun i => [(1, .slice i.2.1 i.2.2.1 i.2.2.2), (5, .slice (some ⟨b5, 0, none⟩) 20 20), (6, .int .i64 startNames.length), (7, .int .i64 (i.1 : Int))]) (fun i => Res.own (.slice i.2.1 i.2.2.1 i.2.2.2) 29 5 (((startNames.take i.1).map basicT).map eTy) :: L) (fun _ => _) (fun i => startNames.length - i.1) (0, some ⟨b4, 0, none⟩, 0, 0) (by simp) srA (Gk _ _) ?_
  rintro ⟨q, a1, k1, c1⟩ hq
  simp only at hq ⊢
  refine qs 2 ?_
  refine Ga (GB HU HU HU (fun c8 => ?_) (fun c8 => ?_))
  ·refine qs 10 ?_
   have hql : q < startNames.length := by omega
   have hnl := names_len
   have htl : ((startNames.take q).map basicT).length = q := by simp; omega
   refine Ga (Gj HU HU HU HU memA hql (fun _ _ => ?_))
   refine Ga (GE HU HU ?_)
   intros
   refine qs 6 ?_
   refine Ga (GI HU HU HU ?_)
   refine Ga (Gi HU HU HU HU HU (fun b13 => ?_))
   refine Ga (GZ (i := 0) (enc := eTy) (lst := (startNames.take q).map basicT) [basicT startNames[q]] HU HU HU HU (.val (.val (.val (.slc (.slc .nil memA) memA)))) HU HU (fun _ => rfl) (by rw [htl]; simp [maxLen]; omega) (by rw [htl]; omega) (fun a14 k14 c14 => ?_))
   rw [basic_step hql]
   refine qs 8 ?_
   refine Gl (q + 1, a14, k14, c14) (by simp only; omega) (by simp only; omega) srA subF
  refine qs 11 ?_
  refine Ga (AO.move HU HU ?_)
  have hall : startNames.take q = startNames := List.take_of_length_le HW
  rw [hall]
  refine Ga (GI HU HU HU (Ga (GI HU HU HU ?_)))
  refine Ga (Gi HU HU HU HU HU (fun b19 => ?_))
  refine Ga (GZ (i := 0) (enc := eTy) (lst := startNames.map basicT) [⟨7, [], 0, [], []⟩, ⟨7, [], 1, [], []⟩] HU HU HU HU (.val (.val (.val (.slc (.slc (.val (.val (.val (.slc (.slc .nil memA) memA)))) memA) memA)))) HU HU (fun _ => rfl) (by decide) (by decide) (fun a20 k20 c20 => ?_))
  refine qs 10 ?_
  exact Gb (L' := Res.own (.slice a20 k20 c20) 29 5 (startL.map eTy) :: L) (F' := F) Tryz.results50 rfl subF (h _ _ _)
end
end Go.Sy
namespace Go.Sy
open Go Go.Proofs Go.RowKit
theorem put_err {out : List Ty} {ins : List Int} {t : Ty} {e : Int} (h : putS out ins t = .error e) : e ≠ 0 := by
  unfold putS at h
  by_cases c : t.kind = 7 ∧ oddP out t
  · rw [if_pos c] at h; injection h with h; omega
  rw [if_neg c] at h
  by_cases c2 : (addF out (if t.kind = 7 then termsT out.length t else t)).2.2 = 0
  · rw [if_pos c2] at h; cases h
  rw [if_neg c2] at h
  injection h with h
  rw [← h]; exact c2
theorem subN_err {l : List Ty} {args A : List Int} {M : List Bool} {e : Int} : ∀ n, subN l args A M n = .error e → e ≠ 0
  | 0, h => by cases h
  | n + 1, h => by
    rw [subN] at h
    cases hs : subN l args A M n with
    | error e2 => rw [hs] at h; injection h with h; subst h; exact subN_err n hs
    | ok x =>
      obtain ⟨out, ins⟩ := x
      rw [hs] at h
      simp only at h
      unfold stepS at h
      split at h
      · cases h
      split at h
      · cases h
      exact put_err h
theorem subR_err {l : List Ty} {i : Nat} {args : List Int} {e : Int} (h : subR l i args = .error e) : e ≠ 0 := by
  unfold subR at h
  split at h
  · injection h with h; omega
  cases hs : subN l args (asksL (l.take (i + 1))) (partsL l i) (i + 1) with
  | error e2 => rw [hs] at h; injection h with h; subst h; exact subN_err _ hs
  | ok x => obtain ⟨out, ins⟩ := x; rw [hs] at h; cases h
structure OwnS (l own : List Ty) (sf : List Int) (k : Nat) : Prop where
  right : rightP own
  pre : l <+: own
  len : own.length ≤ l.length + k
  many : sf.length = k
  each : ∀ j : Nat, j < k → ∃ q : Nat, ∃ hq : q < own.length, sf[j]? = some (q : Int) ∧ own[q] = paramN (j : Int)
theorem OwnS.step {l own m : List Ty} {self : List Int} {k q : Nat} (h : OwnS l own self k) (hr : rightP m) (hp : own <+: m) (hl : m.length ≤ own.length + 1) (hq : q < m.length) (he : m[q] = paramN (k : Int)) : OwnS l m (self ++ [(q : Int)]) (k + 1) := by
  have hml := hp.length_le
  have hmany := h.many
  refine ⟨hr, h.pre.trans hp, by have := h.len; omega, by rw [List.length_append, hmany]; rfl, fun j hj => ?_⟩
  by_cases e : j = k
  · subst e
    exact ⟨q, hq, by rw [List.getElem?_append_right HW, hmany]; simp, he⟩
  obtain ⟨p, hpl, e1, e2⟩ := h.each j HW
  exact ⟨p, by omega, by rw [List.getElem?_append_left HW]; exact e1, by rw [get_pre hp hpl]; exact e2⟩
structure BothS (z now : List Ty) (args others both : List Int) (u : Nat) : Prop where
  right : rightP now
  pre : z <+: now
  many : both.length = u
  each : ∀ (j : Nat) (a : Int), j < u → args[j]? = some a → ∃ b : Nat, both[j]? = some (b : Int) ∧ SubS now others a.toNat b
theorem BothS.step {z now m : List Ty} {args others both : List Int} {u : Nat} (h : BothS z now args others both u) (hgood : ∀ a ∈ others, 0 ≤ a ∧ a < now.length) (hr : rightP m) (hp : now <+: m) {q : Nat} (hu : u < args.length) (hS : SubS m others args[u].toNat q) : BothS z m args others (both ++ [(q : Int)]) (u + 1) := by
  have hmany := h.many
  refine ⟨hr, h.pre.trans hp, by rw [List.length_append, hmany]; rfl, fun j a hj ha => ?_⟩
  by_cases e : j = u
  · subst e
    rw [List.getElem?_eq_getElem hu] at ha
    injection ha with ha
    subst ha
    exact ⟨q, by rw [List.getElem?_append_right HW, hmany]; simp, hS⟩
  obtain ⟨b, e1, e2⟩ := h.each j a HW ha
  exact ⟨b, by rw [List.getElem?_append_left HW]; exact e1, e2.mono hp hgood⟩
attribute [local irreducible] AC AT AO AK AH ACalls Sub Res.cells Res.obj Res.nix Res.own Res.map Exit.then Exit.inBlock bodyPost Code.wp Code.wpIn WL Next Post Kont
section
variable {W0 : World} {L : List Res} {F : List Fact} {R : Value → List Res → List Fact → Prop}
set_option maxRecDepth 100000
set_option maxHeartbeats 16000000
end
end Go.Sy
namespace Go.Sy
open Go Go.Proofs
theorem kind_at {N : List Ty} {p : Nat} (hp : p < N.length) : kindAt N (p : Int) = N[p].kind := kind_get rfl hp
theorem kind_pre {N M : List Ty} (h : N <+: M) {p : Nat} (hp : p < N.length) : kindAt M (p : Int) = kindAt N (p : Int) := by
  rw [kind_at hp, kind_at (Nat.lt_of_lt_of_le hp h.length_le), get_pre h hp]
theorem subs_kind {N : List Ty} {args : List Int} {p q : Nat} (h : SubS N args p q) (h9 : kindAt N (p : Int) ≠ 9) : kindAt N (q : Int) = kindAt N (p : Int) := by
  cases h with
  | stay hp _ => rfl
  | param hp h _ => rw [kind_at hp] at h9; exact absurd h h9
  | made g hp _ _ _ _ hq hN => rw [kind_at hp, kind_at hq, hN, norm_kind]; rfl
open Classical in
theorem put_add {out : List Ty} {ins : List Int} {t m : Ty} (hm : m = normT out.length t) (hr : rightP out) {l' : List Ty} {i e : Int} (hP : AddP out m l' i e) :
    putS out ins t = if t.kind = 7 ∧ oddP out t then .error 11 else if e = 0 then .ok (l', ins ++ [i]) else .error e := by
  subst hm
  unfold putS
  by_cases c : t.kind = 7 ∧ oddP out t
  · rw [if_pos c, if_pos c]
  rw [if_neg c, if_neg c]
  unfold normT at hP
  rw [addF_is hr hP]
theorem put_mem {out : List Ty} {ins : List Int} {t : Ty} (hr : rightP out) {o : List Ty} {ins2 : List Int} (h : putS out ins t = .ok (o, ins2)) : ∀ x ∈ o, x ∈ out ∨ x = normT out.length t := by
  obtain ⟨m, i, e, hP⟩ := add_has out (normT out.length t)
  rw [put_add rfl hr hP] at h
  split at h
  · cases h
  split at h
  · rename_i he
    injection h with h; injection h with h h'
    subst h
    rcases hP with ⟨q, hq, h1, h2, h3, h4⟩ | ⟨n, ⟨_, h2, _, h4⟩ | ⟨_, _, h2, _, h4⟩ | ⟨hm, hl, h2, h3, h4⟩⟩
    · subst h2; exact fun x hx => .inl hx
    · omega
    · omega
    subst h2
    intro x hx
    rcases List.mem_append.1 hx with h | h
    · exact .inl h
    exact .inr (by simpa using h)
  cases h
theorem put_not1 {out : List Ty} {ins : List Int} {t : Ty} (hr : rightP out) (hm : (t.kind = 7 → ¬ oddP out t) → madeP out (normT out.length t)) {e : Int} (h : putS out ins t = .error e) : e ≠ 1 := by
  obtain ⟨m, i, e2, hP⟩ := add_has out (normT out.length t)
  rw [put_add rfl hr hP] at h
  split at h
  · injection h with h; omega
  rename_i c
  have hmade := hm (fun h7 ho => c ⟨h7, ho⟩)
  split at h
  · cases h
  injection h with h
  subst h
  rcases hP with ⟨q, hq, h1, h2, h3, h4⟩ | ⟨n, ⟨h1, h2, _, h4⟩ | ⟨_, _, h2, _, h4⟩ | ⟨_, hl, h2, h3, h4⟩⟩
  · omega
  · exact absurd hmade h1
  · omega
  omega
theorem zips_mapK (ins : List Int) (t : Ty) : zips (mapK ins t) = (zips t).map fun z => (z.1, ins.getD z.2.toNat 0) := by
  unfold zips mapK; simp only; rw [List.zip_map_right]; rfl
theorem declsR_all {ds : List Tm} (h : ∀ z ∈ ds, ¬ markP z.1) : declsR ds = ds := by
  unfold declsR
  rw [List.filter_eq_self]
  intro z hz
  simpa using h z hz
theorem elems_sub {l out : List Ty} {t : Ty} {ins : List Int} (hE : elemsP l t) (hK : ∀ k ∈ t.kids, kindAt l k = 5 → kindAt out (ins.getD k.toNat 0) = 5) (ho : ¬ oddP out (mapK ins t)) : elemsP out (termsT out.length (mapK ins t)) := by
  obtain ⟨hlen, hn0, hn3, hall⟩ := hE
  obtain ⟨ds, ms, hz, hd, hm, _⟩ := elems_parts (l := l) ⟨hlen, hn0, hn3, hall⟩
  have hzl := HH hlen
  generalize hf : (fun z : Tm => (z.1, ins.getD z.2.toNat 0)) = f
  have hdz : declsR (zips (mapK ins t)) = ds.map f := by
    rw [zips_mapK, hf, hz, List.map_append, declsR_app, declsR_all (fun z hz => ?_), declsR_marks (fun z hz => ?_), List.append_nil]
    · obtain ⟨x, hx, rfl⟩ := List.mem_map.1 hz
      subst hf; exact hm x hx
    obtain ⟨x, hx, rfl⟩ := List.mem_map.1 hz
    subst hf; exact hd x hx
  have hdl : ds.length ≤ t.words.length := by
    have : (zips t).length = ds.length + ms.length := by rw [hz, List.length_append]
    omega
  have hdg : ∀ j (hj : j < ds.length), ds[j] = (t.words[j]'HW, t.kids[j]'HW) := by
    intro j hj
    have h1 : (zips t)[j]'HW = ds[j] := by
      simp only [hz]; rw [List.getElem_append_left hj]
    rw [← h1]; simp [zips]
  refine ⟨by simp [termsT], hn0, hn3, ?_⟩
  intro i hi
  generalize hD : declsR (zips (mapK ins t)) ++ termsR out.length (zips (mapK ins t)) = D
  have hTw : (termsT out.length (mapK ins t)).words = D.map (·.1) := by unfold termsT; simp only [hD]
  have hTk : (termsT out.length (mapK ins t)).kids = D.map (·.2) := by unfold termsT; simp only [hD]
  have hTn : (termsT out.length (mapK ins t)).n = t.n := rfl
  have hiD : i < D.length := by rw [hTw, List.length_map] at hi; exact hi
  have hw : (termsT out.length (mapK ins t)).words[i] = D[i].1 := by simp only [hTw, List.getElem_map]
  have hk : kidAt (termsT out.length (mapK ins t)) i = D[i].2 := by
    unfold kidAt; rw [hTk, Gt _ (by rw [List.length_map]; exact hiD), List.getElem_map]
  have hwp : 0 < i → (termsT out.length (mapK ins t)).words.getD (i - 1) [] = (D[i - 1]'HW).1 := fun h0 => by
    rw [hTw, Gt _ (by rw [List.length_map]; omega), List.getElem_map]
  have hkp : 0 < i → kidAt (termsT out.length (mapK ins t)) (i - 1) = (D[i - 1]'HW).2 := fun h0 => by
    unfold kidAt; rw [hTk, Gt _ (by rw [List.length_map]; omega), List.getElem_map]
  have hDd : ∀ j (hj : j < ds.length), D[j]'(by rw [← hD, List.length_append, hdz, List.length_map]; omega) = f ds[j] := by
    intro j hj
    simp only [← hD]
    rw [List.getElem_append_left (by rw [hdz, List.length_map]; exact hj)]
    simp only [hdz, List.getElem_map]
  have hDm : ∀ j (hj : j < D.length), ds.length ≤ j → ∃ h : j - ds.length < (termsR out.length (zips (mapK ins t))).length, D[j] = (termsR out.length (zips (mapK ins t)))[j - ds.length] := by
    intro j hj hge
    have hl9 : (declsR (zips (mapK ins t))).length = ds.length := by rw [hdz, List.length_map]
    have hl8 : D.length = ds.length + (termsR out.length (zips (mapK ins t))).length := by rw [← hD, List.length_append, hl9]
    refine ⟨by omega, ?_⟩
    simp only [← hD]
    rw [List.getElem_append_right HW]
    simp only [hl9]
  unfold elemAtP
  rw [hw, hk]
  by_cases c : i < ds.length
  · right
    have hEi := hall i HW
    have hdi := hd _ (List.getElem_mem c)
    rw [hdg i c] at hdi
    have hki : kidAt t i = t.kids[i]'HW := by unfold kidAt; exact Gt _ _
    rcases hEi with h | ⟨h1, h2, h3, h4⟩
    · exact absurd h.1 hdi
    rw [hDd i c, hdg i c]
    subst hf
    simp only
    rw [hki] at h3
    refine ⟨h1, h2, hK _ (List.getElem_mem _) h3, fun h0 => ?_⟩
    rw [hwp h0, hDd (i - 1) HW, hdg (i - 1) HW]
    have := h4 h0
    rw [Gt _ HW] at this
    exact this
  left
  obtain ⟨hx, hDi⟩ := hDm i hiD HW
  have hzm : D[i] ∈ termsR out.length (zips (mapK ins t)) := hDi ▸ List.getElem_mem hx
  have hmk := termsR_mark hzm
  obtain ⟨e1, e2, e3, e4⟩ := (Hs _ _ _).1 hzm
  obtain ⟨z0, hz0, hm0, hk0⟩ := markOf_kid _ _ (by rw [← e1]; exact e2)
  have hodd : ¬ (kindAt out D[i].2 = 7 ∨ kindAt out D[i].2 = 9 ∨ (14 ≤ D[i].2 ∧ D[i].2 ≤ 19)) := fun h => ho ⟨z0, hz0, hm0, by rw [hk0]; exact h⟩
  have hn2 : 2 ≤ t.n := by
    rw [zips_mapK] at hz0
    obtain ⟨y, hy, rfl⟩ := List.mem_map.1 hz0
    obtain ⟨j, hj, rfl⟩ := List.getElem_of_mem hy
    have hg : (zips t)[j].1 = t.words[j]'HW := by simp [zips]
    rcases hall j HW with h | h
    · exact h.2.1
    simp only [hg] at hm0; exact absurd hm0 h.1
  refine ⟨hmk, hn2, fun h => hodd (.inl h), fun h => hodd (.inr (.inl h)), fun h => hodd (.inr (.inr h)), fun h0 hmp => ?_⟩
  rw [hwp h0] at hmp
  rw [hkp h0]
  by_cases c2 : i - 1 < ds.length
  · rw [hDd _ c2] at hmp
    subst hf
    exact absurd hmp (hd ds[i - 1] (List.getElem_mem c2))
  obtain ⟨hx2, hDp⟩ := hDm (i - 1) HW HW
  rw [hDi, hDp]
  exact List.pairwise_iff_getElem.1 (termsR_sorted out.length (zips (mapK ins t))) _ _ hx2 hx HW
theorem made_sub {l out : List Ty} {t : Ty} {ins : List Int} (hM : madeP l t) (h9 : t.kind ≠ 9) (hin : ∀ k ∈ t.kids, 0 ≤ ins.getD k.toNat 0 ∧ ins.getD k.toNat 0 < out.length) (hK : ∀ k ∈ t.kids, kindAt l k = 5 → kindAt out (ins.getD k.toNat 0) = 5) (ho : t.kind = 7 → ¬ oddP out (mapK ins t)) :
    madeP out (normT out.length (mapK ins t)) := by
  obtain ⟨hkids, h16, hname, hwords, hm⟩ := hM
  have hmk : ∀ k ∈ (mapK ins t).kids, 0 ≤ k ∧ k < out.length := by
    intro k hk
    obtain ⟨x, hx, rfl⟩ := List.mem_map.1 hk
    exact hin x hx
  have hml : (mapK ins t).kids.length = t.kids.length := by simp [mapK]
  by_cases h7 : t.kind = 7
  · have hE := (madeK_7 h7).1 hm
    have hn : normT out.length (mapK ins t) = termsT out.length (mapK ins t) := by unfold normT; rw [if_pos (show (mapK ins t).kind = 7 from h7)]
    have hwl : (mapK ins t).words.length = (mapK ins t).kids.length := by rw [hml]; exact hE.1
    rw [hn]
    refine ⟨fun k hk => ?_, by have := (termsT_len hwl hmk).1; omega, fun _ => rfl, fun _ e => absurd h7 e, (madeK_7 (show (termsT out.length (mapK ins t)).kind = 7 from h7)).2 (elems_sub hE hK (ho h7))⟩
    have := (terms_kids hwl hmk k).1 hk
    exact hmk k this
  have hn : normT out.length (mapK ins t) = mapK ins t := by unfold normT; rw [if_neg (show ¬ (mapK ins t).kind = 7 from h7)]
  rw [hn]
  refine ⟨hmk, by omega, hname, hwords, ?_⟩
  unfold madeK at hm ⊢
  simp only [mapK, List.length_map] at hm ⊢
  rcases hm with h | h | h | h | h | h | h | h | h
  · exact .inl h
  · exact .inr (.inl h)
  · exact .inr (.inr (.inl h))
  · exact .inr (.inr (.inr (.inl h)))
  · exact .inr (.inr (.inr (.inr (.inl h))))
  · exact .inr (.inr (.inr (.inr (.inr (.inl h)))))
  · exact absurd h.1 h7
  · exact .inr (.inr (.inr (.inr (.inr (.inr (.inr (.inl h)))))))
  exact absurd h.1 h9
section
variable {l : List Ty} {args : List Int} {i : Nat}
theorem ask_start {l : List Ty} (hr : rightP l) {q : Nat} (hq : q < l.length) (h22 : q < 22) : askAt l q = 0 := by
  have h := hr.2.2 q hq
  unfold rowAt at h
  rw [if_pos h22] at h
  have hql : q < startL.length := by rw [start_len]; exact h22
  rw [start_get hql] at h
  obtain ⟨h1, _, h3, _⟩ := start_plain _ (List.getElem_mem hql)
  rw [ask_one hq, h]
  unfold ask1 ask0
  rw [h1, if_neg h3]; rfl
theorem right_made {l : List Ty} (hr : rightP l) {q : Nat} (hq : q < l.length) (h : askAt l q ≠ 0) : madeP (l.take q) l[q] := by
  have h2 := hr.2.2 q hq
  unfold rowAt at h2
  by_cases c : q < 22
  · exact absurd (ask_start hr hq c) h
  rw [if_neg c] at h2; exact h2.1
theorem sub_made (hr : rightP l) (hi : i < l.length) (hgood : ∀ a ∈ args, 0 ≤ a ∧ a < l.length) (hlen : (asksL (l.take (i + 1))).getD i 0 ≤ args.length) {q : Nat} (hq : q < i + 1) {out : List Ty} {ins : List Int} (hs : subN l args (asksL (l.take (i + 1))) (partsL l i) q = .ok (out, ins))
    (hM : (partsL l i).getD q false = true) (hA : (asksL (l.take (i + 1))).getD q 0 ≠ 0) (hql : q < l.length) (h9 : l[q].kind ≠ 9) : ((mapK ins l[q]).kind = 7 → ¬ oddP out (mapK ins l[q])) → madeP out (normT out.length (mapK ins l[q])) := by
  intro ho
  obtain ⟨hso, hS⟩ := sub_sound hr hi hgood hlen q HW out ins hs
  have hmade := right_made hr hql (by rw [← ask_in hi HW]; exact hA)
  have hrt := GL hr hql
  have hol := hso.pre.length_le
  refine made_sub hmade h9 (fun k hk => ?_) (fun k hk h5 => ?_) ho
  · have := hrt.kids k hk
    exact hso.ins k.toNat HW
  have hb := hrt.kids k hk
  have hkl : k.toNat < l.length := by omega
  have e : ((k.toNat : Nat) : Int) = k := by omega
  have hSk := hS k.toNat HW (parts_kid hr hi HW hM hk)
  have h5' : kindAt out ((k.toNat : Nat) : Int) = 5 := by
    rw [kind_pre hso.pre hkl, e, ← h5]
    unfold kindAt
    rw [List.getElem?_take_of_lt HW]
  have hin := hso.ins k.toNat HW
  have := subs_kind hSk (by rw [h5']; decide)
  rw [h5'] at this
  have e2 : (((ins.getD k.toNat 0).toNat : Nat) : Int) = ins.getD k.toNat 0 := by omega
  rwa [e2] at this
theorem sub_not1 (hr : rightP l) (hi : i < l.length) (hgood : ∀ a ∈ args, 0 ≤ a ∧ a < l.length) (hlen : (asksL (l.take (i + 1))).getD i 0 ≤ args.length) {e : Int} : ∀ q, q ≤ i + 1 → subN l args (asksL (l.take (i + 1))) (partsL l i) q = .error e → e ≠ 1
  | 0, _, h => by cases h
  | q + 1, hq, h => by
    cases hs : subN l args (asksL (l.take (i + 1))) (partsL l i) q with
    | error e2 =>
      rw [subN, hs] at h
      injection h with h
      subst h
      exact sub_not1 hr hi hgood hlen q HW hs
    | ok x =>
      obtain ⟨out, ins⟩ := x
      obtain ⟨hso, _⟩ := sub_sound hr hi hgood hlen q HW out ins hs
      have hql : q < l.length := by omega
      by_cases c : (partsL l i).getD q false = false ∨ (asksL (l.take (i + 1))).getD q 0 = 0
      · rw [sub_out hs c] at h; cases h
      have hM1 : (partsL l i).getD q false = true := by
        cases hx : (partsL l i).getD q false
        · exact absurd (.inl hx) c
        rfl
      have hA : (asksL (l.take (i + 1))).getD q 0 ≠ 0 := fun h0 => c (.inr h0)
      by_cases h9 : l[q].kind = 9
      · rw [sub_param hs hM1 hA hql h9] at h; cases h
      rw [sub_put hs hM1 hA hql h9] at h
      exact put_not1 hso.right (sub_made hr hi hgood hlen HW hs hM1 hA hql h9) h
theorem subR_not1 (hr : rightP l) (hi : i < l.length) (hb : ¬ badArgs l i args) {e : Int} (h : subR l i args = .error e) : e ≠ 1 := by
  obtain ⟨hgood, hlen⟩ := good_args hb
  cases hs : subN l args (asksL (l.take (i + 1))) (partsL l i) (i + 1) with
  | error e2 =>
    rw [HQ hb (Nat.le_refl _) hs] at h
    injection h with h
    subst h
    exact sub_not1 hr hi hgood hlen (i + 1) (Nat.le_refl _) hs
  | ok x => obtain ⟨out, ins⟩ := x; rw [subR_ok hb hs] at h; cases h
theorem fits_sub {N : List Nmd} {t : Ty} (ins : List Int) (m : Nat) (h : fitsU N t) : fitsU N (normT m (mapK ins t)) := by
  intro h8
  rw [norm_kind] at h8
  have hn : normT m (mapK ins t) = mapK ins t := by unfold normT; rw [if_neg (by rw [h8]; decide)]
  rw [hn]
  obtain ⟨j, h1, h2⟩ := h h8
  exact ⟨j, h1, by rw [h2]; simp [mapK]⟩
theorem sub_fits {N : List Nmd} (hr : rightP l) (hi : i < l.length) (hgood : ∀ a ∈ args, 0 ≤ a ∧ a < l.length) (hlen : (asksL (l.take (i + 1))).getD i 0 ≤ args.length) (hf : ∀ t ∈ l, fitsU N t) : ∀ q, q ≤ i + 1 → ∀ out ins, subN l args (asksL (l.take (i + 1))) (partsL l i) q = .ok (out, ins) → ∀ t ∈ out, fitsU N t
  | 0, _, out, ins, h => by
    injection h with h; injection h with h h'
    subst h; exact hf
  | q + 1, hq, out2, ins2, h => by
    cases hs : subN l args (asksL (l.take (i + 1))) (partsL l i) q with
    | error e => rw [subN, hs] at h; cases h
    | ok x =>
      obtain ⟨out, ins⟩ := x
      have ih := sub_fits hr hi hgood hlen hf q HW out ins hs
      obtain ⟨hso, _⟩ := sub_sound hr hi hgood hlen q HW out ins hs
      have hql : q < l.length := by omega
      by_cases c : (partsL l i).getD q false = false ∨ (asksL (l.take (i + 1))).getD q 0 = 0
      · rw [sub_out hs c] at h
        injection h with h; injection h with h h'
        subst h; exact ih
      have hM1 : (partsL l i).getD q false = true := by
        cases hx : (partsL l i).getD q false
        · exact absurd (.inl hx) c
        rfl
      have hA : (asksL (l.take (i + 1))).getD q 0 ≠ 0 := fun h0 => c (.inr h0)
      by_cases h9 : l[q].kind = 9
      · rw [sub_param hs hM1 hA hql h9] at h
        injection h with h; injection h with h h'
        subst h; exact ih
      rw [sub_put hs hM1 hA hql h9] at h
      intro t ht
      rcases put_mem hso.right h t ht with e | e
      · exact ih t e
      rw [e]; exact fits_sub ins _ (hf _ (List.getElem_mem hql))
theorem subR_fits {N : List Nmd} (hr : rightP l) (hi : i < l.length) (hf : ∀ t ∈ l, fitsU N t) {o : List Ty} {q : Int} (h : subR l i args = .ok (o, q)) : ∀ t ∈ o, fitsU N t := by
  by_cases hb : badArgs l i args
  · rw [subR_bad hb] at h; cases h
  obtain ⟨hgood, hlen⟩ := good_args hb
  cases hs : subN l args (asksL (l.take (i + 1))) (partsL l i) (i + 1) with
  | error e => rw [HQ hb (Nat.le_refl _) hs] at h; cases h
  | ok x =>
    obtain ⟨out, ins⟩ := x
    rw [subR_ok hb hs] at h
    injection h with h; injection h with h h'
    subst h
    exact sub_fits hr hi hgood hlen hf (i + 1) (Nat.le_refl _) out ins hs
end
theorem isK_pre {N M : List Ty} (h : N <+: M) {i x : Int} (h0 : 0 ≤ i) (hi : i < N.length) : isK M i x ↔ isK N i x := by
  have hl := h.length_le
  obtain ⟨n, rfl⟩ : ∃ n : Nat, i = (n : Int) := ⟨i.toNat, by omega⟩
  unfold isK
  rw [kind_pre h HW]
  constructor
  · rintro ⟨a, b, c⟩; exact ⟨a, hi, c⟩
  rintro ⟨a, b, c⟩; exact ⟨a, by omega, c⟩
theorem isK_up {N M : List Ty} (h : N <+: M) {i x : Int} (hk : isK N i x) : isK M i x := (isK_pre h hk.1 hk.2.1).2 hk
theorem few_up {N M : List Ty} (h : N <+: M) {i x : Int} (hk : fewA N i x) : fewA M i x := by
  have hl := h.length_le
  obtain ⟨h1, h2, h3⟩ := hk
  exact ⟨h1, by omega, by rw [ask_pre h HW]; exact h3⟩
theorem named_up {T M : List Ty} (h : T <+: M) {n : Nmd} (hn : namedU T n) : namedU M n := by
  obtain ⟨h1, ⟨h2, h3⟩, ⟨h4, h5, h6, h7⟩, h8, h9, h10⟩ := hn
  have hu := h4
  refine ⟨h1, ⟨h2, fun b hb => ⟨isK_up h (h3 b hb).1, few_up h (h3 b hb).2⟩⟩, ⟨few_up h h4, fun e => h5 ((isK_pre h hu.1 hu.2.1).1 e), fun e => h6 ((isK_pre h hu.1 hu.2.1).1 e), h7⟩, h8, fun i hi => ?_, fun hne => ⟨fun e => (h10 hne).1 ((isK_pre h hu.1 hu.2.1).1 e), fun e => (h10 hne).2 ((isK_pre h hu.1 hu.2.1).1 e)⟩⟩
  obtain ⟨a, b, c, d⟩ := h9 i hi
  exact ⟨a, isK_up h b, few_up h c, d⟩
theorem rightU_up {T M : List Ty} {N : List Nmd} (h : T <+: M) (hu : rightU T N) (hr : rightP M) (hf : ∀ t ∈ M, fitsU N t) : rightU M N :=
  ⟨hr, hu.2.1, fun i hi => ⟨named_up h (hu.2.2.1 i hi).1, (hu.2.2.1 i hi).2⟩, hf⟩
theorem rightU_sub {T : List Ty} {N : List Nmd} (hu : rightU T N) {u : Nat} (hul : u < T.length) {args : List Int} {o : List Ty} {q : Int} (h : subR T u args = .ok (o, q)) : rightU o N ∧ T <+: o ∧ 0 ≤ q ∧ q < o.length ∧ SubS o args u q.toNat := by
  obtain ⟨_, h1, h2, h3, h4, h5⟩ := subR_sound hu.1 hul h
  exact ⟨rightU_up h2 hu h1 (subR_fits hu.1 hul hu.2.2.2 h), h2, h3, h4, h5⟩
theorem args_good {T M : List Ty} {N : List Nmd} (hu : rightU T N) (hp : T <+: M) {n : Nat} (hn : n < T.length) (h8 : T[n].kind = 8) {j : Nat} (hj : j < N.length) (hat : atN N T[n].name = some j) {u : Nat} (hul : u < T.length) (hask : askAt T u ≤ N[j].bounds.length) : ¬ badArgs M u T[n].kids := by
  have hl := hp.length_le
  obtain ⟨i, hi, hb⟩ := hu.2.2.2 _ (List.getElem_mem hn) h8
  rw [hat] at hi
  injection hi with hi
  subst hi
  rw [Gt default hj] at hb
  refine not_bad (fun a ha => ?_) ?_
  · have := (GL hu.1 hn).kids a ha
    omega
  rw [ask_in HW (Nat.le_refl _), ask_pre hp hul]
  omega
end Go.Sy
namespace Go.Sy
open Go Go.Proofs
def All2 {α β : Type} (R : α → β → Prop) : List α → List β → Prop
  | [], [] => True
  | a :: l, b :: m => R a b ∧ All2 R l m
  | _, _ => False
section
variable {α β : Type} {R S : α → β → Prop}
theorem All2.len : ∀ {l : List α} {m : List β}, All2 R l m → l.length = m.length
  | [], [], _ => rfl
  | _ :: _, _ :: _, h => by simp only [List.length_cons, All2.len h.2]
theorem All2.imp (hi : ∀ a b, R a b → S a b) : ∀ {l : List α} {m : List β}, All2 R l m → All2 S l m
  | [], [], _ => trivial
  | _ :: _, _ :: _, h => ⟨hi _ _ h.1, All2.imp hi h.2⟩
theorem All2.get : ∀ {l : List α} {m : List β}, All2 R l m → ∀ (n : Nat) (h : n < l.length) (h' : n < m.length), R l[n] m[n]
  | _ :: _, _ :: _, h, 0, _, _ => h.1
  | _ :: _, _ :: _, h, n + 1, h1, h2 => All2.get h.2 n (Nat.lt_of_succ_lt_succ h1) (Nat.lt_of_succ_lt_succ h2)
theorem All2.of : ∀ {l : List α} {m : List β}, l.length = m.length → (∀ (n : Nat) (h : n < l.length) (h' : n < m.length), R l[n] m[n]) → All2 R l m
  | [], [], _, _ => trivial
  | _ :: _, _ :: _, he, h => ⟨h 0 (Nat.succ_pos _) (Nat.succ_pos _), All2.of (by simpa using he) fun n h1 h2 => h (n + 1) (Nat.succ_lt_succ h1) (Nat.succ_lt_succ h2)⟩
theorem All2.snoc : ∀ {l : List α} {m : List β} {a : α} {b : β}, All2 R l m → R a b → All2 R (l ++ [a]) (m ++ [b])
  | [], [], _, _, _, h => ⟨h, trivial⟩
  | _ :: _, _ :: _, _, _, h, hr => ⟨h.1, All2.snoc h.2 hr⟩
theorem All2.app : ∀ {l l2 : List α} {m m2 : List β}, All2 R l m → All2 R l2 m2 → All2 R (l ++ l2) (m ++ m2)
  | [], _, [], _, _, h => h
  | _ :: _, _, _ :: _, _, h, hr => ⟨h.1, All2.app h.2 hr⟩
theorem All2.mem {l : List α} {m : List β} (h : All2 R l m) {a : α} (ha : a ∈ l) : ∃ b ∈ m, R a b := by
  obtain ⟨n, hn, rfl⟩ := List.getElem_of_mem ha
  exact ⟨_, List.getElem_mem (h.len ▸ hn), h.get n hn (h.len ▸ hn)⟩
theorem All2.mem' {l : List α} {m : List β} (h : All2 R l m) {b : β} (hb : b ∈ m) : ∃ a ∈ l, R a b := by
  obtain ⟨n, hn, rfl⟩ := List.getElem_of_mem hb
  exact ⟨_, List.getElem_mem (h.len.symm ▸ hn), h.get n (h.len.symm ▸ hn) hn⟩
end
theorem norm_self {N : List Ty} (hr : rightP N) {p : Nat} (hp : p < N.length) : normT N.length N[p] = N[p] := by
  unfold normT
  split
  · exact (right_iface hr hp ‹_›).1
  rfl
theorem norm_twice {m m2 : Nat} {t : Ty} (hk : ∀ k ∈ t.kids, 0 ≤ k ∧ k < m) (g : Int → Nat) : normT m2 (mapG g (normT m t)) = normT m2 (mapG g t) := by
  by_cases h7 : t.kind = 7
  · have e : normT m t = termsT m t := by unfold normT; rw [if_pos h7]
    rw [e]
    unfold normT
    rw [if_pos (show (mapG g (termsT m t)).kind = 7 from h7), if_pos (show (mapG g t).kind = 7 from h7), terms_twice hk]
  have e : normT m t = t := by unfold normT; rw [if_neg h7]
  rw [e]
theorem mapG_id {t : Ty} (hk : ∀ k ∈ t.kids, 0 ≤ k) : mapG (fun k => k.toNat) t = t := by
  unfold mapG
  have e : (t.kids.map fun k => ((k.toNat : Nat) : Int)) = t.kids := by
    conv => rhs; rw [← List.map_id t.kids]
    exact List.map_congr_left fun k h => by have := hk k h; simp only [id]; omega
  rw [e]
theorem mapG_mapG (f g : Int → Nat) (t : Ty) : mapG f (mapG g t) = mapG (fun k => f ((g k : Nat) : Int)) t := by unfold mapG; simp only [List.map_map]; rfl
inductive EqA (T P Q : List Ty) : Nat → Nat → Prop where
  | base {p : Nat} (h : p < T.length) : EqA T P Q p p
  | made {p q : Nat} (g : Int → Nat) (hp : p < P.length) (hq : q < Q.length) (hg : ∀ k ∈ P[p].kids, EqA T P Q k.toNat (g k)) (hN : Q[q] = normT Q.length (mapG g P[p])) : EqA T P Q p q
structure Two (T P Q : List Ty) : Prop where
  rp : rightP P
  rq : rightP Q
  tp : T <+: P
  tq : T <+: Q
theorem Two.symm {T P Q : List Ty} (h : Two T P Q) : Two T Q P := ⟨h.rq, h.rp, h.tq, h.tp⟩
section
variable {T P Q P2 Q2 : List Ty} {p q r : Nat}
theorem kids_low {N : List Ty} (hr : rightP N) (hp : p < N.length) {k : Int} (hk : k ∈ N[p].kids) : 0 ≤ k ∧ k.toNat < p := by
  have := (GL hr hp).kids k hk
  omega
theorem EqA.out (h2 : Two T P Q) (h : EqA T P Q p q) : ∃ (g : Int → Nat) (hp : p < P.length) (hq : q < Q.length), (∀ k ∈ P[p].kids, EqA T P Q k.toNat (g k)) ∧ Q[q] = normT Q.length (mapG g P[p]) := by
  cases h with
  | base h =>
    have l1 := h2.tp.length_le
    have l2 := h2.tq.length_le
    have e : P[p]'HW = Q[p]'HW := (get_pre h2.tp h).trans (get_pre h2.tq h).symm
    refine ⟨fun k => k.toNat, by omega, by omega, fun k hk => .base ?_, ?_⟩
    · have := kids_low h2.rp HW hk; omega
    rw [mapG_id (fun k hk => (kids_low h2.rp HW hk).1), e]
    exact (norm_self h2.rq HW).symm
  | made g hp hq hg hN => exact ⟨g, hp, hq, hg, hN⟩
theorem EqA.lt (h2 : Two T P Q) (h : EqA T P Q p q) : p < P.length ∧ q < Q.length := by
  obtain ⟨_, hp, hq, _⟩ := h.out h2
  exact ⟨hp, hq⟩
theorem EqA.one (h2 : Two T P Q) : ∀ p q r, EqA T P Q p q → EqA T P Q p r → q = r := by
  intro p
  induction p using Nat.strongRecOn with
  | ind p ih =>
    intro q r h1 h3
    obtain ⟨g, hp, hq, hg, hN⟩ := h1.out h2
    obtain ⟨f, _, hr, hf, hM⟩ := h3.out h2
    have e : mapG g P[p] = mapG f P[p] := mapG_congr fun k hk => ih k.toNat (kids_low h2.rp hp hk).2 _ _ (hg k hk) (hf k hk)
    exact right_inj h2.rq hq hr (by rw [hN, hM, e])
theorem mapG_low {g : Int → Nat} (h2 : Two T P Q) (hp : p < P.length) (hg : ∀ k ∈ P[p].kids, EqA T P Q k.toNat (g k)) : ∀ k ∈ (mapG g P[p]).kids, 0 ≤ k ∧ k < Q.length := mapG_kids fun k hk => ((hg k hk).lt h2).2
theorem mapG_words {g : Int → Nat} (hr : rightP P) (hp : p < P.length) : (mapG g P[p]).kind = 7 → (mapG g P[p]).words.length = (mapG g P[p]).kids.length := fun h7 => by
  unfold mapG; simp only [List.length_map]; exact (GL hr hp).iface h7
theorem EqA.kids (h2 : Two T P Q) {g : Int → Nat} (hp : p < P.length) (hq : q < Q.length) (hg : ∀ k ∈ P[p].kids, EqA T P Q k.toNat (g k)) (hN : Q[q] = normT Q.length (mapG g P[p])) {x : Int} : x ∈ Q[q].kids ↔ ∃ k ∈ P[p].kids, x = ((g k : Nat) : Int) := by
  rw [hN, norm_kids (mapG_words h2.rp hp) (mapG_low h2 hp hg)]
  constructor
  · intro h
    obtain ⟨k, hk, e⟩ := List.mem_map.1 h
    exact ⟨k, hk, e.symm⟩
  rintro ⟨k, hk, rfl⟩
  exact mapG_in hk
theorem EqA.symm (h2 : Two T P Q) : ∀ p q, EqA T P Q p q → EqA T Q P q p := by
  intro p
  induction p using Nat.strongRecOn with
  | ind p ih =>
    intro q h1
    obtain ⟨g, hp, hq, hg, hN⟩ := h1.out h2
    have hf : ∃ f : Int → Nat, ∀ k ∈ P[p].kids, f ((g k : Nat) : Int) = k.toNat := by
      classical
      refine ⟨fun x => if h : ∃ k ∈ P[p].kids, ((g k : Nat) : Int) = x then h.choose.toNat else 0, fun k hk => ?_⟩
      have h : ∃ k' ∈ P[p].kids, ((g k' : Nat) : Int) = ((g k : Nat) : Int) := ⟨k, hk, rfl⟩
      refine (dif_pos h).trans ?_
      obtain ⟨c1, c2⟩ := h.choose_spec
      have e1 := ih _ (kids_low h2.rp hp c1).2 _ (hg _ c1)
      have e2 := ih _ (kids_low h2.rp hp hk).2 _ (hg k hk)
      rw [show g h.choose = g k by omega] at e1
      exact EqA.one h2.symm _ _ _ e1 e2
    obtain ⟨f, hf⟩ := hf
    refine .made f hq hp (fun x hx => ?_) ?_
    · obtain ⟨k, hk, rfl⟩ := (EqA.kids h2 hp hq hg hN).1 hx
      rw [hf k hk, Int.toNat_natCast]
      exact ih _ (kids_low h2.rp hp hk).2 _ (hg k hk)
    rw [hN, norm_twice (mapG_low h2 hp hg), mapG_mapG, mapG_congr (f := fun k => k.toNat) hf, mapG_id (fun k hk => (kids_low h2.rp hp hk).1)]
    exact (norm_self h2.rp hp).symm
theorem EqA.inj (h2 : Two T P Q) (h1 : EqA T P Q p r) (h3 : EqA T P Q q r) : p = q := EqA.one h2.symm _ _ _ (EqA.symm h2 _ _ h1) (EqA.symm h2 _ _ h3)
theorem EqA.low (h2 : Two T P Q) (h : EqA T P Q p q) (hp : p < T.length) : q = p := EqA.one h2 _ _ _ h (.base hp)
theorem EqA.kind (h2 : Two T P Q) (h : EqA T P Q p q) : ∃ (hp : p < P.length) (hq : q < Q.length), Q[q].kind = P[p].kind := by
  obtain ⟨g, hp, hq, hg, hN⟩ := h.out h2
  exact ⟨hp, hq, by rw [hN, norm_kind]; rfl⟩
theorem EqA.flat (h2 : Two T P Q) (h : EqA T P Q p q) (hp : p < P.length) (hq : q < Q.length) (h7 : P[p].kind ≠ 7) : Q[q].words = P[p].words ∧ Q[q].name = P[p].name ∧ Q[q].n = P[p].n ∧ All2 (fun i j => 0 ≤ i ∧ 0 ≤ j ∧ EqA T P Q i.toNat j.toNat) P[p].kids Q[q].kids := by
  obtain ⟨g, _, _, hg, hN⟩ := h.out h2
  have hn : normT Q.length (mapG g P[p]) = mapG g P[p] := by unfold normT; rw [if_neg (show ¬ (mapG g P[p]).kind = 7 from h7)]
  rw [hn] at hN
  rw [hN]
  refine ⟨rfl, rfl, rfl, All2.of (by simp [mapG]) fun n h1 h3 => ?_⟩
  have hk := List.getElem_mem h1
  simp only [mapG, List.getElem_map]
  exact ⟨(kids_low h2.rp hp hk).1, Int.natCast_nonneg _, by rw [Int.toNat_natCast]; exact hg _ hk⟩
theorem EqA.mono (h2 : Two T P Q) (hp2 : P <+: P2) (hq2 : Q <+: Q2) (h : EqA T P Q p q) : EqA T P2 Q2 p q := by
  have l1 := hp2.length_le
  have l2 := hq2.length_le
  induction h with
  | base h => exact .base h
  | @made p q g hp hq hg hN ih =>
    refine .made g HW HW (fun k hk => ?_) ?_
    · rw [get_pre hp2 hp] at hk; exact ih k hk
    rw [get_pre hq2 hq, get_pre hp2 hp, hN, norm_more (mapG_low h2 hp hg) l2]
theorem askK_least {A : List Int} {B : Int} : ∀ (ks : List Int) (m : Int), m ≤ B → (∀ k ∈ ks, A.getD k.toNat 0 ≤ B) → askK A m ks ≤ B
  | [], m, h, _ => h
  | k :: ks, m, h, hk => askK_least ks (max m (A.getD k.toNat 0)) (by have := hk k (.head _); omega) (fun x hx => hk x (.tail _ hx))
theorem ask_low {N : List Ty} (hr : rightP N) (hp : p < N.length) {k : Int} (hk : k ∈ N[p].kids) : (asksL (N.take p)).getD k.toNat 0 = askAt N k.toNat := by
  have hb := (kids_low hr hp hk).2
  have e := ask_pre (N := N.take p) (M := N) (List.take_prefix p N) (p := k.toNat) (by rw [List.length_take]; omega)
  rw [e]; rfl
theorem ask_le (h2 : Two T P Q) : ∀ p q, EqA T P Q p q → askAt P p ≤ askAt Q q := by
  intro p
  induction p using Nat.strongRecOn with
  | ind p ih =>
    intro q h
    obtain ⟨g, hp, hq, hg, hN⟩ := h.out h2
    have hkind : Q[q].kind = P[p].kind := by rw [hN, norm_kind]; rfl
    have hn : Q[q].n = P[p].n := by rw [hN]; unfold normT; split <;> rfl
    have h0 : ask0 P[p] = ask0 Q[q] := by unfold ask0; rw [hkind, hn]
    rw [ask_one hp, ask_one hq]
    unfold ask1
    have hge := askK_ge (asksL (Q.take q)) Q[q].kids (ask0 Q[q])
    refine askK_least _ _ HW fun k hk => ?_
    rw [ask_low h2.rp hp hk]
    have hx : ((g k : Nat) : Int) ∈ Q[q].kids := (EqA.kids h2 hp hq hg hN).2 ⟨k, hk, rfl⟩
    have h5 := hge.2 _ hx
    rw [ask_low h2.rq hq hx, Int.toNat_natCast] at h5
    have := ih _ (kids_low h2.rp hp hk).2 _ (hg k hk)
    omega
theorem ask_eq (h2 : Two T P Q) (h : EqA T P Q p q) : askAt P p = askAt Q q := Int.le_antisymm (ask_le h2 _ _ h) (ask_le h2.symm _ _ (EqA.symm h2 _ _ h))
theorem subS_two (h2 : Two T P Q) {args args2 : List Int} (ha : ∀ a ∈ args, 0 ≤ a ∧ a < P.length) (_ : ∀ a ∈ args2, 0 ≤ a ∧ a < Q.length) (hab : All2 (fun i j => 0 ≤ i ∧ 0 ≤ j ∧ EqA T P Q i.toNat j.toNat) args args2) : ∀ p q r s, EqA T P Q p q → SubS P args p r → SubS Q args2 q s → EqA T P Q r s := by
  intro p
  induction p using Nat.strongRecOn with
  | ind p ih =>
    intro q r s he h1 h3
    have hask := ask_eq h2 he
    obtain ⟨g, hp, hq, hg, hN⟩ := he.out h2
    have hkind : Q[q].kind = P[p].kind := by rw [hN, norm_kind]; rfl
    have hn : Q[q].n = P[p].n := by rw [hN]; unfold normT; split <;> rfl
    cases h1 with
    | stay _ h =>
      cases h3 with
      | stay _ _ => exact he
      | param _ h9 _ => exact absurd (hask.symm.trans h) (ask_pos h2.rq hq h9)
      | made f _ _ ha _ _ _ _ => exact absurd (hask.symm.trans h) ha
    | param _ h9 hr =>
      cases h3 with
      | stay _ h => exact absurd (hask.trans h) (ask_pos h2.rp hp h9)
      | param _ _ hs =>
        rw [hn] at hs
        obtain ⟨l1, e1⟩ := List.getElem?_eq_some_iff.1 hr
        obtain ⟨l2, e2⟩ := List.getElem?_eq_some_iff.1 hs
        have := (hab.get _ l1 l2).2.2
        rw [e1, e2, Int.toNat_natCast, Int.toNat_natCast] at this
        exact this
      | made f _ h9' _ _ _ _ _ => rw [hkind] at h9'; exact absurd h9 h9'
    | made f _ h9 h0 hf ho hr hR =>
      cases h3 with
      | stay _ h => exact absurd (hask.trans h) h0
      | param _ h9' _ => rw [hkind] at h9'; exact absurd h9' h9
      | made e _ _ _ hE ho2 hs hS =>
        have hfl : ∀ k ∈ (mapG f P[p]).kids, 0 ≤ k ∧ k < P.length := mapG_kids fun k hk => (hf k hk).lt ha
        have hin : ∀ k ∈ P[p].kids, ((g k : Nat) : Int) ∈ Q[q].kids := fun k hk => (EqA.kids h2 hp hq hg hN).2 ⟨k, hk, rfl⟩
        have key : ∀ k ∈ P[p].kids, EqA T P Q (f k) (e ((g k : Nat) : Int)) := fun k hk => by
          have h5 := hE _ (hin k hk)
          rw [Int.toNat_natCast] at h5
          exact ih k.toNat (kids_low h2.rp hp hk).2 _ _ _ (hg k hk) (hf k hk) h5
        have hd : ∃ d : Int → Nat, ∀ k ∈ P[p].kids, d ((f k : Nat) : Int) = e ((g k : Nat) : Int) := by
          classical
          refine ⟨fun x => if h : ∃ k ∈ P[p].kids, ((f k : Nat) : Int) = x then e ((g h.choose : Nat) : Int) else 0, fun k hk => ?_⟩
          have h : ∃ k' ∈ P[p].kids, ((f k' : Nat) : Int) = ((f k : Nat) : Int) := ⟨k, hk, rfl⟩
          refine (dif_pos h).trans ?_
          obtain ⟨c1, c2⟩ := h.choose_spec
          have e1 := key _ c1
          rw [show f h.choose = f k by omega] at e1
          exact EqA.one h2 _ _ _ e1 (key k hk)
        obtain ⟨d, hd⟩ := hd
        refine .made d hr hs (fun x hx => ?_) ?_
        · rw [hR, norm_kids (mapG_words h2.rp hp) hfl] at hx
          obtain ⟨k, hk, rfl⟩ := List.mem_map.1 hx
          rw [hd k hk, Int.toNat_natCast]
          exact key k hk
        rw [hS, hR, norm_twice hfl, mapG_mapG, mapG_congr (f := fun k => e ((g k : Nat) : Int)) hd, hN, norm_twice (mapG_low h2 hp hg), mapG_mapG]
def EqI (T P Q : List Ty) (i j : Int) : Prop := 0 ≤ i ∧ 0 ≤ j ∧ EqA T P Q i.toNat j.toNat
theorem EqI.mono (h2 : Two T P Q) (hp2 : P <+: P2) (hq2 : Q <+: Q2) {i j : Int} (h : EqI T P Q i j) : EqI T P2 Q2 i j := ⟨h.1, h.2.1, h.2.2.mono h2 hp2 hq2⟩
theorem EqI.base {i : Int} (h0 : 0 ≤ i) (hi : i < T.length) : EqI T P Q i i := ⟨h0, h0, .base HW⟩
theorem EqI.lt (h2 : Two T P Q) {i j : Int} (h : EqI T P Q i j) : i < P.length ∧ j < Q.length := by
  obtain ⟨h0, h1, h⟩ := h
  have := h.lt h2
  omega
theorem EqI.one (h2 : Two T P Q) {i j k : Int} (h : EqI T P Q i j) (h3 : EqI T P Q i k) : j = k := by
  have := EqA.one h2 _ _ _ h.2.2 h3.2.2
  have := h.2.1
  have := h3.2.1
  omega
theorem EqI.inj (h2 : Two T P Q) {i j k : Int} (h : EqI T P Q i k) (h3 : EqI T P Q j k) : i = j := by
  have := EqA.inj h2 h.2.2 h3.2.2
  have := h.1
  have := h3.1
  omega
theorem subR_two (h2 : Two T P Q) {i j : Int} (hij : EqI T P Q i j) {args args2 : List Int} (hab : All2 (EqI T P Q) args args2) {P3 Q3 : List Ty} {r s : Int} (h1 : subR P i.toNat args = .ok (P3, r)) (h3 : subR Q j.toNat args2 = .ok (Q3, s)) : Two T P3 Q3 ∧ P <+: P3 ∧ Q <+: Q3 ∧ EqI T P3 Q3 r s := by
  obtain ⟨hi, hj⟩ := hij.2.2.lt h2
  obtain ⟨b1, r1, p1, z1, l1, s1⟩ := subR_sound h2.rp hi h1
  obtain ⟨b2, r2, p2, z2, l2, s2⟩ := subR_sound h2.rq hj h3
  have g1 := (good_args b1).1
  have g2 := (good_args b2).1
  have t2 : Two T P3 Q3 := ⟨r1, r2, h2.tp.trans p1, h2.tq.trans p2⟩
  have le1 := p1.length_le
  have le2 := p2.length_le
  refine ⟨t2, p1, p2, z1, z2, ?_⟩
  exact subS_two t2 (fun a ha => by have := g1 a ha; omega) (fun a ha => by have := g2 a ha; omega) (hab.imp fun a b h => h.mono h2 p1 p2) _ _ _ _ (hij.2.2.mono h2 p1 p2) s1 s2
end
end Go.Sy
namespace Go.Sy
open Go Go.Proofs Go.RowKit
theorem asks_full (T : List Ty) : (asksL T).length = T.length := by rw [ask_all]; exact asks_len T T.length (Nat.le_refl _)
theorem rep_step2 {α : Type} (z : α) {n q : Nat} (h : q < n) : List.replicate (n - q) z = z :: List.replicate (n - (q + 1)) z := by
  have e : n - q = (n - (q + 1)) + 1 := by omega
  rw [e, List.replicate_succ]
theorem ask_next2 {l : List Ty} {n q : Nat} (hq : q < l.length) : (asksL (l.take q) ++ askK (asksL (l.take q)) (ask0 l[q]) l[q].kids :: List.replicate (n - (q + 1)) 0) = asksL (l.take (q + 1)) ++ List.replicate (n - (q + 1)) 0 := by
  rw [asks_step hq]; simp [ask1]
attribute [local irreducible] AC AT AO AK AH ACalls Sub Res.cells Res.obj Res.nix Res.own Res.map Exit.then Exit.inBlock bodyPost Code.wp Code.wpIn WL Next Post Kont
section
variable {W0 : World} {L : List Res} {F : List Fact} {R : Value → List Res → List Fact → Prop}
set_option maxRecDepth 100000
set_option maxHeartbeats 8000000
theorem uasks_c (l : List Ty) (hr : rightP l) {a : Option Addr} {k c : Nat} (mL : fL l a k c ∈ F) (h : ∀ a k c, R (.slice a k c) L (fI (asksL l) a k c :: F)) : ACalls Tryz.prog W0 42 #[.slice a k c] L F R := by
  have h400 := hr.2.1
  refine Ge Tryz.func42 HU Tryz.ntmps42 HU ?_
  refine qs 8 ?_
  refine Ga (Gv HU HU (fun hl9 => ?_) (enc := eTy) (lst := l) (hm := memA))
  refine Ga (AO.makeSlice1 (m := l.length) HU HU HU HU HW HW HU (fun b10 => ?_))
  refine qs 7 ?_
  refine Ga (Gv HU HU (fun hl12 => ?_) (enc := eTy) (lst := l) (hm := memA))
  refine qs 4 ?_
  refine GN (fun (q : Nat) => q ≤ l.length) (fun q => [(3, .slice (some ⟨b10, 0, none⟩) l.length l.length), (11, .slice a k c), (12, .int .i64 l.length), (13, .int .i64 (q : Int))]) (fun q => Res.cells b10 ((asksL (l.take q) ++ List.replicate (l.length - q) 0).map (Value.int .i64)).toArray 3 :: L) (fun _ => _) (fun q => l.length - q) 0 (Nat.zero_le _) srA (Hn (by simp [asksL])) ?_
  rintro q hq
  refine qs 2 ?_
  refine Ga (GB HU HU HU (fun c14 => ?_) (fun c14 => ?_))
  ·refine qs 11 ?_
   have hql : q < l.length := by omega
   have hAl := asks_len l q HW
   have hrt := GL hr hql
   rw [rep_step2 0 hql]
   refine Ga (Gj HU HU HU HU (enc := eTy) (lst := l) memA hql (fun _ _ => ?_))
   refine Ga (GU HU HU ?_)
   intro a22 k22 z22 d22 e22 f22
   refine Ga (Gq HU (fun b5 => ?_))
   refine qs 9 ?_
   refine Ga (GC HU HU HU (fun c20 => ?_) (fun c20 => ?_))
   ·refine qs 8 ?_
    have hp := hrt.param c20
    refine Ga (AO.add HU HU HU HW HW ?_)
    refine Ga (AO.ofY (GM (k := q) HU HU HU HW) HU ?_)
    refine Ga (Gs (v := .int .i64 (l[q].n + 1)) (cs := (asksL (l.take q) ++ 0 :: List.replicate (l.length - (q + 1)) 0).map (Value.int .i64)) HU HU HU ?_ (ho := blt_of (by simp; omega)))
    rw [setA hAl]
    refine qs 6 ?_
    refine Ga (Gv HU HU (fun hl29 => ?_) (enc := eI) (lst := l[q].kids) (hm := memA))
    refine qs 4 ?_
    rw [show l[q].n + 1 = ask0 l[q] from (if_pos c20).symm]
    refine GN (fun (v : Nat) => v ≤ l[q].kids.length) (fun v => [(3, .slice (some ⟨b10, 0, none⟩) l.length l.length), (11, .slice a k c), (12, .int .i64 l.length), (13, .int .i64 (q : Int)), (4, .int .i64 (q : Int)), (5, .pointer (some ⟨b5, 0, none⟩)), (28, .slice d22 e22 f22), (29, .int .i64 l[q].kids.length), (30, .int .i64 (v : Int))]) (fun v => _ :: Res.cells b10 ((asksL (l.take q) ++ askK (asksL (l.take q)) (ask0 l[q]) (l[q].kids.take v) :: List.replicate (l.length - (q + 1)) 0).map (Value.int .i64)).toArray 3 :: L) (fun _ => _) (fun v => l[q].kids.length - v) 0 (Nat.zero_le _) srA (Gk _ _) ?_
    rintro v hv
    refine qs 2 ?_
    refine Ga (GB HU HU HU (fun c31 => ?_) (fun c31 => ?_))
    ·refine qs 10 ?_
     have hkf := hrt.few
     have hvl : v < l[q].kids.length := by omega
     have hb := hrt.kids _ (List.getElem_mem hvl)
     refine Ga (Gj HU HU HU HU (show fK l[q] _ _ _ ∈ _ from memA) hvl (fun _ _ => ?_))
     refine Ga (GE HU HU ?_)
     intros
     refine qs 3 ?_
     refine GO (fun i => Nat.beq i 12) [(b10, _, _)] bxA HU (fun hx hX => ?_)
     refine qt [0, 1, 2, 3, 4] ?_
     refine GV (i := 5) HU (Y.loadB HU (List.Mem.head _) (getA hAl)) HV HV HU HU HU ?_
     refine qt [6, 7] ?_
     refine GF (i := 8) HU (GM (k := l[q].kids[v].toNat) HU HU HW HW) HV HU HU ?_
     refine GV (i := 9) HU (Y.loadB HU (List.Mem.head _) (getB 0 (asks_pos hql hb))) HV HV HU HU HU ?_
     refine qt [10, 11] ?_
     refine Gf (i := 12) HV HU HU (fun _ => ?_)
     rw [max_ask _ hvl]
     refine Gs (v := .int .i64 (askK (asksL (l.take q)) (ask0 l[q]) (l[q].kids.take (v + 1)))) (cs := (asksL (l.take q) ++ askK (asksL (l.take q)) (ask0 l[q]) (l[q].kids.take v) :: List.replicate (l.length - (q + 1)) 0).map (Value.int .i64)) HU HU HU ?_ (ho := blt_of (by simp; omega))
     rw [setA hAl]
     refine Gr HU ?_
     refine Gm HV ?_
     refine qs 6 ?_
     refine Gl (v + 1) HW HW srA subF
    refine qs 14 ?_
    refine Gl (q + 1) HW HW srA (Sub.drop.trans ?_)
    have hkt : l[q].kids.take v = l[q].kids := List.take_of_length_le HW
    rw [hkt, ask_next2 hql]
    exact subF
   refine qs 9 ?_
   refine Ga (Gv HU HU (fun hl29 => ?_) (enc := eI) (lst := l[q].kids) (hm := memA))
   refine qs 4 ?_
   rw [show (0 : Int) :: List.replicate (l.length - (q + 1)) 0 = ask0 l[q] :: List.replicate (l.length - (q + 1)) 0 by rw [show ask0 l[q] = 0 from if_neg c20]]
   refine GN (fun (v : Nat) => v ≤ l[q].kids.length) (fun v => [(3, .slice (some ⟨b10, 0, none⟩) l.length l.length), (11, .slice a k c), (12, .int .i64 l.length), (13, .int .i64 (q : Int)), (4, .int .i64 (q : Int)), (5, .pointer (some ⟨b5, 0, none⟩)), (28, .slice d22 e22 f22), (29, .int .i64 l[q].kids.length), (30, .int .i64 (v : Int))]) (fun v => _ :: Res.cells b10 ((asksL (l.take q) ++ askK (asksL (l.take q)) (ask0 l[q]) (l[q].kids.take v) :: List.replicate (l.length - (q + 1)) 0).map (Value.int .i64)).toArray 3 :: L) (fun _ => _) (fun v => l[q].kids.length - v) 0 (Nat.zero_le _) srA (Gk _ _) ?_
   rintro v hv
   refine qs 2 ?_
   refine Ga (GB HU HU HU (fun c31 => ?_) (fun c31 => ?_))
   ·refine qs 10 ?_
    have hkf := hrt.few
    have hvl : v < l[q].kids.length := by omega
    have hb := hrt.kids _ (List.getElem_mem hvl)
    refine Ga (Gj HU HU HU HU (show fK l[q] _ _ _ ∈ _ from memA) hvl (fun _ _ => ?_))
    refine Ga (GE HU HU ?_)
    intros
    refine qs 3 ?_
    refine GO (fun i => Nat.beq i 12) [(b10, _, _)] bxA HU (fun hx hX => ?_)
    refine qt [0, 1, 2, 3, 4] ?_
    refine GV (i := 5) HU (Y.loadB HU (List.Mem.head _) (getA hAl)) HV HV HU HU HU ?_
    refine qt [6, 7] ?_
    refine GF (i := 8) HU (GM (k := l[q].kids[v].toNat) HU HU HW HW) HV HU HU ?_
    refine GV (i := 9) HU (Y.loadB HU (List.Mem.head _) (getB 0 (asks_pos hql hb))) HV HV HU HU HU ?_
    refine qt [10, 11] ?_
    refine Gf (i := 12) HV HU HU (fun _ => ?_)
    rw [max_ask _ hvl]
    refine Gs (v := .int .i64 (askK (asksL (l.take q)) (ask0 l[q]) (l[q].kids.take (v + 1)))) (cs := (asksL (l.take q) ++ askK (asksL (l.take q)) (ask0 l[q]) (l[q].kids.take v) :: List.replicate (l.length - (q + 1)) 0).map (Value.int .i64)) HU HU HU ?_ (ho := blt_of (by simp; omega))
    rw [setA hAl]
    refine Gr HU ?_
    refine Gm HV ?_
    refine qs 6 ?_
    refine Gl (v + 1) HW HW srA subF
   refine qs 14 ?_
   refine Gl (q + 1) HW HW srA (Sub.drop.trans ?_)
   have hkt : l[q].kids.take v = l[q].kids := List.take_of_length_le HW
   rw [hkt, ask_next2 hql]
   exact subF
  refine qs 11 ?_
  refine Ga (AO.move HU HU ?_)
  have hq9 : q = l.length := by omega
  subst hq9
  rw [Nat.sub_self, List.replicate_zero, List.append_nil, List.take_length]
  refine Gz ((GP (i := 0) (enc := eI) (sz := 1) (k := l.length) (asksL l) HU (cells_I _) (fun _ => rfl) (asks_full l) (by simp only [maxLen]; omega)).trans Gn) ?_
  refine qs 4 ?_
  exact Gb (L' := L) (F' := fI (asksL l) _ _ _ :: F) Tryz.results42 rfl (Hk (fun x hx => by repeat (first | exact hx | refine List.mem_cons_of_mem _ ?_))) (h _ _ _)
theorem is_c (T : List Ty) (i x : Int) {a a2 : Option Addr} {k c k2 c2 : Nat} (mL : fL T a k c ∈ F) (hT : isK T i x → R (.bool true) L F) (hF : ¬ isK T i x → R (.bool false) L F) : ACalls Tryz.prog W0 104 #[.agg #[.slice a k c, .slice a2 k2 c2], .int .i64 i, .int .i64 x] L F R := by
  refine Ge Tryz.func104 HU Tryz.ntmps104 HU ?_
  refine qs 2 ?_
  refine Ga (GJ HU HU (fun b3 => ?_))
  refine qs 6 ?_
  refine Ga (Hh HU HU HU (fun c8 => ?_) (fun c8 => ?_))
  ·refine qs 4 ?_
   refine Gh HU HU (Gv HU HU (fun hl13 => ?_) (enc := eTy) (lst := T) (hm := memA))
   refine Gh HU HU (GB HU HU HU (fun c14 => ?_) (fun c14 => ?_))
   ·refine qs 5 ?_
    have hlt : i.toNat < T.length := by omega
    have hkt : kindAt T i = T[i.toNat].kind := kind_get HW hlt
    refine Gh HU HU (Gj (k := i.toNat) HU HU HU HW (enc := eTy) (lst := T) memA hlt (fun _ _ => ?_))
    refine Gh HU HU (HE HU HU (fun _ => ?_))
    refine Gh HU HU (GE HU HU ?_)
    intros
    refine qs 1 ?_
    refine Gh HU HU (GC HU HU HU (fun c24 => ?_) (fun c24 => ?_))
    ·refine qs 5 ?_
     exact Gb (L' := L) (F' := F) Tryz.results104 rfl subA (hT ⟨by omega, by omega, hkt.trans c24⟩)
    refine qs 5 ?_
    exact Gb (L' := L) (F' := F) Tryz.results104 rfl subA (hF (fun e => c24 (hkt.symm.trans e.2.2)))
   refine qs 15 ?_
   exact Gb (L' := L) (F' := F) Tryz.results104 rfl subA (hF (fun e => absurd e.2.1 HW))
  refine qs 21 ?_
  exact Gb (L' := L) (F' := F) Tryz.results104 rfl subA (hF (fun e => absurd e.1 HW))
theorem fewU_c (T : List Ty) (i most : Int) {a : Option Addr} {k c : Nat} (mL : fI (asksL T) a k c ∈ F) (hT : fewA T i most → R (.bool true) L F) (hF : ¬ fewA T i most → R (.bool false) L F) : ACalls Tryz.prog W0 105 #[.slice a k c, .int .i64 i, .int .i64 most] L F R := by
  have hfl := asks_full T
  refine Ge Tryz.func105 HU Tryz.ntmps105 HU ?_
  refine qs 8 ?_
  refine Ga (Hh HU HU HU (fun c8 => ?_) (fun c8 => ?_))
  ·refine qs 3 ?_
   refine Gh HU HU (Gv HU HU (fun hl12 => ?_) (enc := eI) (lst := asksL T) (hm := memA))
   refine Gh HU HU (GB HU HU HU (fun c13 => ?_) (fun c13 => ?_))
   ·refine qs 4 ?_
    have hlt : i.toNat < (asksL T).length := by omega
    have hg : askAt T i.toNat = (asksL T)[i.toNat] := Gt 0 hlt
    refine Gh HU HU (Gj (k := i.toNat) HU HU HU HW (enc := eI) (lst := asksL T) memA hlt (fun _ _ => ?_))
    refine Gh HU HU (GE HU HU ?_)
    intros
    refine qs 1 ?_
    refine Gh HU HU (AO.leq HU HU HU (fun c21 => ?_) (fun c21 => ?_))
    ·refine qs 5 ?_
     exact Gb (L' := L) (F' := F) Tryz.results105 rfl subA (hT ⟨by omega, by omega, by rw [hg]; omega⟩)
    refine qs 5 ?_
    exact Gb (L' := L) (F' := F) Tryz.results105 rfl subA (hF (fun e => absurd e.2.2 (by rw [hg]; omega)))
   refine qs 13 ?_
   exact Gb (L' := L) (F' := F) Tryz.results105 rfl subA (hF (fun e => absurd e.2.1 HW))
  refine qs 18 ?_
  exact Gb (L' := L) (F' := F) Tryz.results105 rfl subA (hF (fun e => absurd e.1 HW))
theorem bounds1_c (T : List Ty) (n : Nmd) (s : Int) {a a2 a3 a4 a5 : Option Addr} {k c k2 c2 k3 c3 k4 c4 k5 c5 b1 b2 b3 i1 i2 i3 : Nat} {e1 e2 e3 : TypeId} (mL : fL T a k c ∈ F) (mA : fI (asksL T) a3 k3 c3 ∈ F) (mB : fBd n a4 k4 c4 ∈ F) (h1 : L[i1]? = some (Res.cells b1 #[.slice a k c, .slice a2 k2 c2] e1)) (h2 : L[i2]? = some (Res.cells b2 #[.slice a3 k3 c3] e2)) (h3 : L[i3]? = some (Res.cells b3 #[S n.name, .slice a4 k4 c4, .int .i64 n.under, .slice a5 k5 c5] e3))
    (hT : ¬ (isK T s 7 ∧ fewA T s n.bounds.length) → R (.bool true) L F) (hF : ¬ ¬ (isK T s 7 ∧ fewA T s n.bounds.length) → R (.bool false) L F) : ACalls Tryz.prog W0 103 #[.int .i64 s, .pointer (some ⟨b1, 0, none⟩), .pointer (some ⟨b2, 0, none⟩), .pointer (some ⟨b3, 0, none⟩)] L F R := by
  refine Ge Tryz.func103 HU Tryz.ntmps103 HU ?_
  refine qs 7 ?_
  refine Ga (AO.loadBA (cs := [.slice a k c, .slice a2 k2 c2]) HU HU ?_ (hi := h1))
  refine qs 1 ?_
  refine Ga (Gd HU HU (is_c T s 7 mL (fun c8 => ?_) (fun c8 => ?_)))
  ·refine qs 2 ?_
   refine Gh HU HU (Gw (cs := [.slice a3 k3 c3]) HU HU ?_ (hi := h2) (hv := HU))
   refine qs 2 ?_
   refine Gh HU HU (Gw (cs := [S n.name, .slice a4 k4 c4, .int .i64 n.under, .slice a5 k5 c5]) HU HU ?_ (hi := h3) (hv := HU))
   refine Gh HU HU (Gv HU HU (fun hl15 => ?_) (enc := eI) (lst := n.bounds) (hm := mB))
   refine Gh HU HU (Gd HU HU (fewU_c T s n.bounds.length mA (fun c16 => ?_) (fun c16 => ?_)))
   ·refine qs 6 ?_
    exact Gb (L' := L) (F' := F) Tryz.results103 rfl subF (hF (fun e => e ⟨c8, c16⟩))
   refine qs 6 ?_
   exact Gb (L' := L) (F' := F) Tryz.results103 rfl subF (hT (fun e => c16 e.2))
  refine qs 14 ?_
  exact Gb (L' := L) (F' := F) Tryz.results103 rfl subF (hT (fun e => c8 e.1))
theorem bounds_c (T : List Ty) (n : Nmd) {a a2 a3 a4 a5 : Option Addr} {k c k2 c2 k3 c3 k4 c4 k5 c5 : Nat} (mL : fL T a k c ∈ F) (mA : fI (asksL T) a3 k3 c3 ∈ F) (mB : fBd n a4 k4 c4 ∈ F)
    (hT : boundsP T n → R (.bool true) L F) (hF : ¬ boundsP T n → R (.bool false) L F) : ACalls Tryz.prog W0 44 #[.agg #[.slice a k c, .slice a2 k2 c2], .slice a3 k3 c3, vNm n a4 k4 c4 a5 k5 c5] L F R := by
  refine Ge Tryz.func44 HU Tryz.ntmps44 HU ?_
  refine qs 2 ?_
  refine Ga (GJ HU HU (fun b3 => (Ga (GJ HU HU (fun b4 => (Ga (GJ HU HU (fun b5 => ?_))))))))
  refine qs 5 ?_
  refine Ga (Hq HU HU ?_)
  refine qs 7 ?_
  refine Ga (Gv HU HU (fun hl11 => ?_) (enc := eI) (lst := n.bounds) (hm := mB))
  refine Ga (AO.leq HU HU HU (fun c12 => ?_) (fun c12 => ?_))
  ·refine qs 4 ?_
   refine Gh HU HU (Gd HU HU (containsFuncI_c n.bounds mB _ [.pointer (some ⟨b3, 0, none⟩), .pointer (some ⟨b4, 0, none⟩), .pointer (some ⟨b5, 0, none⟩)] (fun s => ¬ (isK T s 7 ∧ fewA T s n.bounds.length)) (fun s F' hF' R hT hF => bounds1_c T n s (i1 := 2) (i2 := 1) (i3 := 0) (hF' _ mL) (hF' _ mA) (hF' _ mB) HU HU HU hT hF) (fun c17 => ?_) (fun c17 => ?_)))
   ·refine qs 6 ?_
    exact Gb (L' := L) (F' := F) Tryz.results44 rfl subA (hF (fun e => c17 (fun j hj hn => hn (e.2 _ (List.getElem_mem hj)))))
   refine qs 6 ?_
   refine Gb (L' := L) (F' := F) Tryz.results44 HU subA (hT ⟨by omega, fun b hb => ?_⟩)
   obtain ⟨j, hj, rfl⟩ := List.getElem_of_mem hb
   exact Classical.byContradiction (c17 j hj)
  refine qs 11 ?_
  exact Gb (L' := L) (F' := F) Tryz.results44 rfl subA (hF (fun e => absurd e.1 HW))
theorem under_c (T : List Ty) (n : Nmd) {a a2 a3 a4 a5 : Option Addr} {k c k2 c2 k3 c3 k4 c4 k5 c5 : Nat} (mL : fL T a k c ∈ F) (mA : fI (asksL T) a3 k3 c3 ∈ F) (mB : fBd n a4 k4 c4 ∈ F)
    (hT : underP T n → R (.bool true) L F) (hF : ¬ underP T n → R (.bool false) L F) : ACalls Tryz.prog W0 45 #[.agg #[.slice a k c, .slice a2 k2 c2], .slice a3 k3 c3, vNm n a4 k4 c4 a5 k5 c5] L F R := by
  refine Ge Tryz.func45 HU Tryz.ntmps45 HU ?_
  refine qs 2 ?_
  refine Ga (GJ HU HU (fun b3 => (Ga (GJ HU HU (fun b5 => ?_)))))
  refine qs 7 ?_
  refine Ga (Hh HU HU HU (fun c10 => ?_) (fun c10 => ?_))
  ·refine qs 3 ?_
   refine Gh HU HU (AO.leq HU HU HU (fun c14 => ?_) (fun c14 => ?_))
   ·refine qs 11 ?_
    refine Ga (Gv HU HU (fun hl21 => ?_) (enc := eI) (lst := n.bounds) (hm := mB))
    refine Ga (Gd HU HU (fewU_c T n.under n.bounds.length mA (fun c22 => ?_) (fun c22 => ?_)))
    ·refine qs 4 ?_
     refine Gh HU HU (Gd HU HU (is_c T n.under 8 mL (fun c27 => ?_) (fun c27 => ?_)))
     ·refine qs 17 ?_
      exact Gb (L' := L) (F' := F) Tryz.results45 rfl subA (hF (fun e => e.2.1 c27))
     refine qs 6 ?_
     refine Gh HU HU (Gd HU HU (is_c T n.under 9 mL (fun c34 => ?_) (fun c34 => ?_)))
     ·refine qs 10 ?_
      exact Gb (L' := L) (F' := F) Tryz.results45 rfl subA (hF (fun e => e.2.2.1 c34))
     refine qs 10 ?_
     exact Gb (L' := L) (F' := F) Tryz.results45 rfl subA (hF (fun e => e.2.2.2 ⟨by omega, by omega⟩))
    refine qs 22 ?_
    exact Gb (L' := L) (F' := F) Tryz.results45 rfl subA (hF (fun e => c22 e.1))
   refine qs 11 ?_
   refine Ga (Gv HU HU (fun hl21 => ?_) (enc := eI) (lst := n.bounds) (hm := mB))
   refine Ga (Gd HU HU (fewU_c T n.under n.bounds.length mA (fun c22 => ?_) (fun c22 => ?_)))
   ·refine qs 4 ?_
    refine Gh HU HU (Gd HU HU (is_c T n.under 8 mL (fun c27 => ?_) (fun c27 => ?_)))
    ·refine qs 17 ?_
     exact Gb (L' := L) (F' := F) Tryz.results45 rfl subA (hF (fun e => e.2.1 c27))
    refine qs 6 ?_
    refine Gh HU HU (Gd HU HU (is_c T n.under 9 mL (fun c34 => ?_) (fun c34 => ?_)))
    ·refine qs 10 ?_
     exact Gb (L' := L) (F' := F) Tryz.results45 rfl subA (hF (fun e => e.2.2.1 c34))
    refine qs 10 ?_
    exact Gb (L' := L) (F' := F) Tryz.results45 rfl subA (hT ⟨c22, c27, c34, by omega⟩)
   refine qs 22 ?_
   exact Gb (L' := L) (F' := F) Tryz.results45 rfl subA (hF (fun e => c22 e.1))
  refine qs 15 ?_
  refine Ga (Gv HU HU (fun hl21 => ?_) (enc := eI) (lst := n.bounds) (hm := mB))
  refine Ga (Gd HU HU (fewU_c T n.under n.bounds.length mA (fun c22 => ?_) (fun c22 => ?_)))
  ·refine qs 4 ?_
   refine Gh HU HU (Gd HU HU (is_c T n.under 8 mL (fun c27 => ?_) (fun c27 => ?_)))
   ·refine qs 17 ?_
    exact Gb (L' := L) (F' := F) Tryz.results45 rfl subA (hF (fun e => e.2.1 c27))
   refine qs 6 ?_
   refine Gh HU HU (Gd HU HU (is_c T n.under 9 mL (fun c34 => ?_) (fun c34 => ?_)))
   ·refine qs 10 ?_
    exact Gb (L' := L) (F' := F) Tryz.results45 rfl subA (hF (fun e => e.2.2.1 c34))
   refine qs 10 ?_
   exact Gb (L' := L) (F' := F) Tryz.results45 rfl subA (hT ⟨c22, c27, c34, by omega⟩)
  refine qs 22 ?_
  exact Gb (L' := L) (F' := F) Tryz.results45 rfl subA (hF (fun e => c22 e.1))
end
end Go.Sy
namespace Go.Sy
open Go Go.Proofs Go.RowKit
theorem mt_cells {hx : H} {b o : Nat} {m : Mth} (hat : AtR hx b o (eMt m)) : ∀ (j : Nat) (v : Value), [S m.name, .bool m.ptr, .int .i64 m.sig][j]? = some v → hx b (o + j) = some v := by
  obtain ⟨vs, fs, _, h1, h2, rfl, rfl⟩ := absorb_of (eMt m) o hat (fun vs fs => vs = [S m.name, .bool m.ptr, .int .i64 m.sig] ∧ fs = []) ⟨rfl, rfl⟩
  exact h1
theorem nm_cells {hx : H} {b o : Nat} {n : Nmd} (hat : AtR hx b o (eNm n)) : ∃ a1 k1 c1 a2 k2 c2, (∀ (j : Nat) (v : Value), [S n.name, .slice a1 k1 c1, .int .i64 n.under, .slice a2 k2 c2][j]? = some v → hx b (o + j) = some v) ∧ (fBd n a1 k1 c1).holds hx ∧ (fMs n.methods a2 k2 c2).holds hx := by
  obtain ⟨vs, fs, _, h1, h2, a1, k1, c1, a2, k2, c2, rfl, rfl⟩ := absorb_of (eNm n) o hat (fun vs fs => ∃ a1 k1 c1 a2 k2 c2, vs = [S n.name, .slice a1 k1 c1, .int .i64 n.under, .slice a2 k2 c2] ∧ fs = [fBd n a1 k1 c1, fMs n.methods a2 k2 c2]) (by
    intro a1 k1 c1 a2 k2 c2
    exact ⟨a1, k1, c1, a2, k2, c2, rfl, rfl⟩)
  exact ⟨a1, k1, c1, a2, k2, c2, h1, h2 _ (by simp), h2 _ (by simp)⟩
attribute [local irreducible] AC AT AO AK AH ACalls Sub Res.cells Res.obj Res.nix Res.own Res.map Exit.then Exit.inBlock bodyPost Code.wp Code.wpIn WL Next Post Kont
section
variable {W0 : World} {L : List Res} {F : List Fact} {R : Value → List Res → List Fact → Prop}
set_option maxRecDepth 100000
set_option maxHeartbeats 8000000
theorem twofold_c (g : Glob W0) (s : List UInt8) (hs : s.length < 4294967281) (hT : namedP s → R (.bool true) L F) (hF : ¬ namedP s → R (.bool false) L F) : ACalls Tryz.prog W0 43 #[S s] L F R := by
  refine Ge Tryz.func43 HU Tryz.ntmps43 HU ?_
  refine qs 8 ?_
  refine Ga (Gd HU HU (cut_c g s 46 hs ?_))
  cases c8 : (cutD 46 s).2.2
  rotate_left
  ·refine qs 14 ?_
   refine Gh HU HU (Gd HU HU (Hz _ (fun c15 => ?_) (fun c15 => ?_)))
   ·refine qs 3 ?_
    refine Gh HU HU (Gd HU HU (Hz _ (fun c19 => ?_) (fun c19 => ?_)))
    ·refine qs 5 ?_
     first | refine Gb Tryz.results43 HU (Gk _ _) (hT ?_) | refine Gb Tryz.results43 HU (Gk _ _) (hF ?_)
     first
     | exact ⟨c8, c15, c19⟩
     | exact fun e => absurd e.2.2 (by rw [c19]; decide)
     | exact fun e => absurd e.2.1 (by rw [c15]; decide)
     | exact fun e => absurd e.1 (by rw [c8]; decide)
    refine qs 5 ?_
    first | refine Gb Tryz.results43 HU (Gk _ _) (hT ?_) | refine Gb Tryz.results43 HU (Gk _ _) (hF ?_)
    first
    | exact ⟨c8, c15, c19⟩
    | exact fun e => absurd e.2.2 (by rw [c19]; decide)
    | exact fun e => absurd e.2.1 (by rw [c15]; decide)
    | exact fun e => absurd e.1 (by rw [c8]; decide)
   refine qs 9 ?_
   first | refine Gb Tryz.results43 HU (Gk _ _) (hT ?_) | refine Gb Tryz.results43 HU (Gk _ _) (hF ?_)
   first
   | exact ⟨c8, c15, c19⟩
   | exact fun e => absurd e.2.2 (by rw [c19]; decide)
   | exact fun e => absurd e.2.1 (by rw [c15]; decide)
   | exact fun e => absurd e.1 (by rw [c8]; decide)
  refine qs 24 ?_
  first | refine Gb Tryz.results43 HU (Gk _ _) (hT ?_) | refine Gb Tryz.results43 HU (Gk _ _) (hF ?_)
  first
  | exact ⟨c8, c15, c19⟩
  | exact fun e => absurd e.2.2 (by rw [c19]; decide)
  | exact fun e => absurd e.2.1 (by rw [c15]; decide)
  | exact fun e => absurd e.1 (by rw [c8]; decide)
theorem methods_c (T : List Ty) (n : Nmd) {a a2 a3 a4 a5 : Option Addr} {k c k2 c2 k3 c3 k4 c4 k5 c5 : Nat} (mL : fL T a k c ∈ F) (mA : fI (asksL T) a3 k3 c3 ∈ F) (mB : fBd n a4 k4 c4 ∈ F) (mS : fMs n.methods a5 k5 c5 ∈ F)
    (hT : methodsP T n → R (.bool true) L F) (hF : ¬ methodsP T n → R (.bool false) L F) : ACalls Tryz.prog W0 46 #[.agg #[.slice a k c, .slice a2 k2 c2], .slice a3 k3 c3, vNm n a4 k4 c4 a5 k5 c5] L F R := by
  refine Ge Tryz.func46 HU Tryz.ntmps46 HU ?_
  refine qs 2 ?_
  refine Ga (GJ HU HU (fun b3 => (Ga (GJ HU HU (fun b5 => ?_)))))
  refine qs 8 ?_
  refine Ga (Gv HU HU (fun hl12 => ?_) (enc := eMt) (lst := n.methods) (hm := mS))
  refine qs 4 ?_
  refine GN (fun (q : Nat) => q ≤ n.methods.length ∧ ∀ j (hj : j < n.methods.length), j < q → methodP T n j hj) (fun q => [(1, .slice a3 k3 c3), (3, .pointer (some ⟨b3, 0, none⟩)), (5, .pointer (some ⟨b5, 0, none⟩)), (11, .slice a5 k5 c5), (12, .int .i64 n.methods.length), (13, .int .i64 (q : Int))]) (fun _ => _) (fun _ => _) (fun q => n.methods.length - q) 0 ⟨Nat.zero_le _, by omega⟩ srA (Gk _ _) ?_
  rintro q ⟨hq, hok⟩
  refine qs 2 ?_
  refine Ga (GB HU HU HU (fun c14 => ?_) (fun c14 => ?_))
  ·refine qs 11 ?_
   have hql : q < n.methods.length := by omega
   refine Ga (Gj HU HU HU HU (enc := eMt) (lst := n.methods) memA hql (fun _ _ => ?_))
   refine Ga (GU HU HU ?_)
   refine Ga (Gq HU (fun b8 => ?_))
   refine qs 5 ?_
   refine GO (fun _ => false) [(b8, _, _), (b3, _, _), (b5, _, _)] bxA HU (fun hx hX => ?_)
   have hk4 := (Gy (hX (fBd n a4 k4 c4) memA)).1
   have hk5 := (Gy (hX (fMs n.methods a5 k5 c5) memA)).1
   obtain ⟨p1, o1, e1, at1⟩ := GG (hX (fMs n.methods a5 k5 c5) memA) hql
   cases e1
   cases hk4
   cases hk5
   refine qt [0, 1] ?_
   refine Gf (i := 2) HV HU HU (fun _ => ?_)
   refine Gd HU HU (Hz _ (fun c20 => ?_) (fun c20 => ?_))
   ·refine Gc bxA memB ?_
    refine qt [3, 4, 5, 6, 7] ?_
    refine Gf (i := 8) HV HU HU (fun _ => ?_)
    refine Gd HU HU (is_c T n.methods[q].sig 5 memA (fun c26 => ?_) (fun c26 => ?_))
    all_goals refine Gc bxA memB ?_
    ·refine qt [9, 10, 11, 12, 13, 14, 15, 16, 17] ?_
     refine Gf (i := 18) HV HU HU (fun _ => ?_)
     refine Gd HU HU (fewU_c T n.methods[q].sig n.bounds.length memA (fun c36 => ?_) (fun c36 => ?_))
     all_goals refine Gc bxA memB ?_
     ·refine qt [19, 20, 21, 22] ?_
      refine He (i := 23) HU (Y.gtr HU HU) HV HU HU (fun c41 => ?_) (fun c41 => ?_)
      ·replace c41 := of_decide_eq_true c41
       refine qt [24, 25, 26, 27, 28] ?_
       obtain ⟨p2, o2, e2, at2⟩ := GG (i := q - 1) (hX (fMs n.methods (some ⟨p1, o1, none⟩) _ c5) memA) HW
       cases e2
       have hv2 := mt_cells at2 0 _ rfl
       refine GF (i := 29) HU (GM (k := q - 1) HU HU HW HW) HV HU HU ?_
       refine qt [30] ?_
       refine GV (i := 31) HU (Y.loadF HU hv2) HV HV HU HU HU ?_
       refine qt [32, 33] ?_
       refine He (i := 34) HU (Y.geqS HU HU) HV HU HU (fun c52 => ?_) (fun c52 => ?_)
       ·refine qt [35, 36] ?_
        refine Gm HV ?_
        refine qs 13 ?_
        exact Gb (L' := L) (F' := F) Tryz.results46 rfl subA (hF (fun e => by have h9 := (e.2.1 q hql).2.2.2 HW; rw [Gt default HW] at h9; simp [h9] at c52))
       refine qt [35, 36] ?_
       refine Gm HV ?_
       refine qs 9 ?_
       refine Gl (q + 1) ⟨by omega, fun j hj hjq => ?_⟩ HW srA (Sub.drop.trans subF)
       rcases Nat.lt_succ_iff_lt_or_eq.1 hjq with k9 | rfl
       · exact hok j hj k9
       exact ⟨c20, c26, c36, fun _ => by rw [Gt default HW]; simpa using c52⟩
      replace c41 := of_decide_eq_false c41
      refine qt [24, 25, 26, 27, 28, 29, 30, 31, 32, 33, 34, 35, 36] ?_
      refine Gm HV ?_
      refine qs 9 ?_
      refine Gl (q + 1) ⟨by omega, fun j hj hjq => ?_⟩ HW srA (Sub.drop.trans subF)
      rcases Nat.lt_succ_iff_lt_or_eq.1 hjq with k9 | rfl
      · exact hok j hj k9
      exact ⟨c20, c26, c36, fun h0 => absurd h0 HW⟩
     refine qt [19, 20, 21, 22, 23, 24, 25, 26, 27, 28, 29, 30, 31, 32, 33, 34, 35, 36] ?_
     refine Gm HV ?_
     refine qs 13 ?_
     exact Gb (L' := L) (F' := F) Tryz.results46 rfl subA (hF (fun e => c36 (e.2.1 q hql).2.2.1))
    refine qt [9, 10, 11, 12, 13, 14, 15, 16, 17, 18, 19, 20, 21, 22, 23, 24, 25, 26, 27, 28, 29, 30, 31, 32, 33, 34, 35, 36] ?_
    refine Gm HV ?_
    refine qs 13 ?_
    exact Gb (L' := L) (F' := F) Tryz.results46 rfl subA (hF (fun e => c26 (e.2.1 q hql).2.1))
   refine Gc bxA memB ?_
   refine qt [3, 4, 5, 6, 7, 8, 9, 10, 11, 12, 13, 14, 15, 16, 17, 18, 19, 20, 21, 22, 23, 24, 25, 26, 27, 28, 29, 30, 31, 32, 33, 34, 35, 36] ?_
   refine Gm HV ?_
   refine qs 13 ?_
   exact Gb (L' := L) (F' := F) Tryz.results46 rfl subA (hF (fun e => absurd (e.2.1 q hql).1 (by rw [c20]; decide)))
  refine qs 14 ?_
  refine Ga (Gd HU HU (is_c T n.under 7 memA (fun c59 => ?_) (fun c59 => ?_)))
  ·refine qs 13 ?_
   refine Ga (Gv HU HU (fun hl68 => ?_) (enc := eMt) (lst := n.methods) (hm := memA))
   refine Ga (AO.leq HU HU HU (fun c69 => ?_) (fun c69 => ?_))
   ·refine qs 5 ?_
    refine Gh HU HU (Gv HU HU (fun hl75 => ?_) (enc := eMt) (lst := n.methods) (hm := memA))
    refine Gh HU HU (AO.gtr HU HU HU (fun c76 => ?_) (fun c76 => ?_))
    ·refine qs 7 ?_
     exact Gb (L' := L) (F' := F) Tryz.results46 rfl subA (hF (fun e => (e.2.2 (List.length_pos_iff.1 HW)).1 c59))
    refine qs 7 ?_
    exact Gb (L' := L) (F' := F) Tryz.results46 rfl subA (hT ⟨by omega, fun i hi => hok i hi HW, fun h0 => absurd (List.length_pos_iff.2 h0) HW⟩)
   refine qs 14 ?_
   exact Gb (L' := L) (F' := F) Tryz.results46 rfl subA (hF (fun e => absurd e.1 HW))
  refine qs 4 ?_
  refine Gh HU HU (Gd HU HU (is_c T n.under 1 memA (fun c64 => ?_) (fun c64 => ?_)))
  ·refine qs 8 ?_
   refine Ga (Gv HU HU (fun hl68 => ?_) (enc := eMt) (lst := n.methods) (hm := memA))
   refine Ga (AO.leq HU HU HU (fun c69 => ?_) (fun c69 => ?_))
   ·refine qs 5 ?_
    refine Gh HU HU (Gv HU HU (fun hl75 => ?_) (enc := eMt) (lst := n.methods) (hm := memA))
    refine Gh HU HU (AO.gtr HU HU HU (fun c76 => ?_) (fun c76 => ?_))
    ·refine qs 7 ?_
     exact Gb (L' := L) (F' := F) Tryz.results46 rfl subA (hF (fun e => (e.2.2 (List.length_pos_iff.1 HW)).2 c64))
    refine qs 7 ?_
    exact Gb (L' := L) (F' := F) Tryz.results46 rfl subA (hT ⟨by omega, fun i hi => hok i hi HW, fun h0 => absurd (List.length_pos_iff.2 h0) HW⟩)
   refine qs 14 ?_
   exact Gb (L' := L) (F' := F) Tryz.results46 rfl subA (hF (fun e => absurd e.1 HW))
  refine qs 8 ?_
  refine Ga (Gv HU HU (fun hl68 => ?_) (enc := eMt) (lst := n.methods) (hm := memA))
  refine Ga (AO.leq HU HU HU (fun c69 => ?_) (fun c69 => ?_))
  ·refine qs 14 ?_
   exact Gb (L' := L) (F' := F) Tryz.results46 rfl subA (hT ⟨by omega, fun i hi => hok i hi HW, fun _ => ⟨c59, c64⟩⟩)
  refine qs 14 ?_
  exact Gb (L' := L) (F' := F) Tryz.results46 rfl subA (hF (fun e => absurd e.1 HW))
theorem at1_c (n : Nmd) (s : List UInt8) {b j : Nat} {e : TypeId} {a1 a2 : Option Addr} {k1 c1 k2 c2 : Nat} (hj : L[j]? = some (Res.cells b #[S s] e)) (hT : n.name = s → R (.bool true) L F) (hF : n.name ≠ s → R (.bool false) L F) : ACalls Tryz.prog W0 113 #[vNm n a1 k1 c1 a2 k2 c2, .pointer (some ⟨b, 0, none⟩)] L F R := by
  refine Ge Tryz.func113 HU Tryz.ntmps113 HU ?_
  refine qs 2 ?_
  refine Ga (GJ HU HU (fun b2 => ?_))
  refine qs 7 ?_
  refine Ga (Gw (cs := [S s]) HU HU ?_ (i := j + 1) (hi := hj) (hv := HU))
  refine Ga (Hu HU HU HU (fun c7 => ?_) (fun c7 => ?_))
  ·refine qs 4 ?_
   first | exact Gb (L' := L) (F' := F) Tryz.results113 rfl Gn (hT c7) | exact Gb (L' := L) (F' := F) Tryz.results113 rfl Gn (hF c7)
  refine qs 4 ?_
  first | exact Gb (L' := L) (F' := F) Tryz.results113 rfl Gn (hT c7) | exact Gb (L' := L) (F' := F) Tryz.results113 rfl Gn (hF c7)
theorem indexN_c (N : List Nmd) (s : List UInt8) {a : Option Addr} {k c : Nat} (m1 : fN N a k c ∈ F) {b j : Nat} {e : TypeId} (hj : L[j]? = some (Res.cells b #[S s] e))
    (hT : ∀ q : Nat, atN N s = some q → R (.int .i64 (q : Int)) L F) (hF : atN N s = none → R (.int .i64 (-1)) L F) : ACalls Tryz.prog W0 112 #[.slice a k c, .func (.func 113) #[] #[.pointer (some ⟨b, 0, none⟩)]] L F R := by
  refine Ge Tryz.func112 HU Tryz.ntmps112 HU ?_
  refine qs 9 ?_
  refine Ga (Gv HU HU (fun hl7 => ?_) (enc := eNm) (lst := N) (hm := m1))
  refine qs 4 ?_
  refine AC.loopC (fun (q : Nat) => q ≤ N.length ∧ ∀ j (hj : j < N.length), j < q → N[j].name ≠ s) (fun q => [(0, .slice a k c), (1, .func (.func 113) #[] #[.pointer (some ⟨b, 0, none⟩)]), (7, .int .i64 N.length), (8, .int .i64 (q : Int))]) (fun q => N.length - q) 0 ⟨by omega, by omega⟩ srA ?_
  rintro q ⟨hq, hok⟩
  refine qs 2 ?_
  refine Ga (GB HU HU HU (fun c9 => ?_) (fun c9 => ?_))
  ·refine qs 19 ?_
   have hql : q < N.length := by omega
   refine Ga (Gj HU HU HU HU (enc := eNm) (lst := N) memA hql (fun _ _ => ?_))
   refine Ga (GU HU HU ?_)
   intro a15 k15 z15 d15 e15 f15
   refine Ga (AO.callC (cs := [.pointer (some ⟨b, 0, none⟩)]) HU HU HU (at1_c N[q] s hj (fun c16 => ?_) (fun c16 => ?_)))
   ·refine qs 15 ?_
    first | exact Gb (L' := L) (F' := F) Tryz.results112 rfl subF (hT q (atN_first hql c16 hok)) | exact Gb (L' := L) (F' := F) Tryz.results112 rfl subF (hF (atN_no (fun j hj => hok j hj HW)))
   refine qs 10 ?_
   refine Gl (q + 1) ⟨by omega, fun j hj hjq => ?_⟩ HW srA subF
   rcases Nat.lt_succ_iff_lt_or_eq.1 hjq with k9 | rfl
   · exact hok j hj k9
   exact c16
  refine qs 15 ?_
  first | exact Gb (L' := L) (F' := F) Tryz.results112 rfl subF (hT q (atN_first hql c16 hok)) | exact Gb (L' := L) (F' := F) Tryz.results112 rfl subF (hF (atN_no (fun j hj => hok j hj HW)))
theorem at_c (N : List Nmd) (s : List UInt8) {a a2 : Option Addr} {k c k2 c2 : Nat} (m2 : fN N a2 k2 c2 ∈ F)
    (hT : ∀ q : Nat, atN N s = some q → R (.tuple #[.int .i64 (q : Int), .bool true]) L F) (hF : atN N s = none → R (.tuple #[.int .i64 (-1), .bool false]) L F) : ACalls Tryz.prog W0 54 #[.agg #[.slice a k c, .slice a2 k2 c2], S s] L F R := by
  refine Ge Tryz.func54 HU Tryz.ntmps54 HU ?_
  refine qs 2 ?_
  refine Ga (GJ HU HU (fun b2 => (Ga (GJ HU HU (fun b3 => ?_)))))
  refine qs 8 ?_
  refine Ga (Hq HU HU ?_)
  refine Ga (Gd HU HU (indexN_c N s m2 (j := 0) HU (fun q c10 => ?_) (fun c10 => ?_)))
  ·refine qs 7 ?_
   refine Ga (Hh HU HU HU (fun c13 => ?_) (fun c13 => absurd c13 HW))
   refine qs 5 ?_
   first | exact Hg (L' := L) (F' := F) Tryz.results54 rfl rfl subA (hT q c10) | exact Hg (L' := L) (F' := F) Tryz.results54 rfl rfl subA (hF c10)
  refine qs 7 ?_
  refine Ga (Hh HU HU HU (fun c13 => absurd c13 HW) (fun c13 => ?_))
  refine qs 5 ?_
  first | exact Hg (L' := L) (F' := F) Tryz.results54 rfl rfl subA (hT q c10) | exact Hg (L' := L) (F' := F) Tryz.results54 rfl rfl subA (hF c10)
theorem fits_c (N : List Nmd) (t : Ty) {a a2 a3 a4 : Option Addr} {k c k2 c2 k3 c3 k4 c4 : Nat} (m2 : fN N a2 k2 c2 ∈ F) (m4 : fK t a4 k4 c4 ∈ F)
    (hT : fitsU N t → R (.bool true) L F) (hF : ¬ fitsU N t → R (.bool false) L F) : ACalls Tryz.prog W0 49 #[.agg #[.slice a k c, .slice a2 k2 c2], vTy t a3 k3 c3 a4 k4 c4] L F R := by
  refine Ge Tryz.func49 HU Tryz.ntmps49 HU ?_
  refine qs 2 ?_
  refine Ga (GJ HU HU (fun b2 => (Ga (GJ HU HU (fun b3 => ?_)))))
  refine qs 8 ?_
  refine Ga (GK HU HU HU (fun c9 => ?_) (fun c9 => ?_))
  ·refine qs 10 ?_
   exact Gb (L' := L) (F' := F) Tryz.results49 rfl subA (hT (fun e => absurd e c9))
  refine qs 10 ?_
  refine Ga (Gd HU HU (at_c N t.name m2 (fun q c14 => ?_) (fun c14 => ?_)))
  ·refine qs 8 ?_
   refine GO (fun _ => false) [(b2, _, _), (b3, _, _)] bxA HU (fun hx hX => ?_)
   obtain ⟨hql, _⟩ := atN_some c14
   have hk2 := (Gy (hX (fN N a2 k2 c2) memA)).1
   have hk4 := (Gy (hX (fK t a4 k4 c4) memA)).1
   obtain ⟨p1, o1, e1, at1⟩ := GG (hX (fN N a2 k2 c2) memA) hql
   cases e1
   obtain ⟨w1, x1, y1, w2, x2, y2, hv, hw1, hw2⟩ := nm_cells at1
   have hk1 := (Gy hw1).1
   have hv1 := hv 1 _ rfl
   cases hk2
   cases hk4
   cases hk1
   refine qt [0, 1, 2, 3, 4] ?_
   refine GF (i := 5) HU (GM (k := q) HU HU HW HW) HV HU HU ?_
   refine qt [6] ?_
   refine GV (i := 7) HU (Y.loadF HU hv1) HV HV HU HU HU ?_
   refine qt [8, 9, 10, 11] ?_
   refine He (i := 12) HU (Y.eql HU HU) HV HU HU (fun c29 => ?_) (fun c29 => ?_)
   ·replace c29 := eq_of_beq c29
    refine qt [13, 14] ?_
    refine Gm HV ?_
    refine qs 2 ?_
    exact Gb (L' := L) (F' := F) Tryz.results49 rfl subA (hT (fun _ => ⟨q, c14, by rw [Gt default hql]; omega⟩))
   replace c29 := ne_of_beqF c29
   refine qt [13, 14] ?_
   refine Gm HV ?_
   refine qs 2 ?_
   exact Gb (L' := L) (F' := F) Tryz.results49 rfl subA (hF (fun e => by obtain ⟨i, hi, h9⟩ := e ‹_›; rw [c14] at hi; injection hi with hi; subst hi; rw [Gt default hql] at h9; exact c29 HW))
  refine qs 8 ?_
  refine GO (fun _ => false) [(b2, _, _), (b3, _, _)] bxA HU (fun hx hX => ?_)
  refine qt [0, 1, 2, 3, 4, 5, 6, 7, 8, 9, 10, 11, 12, 13, 14] ?_
  refine Gm HV ?_
  refine qs 2 ?_
  exact Gb (L' := L) (F' := F) Tryz.results49 rfl subA (hF (fun e => by obtain ⟨i, hi, _⟩ := e c9; rw [c14] at hi; exact absurd hi (by simp)))
end
end Go.Sy
namespace Go.Sy
open Go Go.Proofs Go.RowKit
structure NmOk (n : Nmd) : Prop where
  name : n.name.length ≤ 1048576
  meth : ∀ m ∈ n.methods, m.name.length ≤ 1048576
attribute [local irreducible] AC AT AO AK AH ACalls Sub Res.cells Res.obj Res.nix Res.own Res.map Exit.then Exit.inBlock bodyPost Code.wp Code.wpIn WL Next Post Kont
section
variable {W0 : World} {L : List Res} {F : List Fact} {R : Value → List Res → List Fact → Prop}
set_option maxRecDepth 100000
set_option maxHeartbeats 16000000
theorem containsFuncT_c (l : List Ty) (hok0 : ∀ t ∈ l, TyOk t) {a : Option Addr} {k c : Nat} (m1 : fL l a k c ∈ F) (g : FuncId) [FnT Tryz.prog g] (cs : List Value) (p : Ty → Prop) (hg : TellsT W0 L F g cs p)
    (hT : (¬ ∀ j (hj : j < l.length), ¬ p l[j]) → R (.bool true) L F) (hF : (∀ j (hj : j < l.length), ¬ p l[j]) → R (.bool false) L F) : ACalls Tryz.prog W0 47 #[.slice a k c, .func (.func g) #[] cs.toArray] L F R := by
  refine Ge Tryz.func47 HU Tryz.ntmps47 HU ?_
  refine qs 9 ?_
  refine Ga (Gd HU HU (indexFuncT_c l hok0 m1 g cs p hg (fun j7 hj7 c7 => ?_) (fun c7 => ?_)))
  ·refine Ga (Hh HU HU HU (fun c8 => ?_) (fun c8 => absurd c8 HW))
   refine qs 4 ?_
   first | exact Gb (L' := L) (F' := F) Tryz.results47 rfl subF (hT (fun e => e j7 hj7 c7)) | exact Gb (L' := L) (F' := F) Tryz.results47 rfl subF (hF c7)
  refine Ga (Hh HU HU HU (fun c8 => absurd c8 HW) (fun c8 => ?_))
  refine qs 4 ?_
  first | exact Gb (L' := L) (F' := F) Tryz.results47 rfl subF (hT (fun e => e j7 hj7 c7)) | exact Gb (L' := L) (F' := F) Tryz.results47 rfl subF (hF c7)
theorem uright1_c (N : List Nmd) (t : Ty) {b j : Nat} {e : TypeId} {a a2 a3 a4 : Option Addr} {k c k2 c2 k3 c3 k4 c4 : Nat} (m2 : fN N a2 k2 c2 ∈ F) (m4 : fK t a4 k4 c4 ∈ F) (hj : L[j]? = some (Res.cells b #[.slice a k c, .slice a2 k2 c2] e))
    (hT : ¬ fitsU N t → R (.bool true) L F) (hF : ¬ ¬ fitsU N t → R (.bool false) L F) : ACalls Tryz.prog W0 48 #[vTy t a3 k3 c3 a4 k4 c4, .pointer (some ⟨b, 0, none⟩)] L F R := by
  refine Ge Tryz.func48 HU Tryz.ntmps48 HU ?_
  refine qs 2 ?_
  refine Ga (GJ HU HU (fun b2 => ?_))
  refine qs 5 ?_
  refine Ga (AO.loadBA (cs := [.slice a k c, .slice a2 k2 c2]) HU HU ?_ (i := j + 1) (hi := hj))
  refine qs 1 ?_
  refine Ga (Gd HU HU (fits_c N t memA memA (fun c6 => ?_) (fun c6 => ?_)))
  ·refine qs 5 ?_
   first | exact Gb (L' := L) (F' := F) Tryz.results48 rfl subA (hF (fun e => e c6)) | exact Gb (L' := L) (F' := F) Tryz.results48 rfl subA (hT c6)
  refine qs 5 ?_
  first | exact Gb (L' := L) (F' := F) Tryz.results48 rfl subA (hF (fun e => e c6)) | exact Gb (L' := L) (F' := F) Tryz.results48 rfl subA (hT c6)
theorem uright_c (g : Glob W0) (T : List Ty) (N : List Nmd) (hok : ∀ t ∈ T, TyOk t) (hno : ∀ n ∈ N, NmOk n) {a a2 : Option Addr} {k c k2 c2 : Nat} (mL : fL T a k c ∈ F) (mN : fN N a2 k2 c2 ∈ F)
    (hT : rightU T N → R (.bool true) L F) (hF : ¬ rightU T N → R (.bool false) L F) : ACalls Tryz.prog W0 10 #[.agg #[.slice a k c, .slice a2 k2 c2]] L F R := by
  refine Ge Tryz.func10 HU Tryz.ntmps10 HU ?_
  refine qs 2 ?_
  refine Ga (GJ HU HU (fun b1 => ?_))
  refine qs 8 ?_
  refine Ga (Gd HU HU (right_c g T hok mL (fun c8 => ?_) (fun c8 => ?_)))
  ·refine qs 4 ?_
   refine Gh HU HU (Gv HU HU (fun hl13 => ?_) (enc := eNm) (lst := N) (hm := mN))
   refine Gh HU HU (AO.gtr HU HU HU (fun c14 => ?_) (fun c14 => ?_))
   ·refine qs 11 ?_
    exact Gb (L' := L) (F' := F) Tryz.results10 rfl subA (hF (fun e => absurd e.2.1 HW))
   refine qs 10 ?_
   refine Ga (Gd HU HU (uasks_c T c8 mL (fun a18 k18 z18 => ?_)))
   refine qs 8 ?_
   refine Ga (Gv HU HU (fun hl21 => ?_) (enc := eNm) (lst := N) (hm := memA))
   refine qs 4 ?_
   refine GN (fun (q : Nat) => q ≤ N.length ∧ ∀ j (hj : j < N.length), j < q → nameAt T N j hj) (fun q => [(1, .pointer (some ⟨b1, 0, none⟩)), (3, .slice a18 k18 z18), (20, .slice a2 k2 c2), (21, .int .i64 N.length), (22, .int .i64 (q : Int))]) (fun _ => _) (fun _ => _) (fun q => N.length - q) 0 ⟨Nat.zero_le _, by omega⟩ srA (Gk _ _) ?_
   rintro q ⟨hq, hin⟩
   refine qs 2 ?_
   refine Ga (GB HU HU HU (fun c23 => ?_) (fun c23 => ?_))
   ·refine qs 11 ?_
    have hql : q < N.length := by omega
    refine Ga (Gj HU HU HU HU (enc := eNm) (lst := N) memA hql (fun _ _ => ?_))
    refine Ga (GU HU HU ?_)
    intro a26 k26 z26 d26 e26 f26
    refine Ga (Gq HU (fun b5 => ?_))
    refine qs 5 ?_
    refine GO (fun _ => false) [(b5, _, _), (b1, _, _)] bxA HU (fun hx hX => ?_)
    have hk2 := (Gy (hX (fN N a2 k2 c2) memA)).1
    obtain ⟨p1, o1, e1, at1⟩ := GG (hX (fN N a2 k2 c2) memA) hql
    cases e1
    cases hk2
    refine qt [0, 1] ?_
    refine Gf (i := 2) HV HU HU (fun _ => ?_)
    refine Gd HU HU (twofold_c g N[q].name (by have := (hno _ (List.getElem_mem hql)).name; omega) (fun c29 => ?_) (fun c29 => ?_))
    all_goals refine Gc bxA memB ?_
    ·refine qt [3, 4, 5] ?_
     refine He (i := 6) HU (Y.gtr HU HU) HV HU HU (fun c33 => ?_) (fun c33 => ?_)
     ·replace c33 := of_decide_eq_true c33
      refine qt [7, 8, 9, 10, 11] ?_
      obtain ⟨p2, o2, e2, at2⟩ := GG (i := q - 1) (hX (fN N (some ⟨p1, o1, none⟩) _ c2) memA) HW
      cases e2
      obtain ⟨w1, x1, y1, w2, x2, y2, hv, hw1, hw2⟩ := nm_cells at2
      have hv2 := hv 0 _ rfl
      refine GF (i := 12) HU (GM (k := q - 1) HU HU HW HW) HV HU HU ?_
      refine qt [13] ?_
      refine GV (i := 14) HU (Y.loadF HU hv2) HV HV HU HU HU ?_
      refine qt [15, 16] ?_
      refine He (i := 17) HU (Y.geqS HU HU) HV HU HU (fun c44 => ?_) (fun c44 => ?_)
      ·refine qt [18, 19, 20, 21, 22, 23, 24, 25, 26, 27, 28, 29, 30, 31, 32, 33, 34, 35, 36, 37, 38, 39, 40] ?_
       refine Gm HV ?_
       refine qs 13 ?_
       exact Gb (L' := L) (F' := F) Tryz.results10 rfl subA (hF (fun e => by have h9 := (e.2.2.1 q hql).2 HW; rw [Gt default HW] at h9; simp [h9] at c44))
      refine qt [18, 19, 20, 21, 22, 23] ?_
      refine Gf (i := 24) HV HU HU (fun _ => ?_)
      refine Gd HU HU (bounds_c T N[q] (show fL T a k c ∈ _ from memA) (show fI (asksL T) _ _ _ ∈ _ from memA) (show fBd N[q] _ _ _ ∈ _ from memA) (fun c51 => ?_) (fun c51 => ?_))
      all_goals refine Gc bxA memB ?_
      ·refine qt [25, 26, 27, 28, 29, 30] ?_
       refine Gf (i := 31) HV HU HU (fun _ => ?_)
       refine Gd HU HU (under_c T N[q] (show fL T a k c ∈ _ from memA) (show fI (asksL T) _ _ _ ∈ _ from memA) (show fBd N[q] _ _ _ ∈ _ from memA) (fun c58 => ?_) (fun c58 => ?_))
       all_goals refine Gc bxA memB ?_
       ·refine qt [32, 33, 34, 35, 36, 37] ?_
        refine Gf (i := 38) HV HU HU (fun _ => ?_)
        refine Gd HU HU (methods_c T N[q] (show fL T a k c ∈ _ from memA) (show fI (asksL T) _ _ _ ∈ _ from memA) (show fBd N[q] _ _ _ ∈ _ from memA) (show fMs N[q].methods _ _ _ ∈ _ from memA) (fun c65 => ?_) (fun c65 => ?_))
        all_goals refine Gc bxA memB ?_
        ·refine qt [39, 40] ?_
         refine Gm HV ?_
         refine qs 9 ?_
         refine Gl (q + 1) ⟨by omega, fun j hj hjq => ?_⟩ HW srA (Sub.drop.trans subF)
         rcases Nat.lt_succ_iff_lt_or_eq.1 hjq with k9 | rfl
         · exact hin j hj k9
         exact ⟨⟨c29, c51, c58, c65⟩, fun _ => by rw [Gt default HW]; simpa using c44⟩
        refine qt [39, 40] ?_
        refine Gm HV ?_
        refine qs 13 ?_
        exact Gb (L' := L) (F' := F) Tryz.results10 rfl subA (hF (fun e => c65 (e.2.2.1 q hql).1.2.2.2))
       refine qt [32, 33, 34, 35, 36, 37, 38, 39, 40] ?_
       refine Gm HV ?_
       refine qs 13 ?_
       exact Gb (L' := L) (F' := F) Tryz.results10 rfl subA (hF (fun e => c58 (e.2.2.1 q hql).1.2.2.1))
      refine qt [25, 26, 27, 28, 29, 30, 31, 32, 33, 34, 35, 36, 37, 38, 39, 40] ?_
      refine Gm HV ?_
      refine qs 13 ?_
      exact Gb (L' := L) (F' := F) Tryz.results10 rfl subA (hF (fun e => c51 (e.2.2.1 q hql).1.2.1))
     replace c33 := of_decide_eq_false c33
     refine qt [7, 8, 9, 10, 11, 12, 13, 14, 15, 16, 17, 18, 19, 20, 21, 22, 23] ?_
     refine Gf (i := 24) HV HU HU (fun _ => ?_)
     refine Gd HU HU (bounds_c T N[q] (show fL T a k c ∈ _ from memA) (show fI (asksL T) _ _ _ ∈ _ from memA) (show fBd N[q] _ _ _ ∈ _ from memA) (fun c51 => ?_) (fun c51 => ?_))
     all_goals refine Gc bxA memB ?_
     ·refine qt [25, 26, 27, 28, 29, 30] ?_
      refine Gf (i := 31) HV HU HU (fun _ => ?_)
      refine Gd HU HU (under_c T N[q] (show fL T a k c ∈ _ from memA) (show fI (asksL T) _ _ _ ∈ _ from memA) (show fBd N[q] _ _ _ ∈ _ from memA) (fun c58 => ?_) (fun c58 => ?_))
      all_goals refine Gc bxA memB ?_
      ·refine qt [32, 33, 34, 35, 36, 37] ?_
       refine Gf (i := 38) HV HU HU (fun _ => ?_)
       refine Gd HU HU (methods_c T N[q] (show fL T a k c ∈ _ from memA) (show fI (asksL T) _ _ _ ∈ _ from memA) (show fBd N[q] _ _ _ ∈ _ from memA) (show fMs N[q].methods _ _ _ ∈ _ from memA) (fun c65 => ?_) (fun c65 => ?_))
       all_goals refine Gc bxA memB ?_
       ·refine qt [39, 40] ?_
        refine Gm HV ?_
        refine qs 9 ?_
        refine Gl (q + 1) ⟨by omega, fun j hj hjq => ?_⟩ HW srA (Sub.drop.trans subF)
        rcases Nat.lt_succ_iff_lt_or_eq.1 hjq with k9 | rfl
        · exact hin j hj k9
        exact ⟨⟨c29, c51, c58, c65⟩, fun h0 => absurd h0 HW⟩
       refine qt [39, 40] ?_
       refine Gm HV ?_
       refine qs 13 ?_
       exact Gb (L' := L) (F' := F) Tryz.results10 rfl subA (hF (fun e => c65 (e.2.2.1 q hql).1.2.2.2))
      refine qt [32, 33, 34, 35, 36, 37, 38, 39, 40] ?_
      refine Gm HV ?_
      refine qs 13 ?_
      exact Gb (L' := L) (F' := F) Tryz.results10 rfl subA (hF (fun e => c58 (e.2.2.1 q hql).1.2.2.1))
     refine qt [25, 26, 27, 28, 29, 30, 31, 32, 33, 34, 35, 36, 37, 38, 39, 40] ?_
     refine Gm HV ?_
     refine qs 13 ?_
     exact Gb (L' := L) (F' := F) Tryz.results10 rfl subA (hF (fun e => c51 (e.2.2.1 q hql).1.2.1))
    refine qt [3, 4, 5, 6, 7, 8, 9, 10, 11, 12, 13, 14, 15, 16, 17, 18, 19, 20, 21, 22, 23, 24, 25, 26, 27, 28, 29, 30, 31, 32, 33, 34, 35, 36, 37, 38, 39, 40] ?_
    refine Gm HV ?_
    refine qs 13 ?_
    exact Gb (L' := L) (F' := F) Tryz.results10 rfl subA (hF (fun e => c29 (e.2.2.1 q hql).1.1))
   refine qs 13 ?_
   refine Ga (Hq HU HU ?_)
   refine Ga (Gd HU HU (containsFuncT_c T hok memA _ [.pointer (some ⟨b1, 0, none⟩)] (fun t => ¬ fitsU N t) (fun x hx y1 y2 y3 y4 y5 y6 F' hF' n1 n2 R hT hF => uright1_c N x (j := 0) (hF' _ memA) n2 HU hT hF) (fun c72 => ?_) (fun c72 => ?_)))
   ·refine qs 5 ?_
    exact Gb (L' := L) (F' := F) Tryz.results10 rfl subA (hF (fun e => c72 (fun j hj hn => hn (e.2.2.2 _ (List.getElem_mem hj)))))
   refine qs 5 ?_
   refine Gb (L' := L) (F' := F) Tryz.results10 HU subA (hT ⟨c8, by omega, fun i hi => hin i hi HW, fun t ht => ?_⟩)
   obtain ⟨j, hj, rfl⟩ := List.getElem_of_mem ht
   exact Classical.byContradiction (c72 j hj)
  refine qs 17 ?_
  exact Gb (L' := L) (F' := F) Tryz.results10 rfl subA (hF (fun e => c8 e.1))
end
end Go.Sy
namespace Go.Sy
open Go Go.Proofs Go.RowKit
theorem nm_ext {n m : Nmd} (h1 : n.name = m.name) (h2 : n.bounds = m.bounds) (h3 : n.under = m.under) (h4 : n.methods = m.methods) : n = m := by
  cases n; cases m; simp_all
theorem mt_ext {n m : Mth} (h1 : n.name = m.name) (h2 : n.ptr = m.ptr) (h3 : n.sig = m.sig) : n = m := by
  cases n; cases m; simp_all
abbrev fS (l : List (List UInt8)) (a : Option Addr) (k c : Nat) : Fact := .slc (.slice a k c) 1 (l.map eS)
attribute [local irreducible] AC AT AO AK AH ACalls Sub Res.cells Res.obj Res.nix Res.own Res.map Exit.then Exit.inBlock bodyPost Code.wp Code.wpIn WL Next Post Kont
section
variable {W0 : World} {L : List Res} {F : List Fact} {R : Value → List Res → List Fact → Prop}
set_option maxRecDepth 100000
set_option maxHeartbeats 16000000
end
end Go.Sy
namespace Go.Sy
open Go Go.Proofs Go.RowKit
attribute [local irreducible] AC AT AO AK AH ACalls Sub Res.cells Res.obj Res.nix Res.own Res.map Exit.then Exit.inBlock bodyPost Code.wp Code.wpIn WL Next Post Kont
section
variable {W0 : World} {L : List Res} {F : List Fact} {R : Value → List Res → List Fact → Prop}
set_option maxRecDepth 100000
set_option maxHeartbeats 4000000
end
end Go.Sy
namespace Go.Sy
open Go Go.Proofs Go.RowKit
attribute [local irreducible] AC AT AO AK AH ACalls Sub Res.cells Res.obj Res.nix Res.own Res.map Exit.then Exit.inBlock bodyPost Code.wp Code.wpIn WL Next Post Kont
section
variable {W0 : World} {L : List Res} {F : List Fact} {R : Value → List Res → List Fact → Prop}
set_option maxRecDepth 100000
set_option maxHeartbeats 8000000
end
end Go.Sy
namespace Go.Sy
open Go Go.Proofs Go.RowKit
attribute [local irreducible] AC AT AO AK AH ACalls Sub Res.cells Res.obj Res.nix Res.own Res.map Exit.then Exit.inBlock bodyPost Code.wp Code.wpIn WL Next Post Kont
section
variable {W0 : World} {L : List Res} {F : List Fact} {R : Value → List Res → List Fact → Prop}
set_option maxRecDepth 100000
set_option maxHeartbeats 16000000
end
end Go.Sy
