/- The terms of an interface, by the program: the walks. The terms of an interface, by the program: the walks. -/
import Derived.Test.YthbngbiodamndaaDoorSubA
import Derived.Test.YthbngbiodamndaaDoorFwX
import Derived.Test.YthbngbiodamndaaDoorShelf
namespace Go.Sy
open Go Go.Proofs Go.RowKit

abbrev eTm (x : Tm) : List D := [.val (S x.1), .val (.int .i64 x.2)]
def oddK (l : List Ty) (k : Int) : Prop := kindAt l k = 7 ∨ kindAt l k = 9 ∨ (14 ≤ k ∧ k ≤ 19)
theorem zips_len {t : Ty} (h : t.words.length = t.kids.length) : (zips t).length = t.words.length := by unfold zips; rw [List.length_zip]; omega
theorem zips_get {t : Ty} {q : Nat} (hq : q < t.words.length) (hk : q < t.kids.length) (hz : q < (zips t).length) : (zips t)[q] = (t.words[q], t.kids[q]) := by simp [zips]
theorem decl_yes {zs : List Tm} {q : Nat} (hq : q < zs.length) (h : ¬ markP zs[q].1) : declsR (zs.take q) ++ [zs[q]] = declsR (zs.take (q + 1)) := by
  rw [List.take_succ_eq_append_getElem hq, declsR_snoc, if_neg h]
theorem decl_no {zs : List Tm} {q : Nat} (hq : q < zs.length) (h : markP zs[q].1) : declsR (zs.take q) = declsR (zs.take (q + 1)) := by
  rw [List.take_succ_eq_append_getElem hq, declsR_snoc, if_pos h]
theorem term_no {zs : List Tm} {q : Nat} (hq : q < zs.length) (h : ¬ markP zs[q].1) : termsA (zs.take q) = termsA (zs.take (q + 1)) := by
  rw [List.take_succ_eq_append_getElem hq, termsA_snoc, if_neg h]
theorem term_yes {zs : List Tm} {q : Nat} (hq : q < zs.length) (h : markP zs[q].1) : addTm (termsA (zs.take q)) zs[q] = termsA (zs.take (q + 1)) := by
  rw [List.take_succ_eq_append_getElem hq, termsA_snoc, if_pos h]
theorem addTm_none {a : List Tm} {z : Tm} (h : a.findIdx? (·.2 == z.2) = none) : a ++ [z] = addTm a z := by unfold addTm; rw [h]
theorem addTm_set {a : List Tm} {z : Tm} {k : Nat} (h : a.findIdx? (·.2 == z.2) = some k) (hz : z.1 = [126]) : a.set k z = addTm a z := by unfold addTm; rw [h]; simp only; rw [if_pos hz]
theorem addTm_stay {a : List Tm} {z : Tm} {k : Nat} (h : a.findIdx? (·.2 == z.2) = some k) (hz : z.1 ≠ [126]) : a = addTm a z := by unfold addTm; rw [h]; simp only; rw [if_neg hz]
theorem declsR_len (zs : List Tm) : (declsR zs).length ≤ zs.length := by unfold declsR; exact List.length_filter_le ..
theorem termsA_len (zs : List Tm) : (termsA zs).length ≤ zs.length := by
  refine snocInd (P := fun zs => (termsA zs).length ≤ zs.length) (by simp [termsA]) ?_ zs
  intro zs z ih
  rw [termsA_snoc, List.length_append]
  split
  · unfold addTm
    split
    · rw [List.length_append]; simp only [List.length_cons, List.length_nil]; omega
    · split
      · rw [List.length_set]; simp only [List.length_cons, List.length_nil]; omega
      · simp only [List.length_cons, List.length_nil]; omega
  · simp only [List.length_cons, List.length_nil]; omega
theorem odd_not {l : List Ty} {t : Ty} (h : ∀ z ∈ zips t, markP z.1 → ¬ oddK l z.2) : ¬ oddP l t := fun ⟨z, hz, hm, ho⟩ => h z hz hm ho
theorem odd_step {l : List Ty} {zs : List Tm} {q : Nat} (hq : q < zs.length) (h : ∀ z ∈ zs.take q, markP z.1 → ¬ oddK l z.2) (h2 : markP zs[q].1 → ¬ oddK l zs[q].2) : ∀ z ∈ zs.take (q + 1), markP z.1 → ¬ oddK l z.2 := by
  intro z hz
  rw [List.take_succ_eq_append_getElem hq] at hz
  rcases List.mem_append.1 hz with k | k
  · exact h z k
  · have : z = zs[q] := by simpa using k
    rw [this]; exact h2
/-! ### The sort's own words -/
abbrev Fm := List UInt8 × Fin 1048576
def encF (x : Fm) : List Value := [S x.1, .int .i64 ((x.2.val : Nat) : Int)]
def toF (x : Tm) : Fm := (x.1, ⟨x.2.toNat % 1048576, Nat.mod_lt _ (by decide)⟩)
def ofF (x : Fm) : Tm := (x.1, ((x.2.val : Nat) : Int))
def cfF (x y : Fm) : Int := ((x.2.val : Nat) : Int) - ((y.2.val : Nat) : Int)
theorem ltF (x y : Fm) : ltOf cfF x y = decide (x.2.val < y.2.val) := by
  unfold ltOf cfF
  rw [decide_eq_decide]; omega
theorem swoF : Go.Sort.SWO (ltOf cfF) where
  irrefl x := by rw [ltF]; simp
  trans x y z h1 h2 := by rw [ltF] at *; simp at *; omega
  ntrans x y z h1 h2 := by rw [ltF] at *; simp at *; omega
theorem of_to {x : Tm} (h : 0 ≤ x.2 ∧ x.2 < 1048576) : ofF (toF x) = x := by
  refine Prod.ext rfl ?_
  show (((x.2.toNat % 1048576 : Nat)) : Int) = x.2
  omega
theorem rowF (x : Fm) : (encF x).map D.val = eTm (ofF x) := rfl
theorem rowsF {a : List Tm} (h : ∀ x ∈ a, 0 ≤ x.2 ∧ x.2 < 1048576) : (a.map toF).map (fun x => (encF x).map D.val) = a.map eTm := by
  rw [List.map_map]
  refine List.map_congr_left fun x hx => ?_
  show (encF (toF x)).map D.val = _
  rw [rowF, of_to (h x hx)]
theorem sortedF {a : List Tm} (h : ∀ x ∈ a, 0 ≤ x.2 ∧ x.2 < 1048576) {l2 : List Fm} (hp : l2.Perm (a.map toF)) (hs : l2.Pairwise fun x y => ltOf cfF y x = false) : (l2.map ofF).Perm a ∧ (l2.map ofF).Pairwise fun x y => x.2 ≤ y.2 := by
  constructor
  · have := hp.map ofF
    rw [List.map_map] at this
    have e : a.map (ofF ∘ toF) = a := by
      conv => rhs; rw [← List.map_id a]
      exact List.map_congr_left fun x hx => of_to (h x hx)
    rwa [e] at this
  · rw [List.pairwise_map]
    refine hs.imp fun {x y} hxy => ?_
    rw [ltF] at hxy
    have := of_decide_eq_false hxy
    show ((x.2.val : Nat) : Int) ≤ ((y.2.val : Nat) : Int)
    omega
open Go.Sort in
/-- The closure that the sort is handed. -/
theorem closeF (x y : Fm) (W : World) : Calls Tryd.prog 60 #[.agg (encF x).toArray, .agg (encF y).toArray] W fun e w' => e = .returned (.int .i64 (cfF x y)) ∧ ∃ q os', w' = Go.Sort.grow (W.drewN q) os' := by
  unfold encF cfF
  have hx := x.2.isLt
  have hy := y.2.isLt
  generalize x.2.val = i at *
  generalize y.2.val = j at *
  have hw : IntKind.i64.wrap ((i : Int) - (j : Int)) = (i : Int) - (j : Int) := wrap_i64 (by omega) (by omega)
  go_enter Tryd.func60, Tryd.ntmps60
  go_wp2
  go_ret
  exact ⟨rfl, 0, _, by rw [alloc_eq_grow, alloc_eq_grow, grow_grow]; rfl⟩
end Go.Sy

namespace Go.Sy
open Go Go.Proofs Go.RowKit

theorem eS_one {x : List UInt8} {d : D} (hd : d ∈ eS x) {v : Value} (hv : d = .val v) : oneC v = true := by
  subst hv; simp at hd; subst hd; rfl
theorem eI_one {x : Int} {d : D} (hd : d ∈ eI x) {v : Value} (hv : d = .val v) : oneC v = true := by
  subst hv; simp at hd; subst hd; rfl
theorem eTm_get {a : List Tm} {k : Nat} (hk : k < a.length) : (a.map eTm)[k]? = some ([S a[k].1, .int .i64 a[k].2].map D.val) := by
  rw [List.getElem?_map, List.getElem?_eq_getElem hk]; rfl
theorem eTm_set {a : List Tm} {k : Nat} (hk : k < a.length) {z : Tm} (hz : a[k].2 = z.2) : (a.map eTm).set k (([S a[k].1, .int .i64 a[k].2].map D.val).set 0 (.val (S z.1))) = (a.set k z).map eTm := by
  rw [List.map_set]; congr 1; rw [hz]; rfl
theorem idx_first {a : List Tm} {k : Int} {q : Nat} (hq : q < a.length) (h : a[q].2 = k) (hn : ∀ j (hj : j < a.length), j < q → a[j].2 ≠ k) : a.findIdx? (·.2 == k) = some q := by
  rw [List.findIdx?_eq_some_iff_getElem]
  exact ⟨hq, by simp [h], fun j hj => by have := hn j (by omega) hj; simp [this]⟩
theorem idx_no {a : List Tm} {k : Int} (hn : ∀ j (hj : j < a.length), a[j].2 ≠ k) : a.findIdx? (·.2 == k) = none := by
  rw [List.findIdx?_eq_none_iff]
  intro x hx
  obtain ⟨j, hj, rfl⟩ := List.getElem_of_mem hx
  simp [hn j hj]

attribute [local irreducible] AC AT AO AK AH ACalls Sub Res.cells Res.obj Res.nix Res.own Res.map Exit.then Exit.inBlock bodyPost Code.wp Next Post Kont
section
variable {W0 : World} {L : List Res} {F : List Fact} {R : Value → List Res → List Fact → Prop}
set_option maxRecDepth 100000
set_option maxHeartbeats 8000000
theorem sortTm_c (a : List Tm) (ha : ∀ x ∈ a, 0 ≤ x.2 ∧ x.2 < 1048576) (hl : a.length ≤ 1000) {i : Nat} {v : Value} {e : TypeId} (hi : L[i]? = some (Res.own v e 2 (a.map eTm)))
    (h : ∀ b : List Tm, b.Perm a → b.Pairwise (fun x y => x.2 ≤ y.2) → R (.tuple #[]) (L.set i (Res.own v e 2 (b.map eTm))) F) : ACalls Tryd.prog W0 59 #[v, .func (.func 60) #[] #[]] L F R := by
  have eg : ∀ args w, (callFunc 60 args).run Tryd.prog w = .ok (.enter 60 args) w := enters_of Tryd.func60 (by kernel_rfl) rfl
  refine ACalls.sortK (k := 2) encF (by decide) (fun _ => rfl) (ltOf cfF) (fun blk cap d w hH hblk hsz => ?_) (fun w => ?_) (a.map toF) (by rw [List.length_map]; omega) (by rw [rowsF ha]; exact hi) (fun l2 hp hs => ?_)
  · exact AnyQ.slices_SortFunc Tryd.sortTerm 2 Tryd.isAgg94 Tryd.sizeOf94 encF (fun _ => rfl) (fun x v hv => by unfold encF at hv; simp at hv; rcases hv with rfl | rfl <;> rfl) cfF swoF 60 #[] blk 0 cap d w eg (fun m os dk _ x y => by have := closeF x y (sortWorldK encF 2 w blk 0 m dk os); simpa using this) hH hblk hsz
  · exact AnyF.slices_SortFunc_none Tryd.sortTerm none 0 _ w
  · obtain ⟨h1, h2⟩ := sortedF ha hp hs
    have e1 : l2.map (fun x => (encF x).map D.val) = (l2.map ofF).map eTm := by rw [List.map_map]; rfl
    rw [e1]
    exact h _ h1 h2
theorem mark_c (s : List UInt8) (hT : markP s → R (.bool true) L F) (hF : ¬ markP s → R (.bool false) L F) : ACalls Tryd.prog W0 56 #[S s] L F R := by
  refine ACalls.body Tryd.func56 rfl Tryd.ntmps56 rfl ?_
  refine AC.seq (AC.region (AL.go (AO.assign rfl rfl (AL.nil (AK.seqN (AC.seq ?_))))))
  refine AC.region (AL.go (AO.move rfl rfl ?_))
  refine AL.go (AO.eqlS rfl rfl rfl (fun c4 => ?_) (fun c4 => ?_))
  · refine AL.go (AO.move rfl rfl (AL.no rfl rfl rfl rfl (AL.no rfl rfl rfl rfl (AL.go (AO.pickT rfl rfl rfl (AL.go (AO.assign rfl rfl (AL.nil ?_))))))))
    refine AK.seqN (AC.ret ?_)
    first | exact AK.ret Tryd.results56 rfl (Sub.refl _ _) (hT (Or.inl c4)) | exact AK.ret Tryd.results56 rfl (Sub.refl _ _) (hT (Or.inr c7)) | exact AK.ret Tryd.results56 rfl (Sub.refl _ _) (hF (fun e => e.elim c4 c7))
  · refine AL.go (AO.move rfl rfl (AL.yes rfl rfl (AO.move rfl rfl ?_)))
    refine AL.yes rfl rfl (AO.eqlS rfl rfl rfl (fun c7 => ?_) (fun c7 => ?_))
    · refine AL.go (AO.pickF rfl rfl rfl (AL.go (AO.assign rfl rfl (AL.nil (AK.seqN (AC.ret ?_))))))
      first | exact AK.ret Tryd.results56 rfl (Sub.refl _ _) (hT (Or.inl c4)) | exact AK.ret Tryd.results56 rfl (Sub.refl _ _) (hT (Or.inr c7)) | exact AK.ret Tryd.results56 rfl (Sub.refl _ _) (hF (fun e => e.elim c4 c7))
    · refine AL.go (AO.pickF rfl rfl rfl (AL.go (AO.assign rfl rfl (AL.nil (AK.seqN (AC.ret ?_))))))
      first | exact AK.ret Tryd.results56 rfl (Sub.refl _ _) (hT (Or.inl c4)) | exact AK.ret Tryd.results56 rfl (Sub.refl _ _) (hT (Or.inr c7)) | exact AK.ret Tryd.results56 rfl (Sub.refl _ _) (hF (fun e => e.elim c4 c7))
theorem term1_c (x : Tm) (kid : Int) {b j : Nat} {e : TypeId} (hj : L[j]? = some (Res.cells b #[.int .i64 kid] e)) (hT : x.2 = kid → R (.bool true) L F) (hF : x.2 ≠ kid → R (.bool false) L F) : ACalls Tryd.prog W0 58 #[.agg #[S x.1, .int .i64 x.2], .pointer (some ⟨b, 0, none⟩)] L F R := by
  refine ACalls.body Tryd.func58 rfl Tryd.ntmps58 rfl ?_
  refine AC.seq (AC.region (AL.go (AO.box rfl rfl (fun b2 => ?_))))
  refine AL.go (AO.assign rfl rfl (AL.nil (AK.seqN (AC.seq (AC.region (AL.go (AO.field rfl rfl ?_)))))))
  refine AL.go (AO.loadB rfl rfl ?_)
  refine AL.go (AO.loadB (cs := [.int .i64 kid]) rfl rfl ?_ (i := j + 1) (hi := hj) (hv := rfl))
  refine AL.go (AO.eql rfl rfl rfl (fun c7 => ?_) (fun c7 => ?_))
  · refine AL.go (AO.assign rfl rfl (AL.nil (AK.seqN (AC.ret ?_))))
    first | exact AK.ret (L' := L) (F' := F) Tryd.results58 rfl Sub.drop (hT c7) | exact AK.ret (L' := L) (F' := F) Tryd.results58 rfl Sub.drop (hF c7)
  · refine AL.go (AO.assign rfl rfl (AL.nil (AK.seqN (AC.ret ?_))))
    first | exact AK.ret (L' := L) (F' := F) Tryd.results58 rfl Sub.drop (hT c7) | exact AK.ret (L' := L) (F' := F) Tryd.results58 rfl Sub.drop (hF c7)
theorem idxTm_c (a : List Tm) (hl : a.length ≤ 1000) (kid : Int) {b i j : Nat} {e : TypeId} {a0 : Option Addr} {k0 c0 : Nat} (hi : L[i]? = some (Res.own (.slice a0 k0 c0) 94 2 (a.map eTm))) (hj : L[j]? = some (Res.cells b #[.int .i64 kid] e))
    (hF : a.findIdx? (·.2 == kid) = none → R (.int .i64 (-1)) L F) (hT : ∀ k : Nat, a.findIdx? (·.2 == kid) = some k → R (.int .i64 (k : Int)) L F) : ACalls Tryd.prog W0 57 #[.slice a0 k0 c0, .func (.func 58) #[] #[.pointer (some ⟨b, 0, none⟩)]] L F R := by
  refine ACalls.body Tryd.func57 rfl Tryd.ntmps57 rfl ?_
  refine AC.seq (AC.region (AL.go (AO.assign rfl rfl (AL.nil (AK.seqN (AC.seq ?_))))))
  refine AC.seq (AC.region (AL.go (AO.move rfl rfl ?_)))
  refine AL.go (AO.lenO (i := i) rfl rfl hi (fun hk7 => ?_))
  rw [List.length_map]
  refine AL.go (AO.move rfl rfl (AL.nil (AK.seqN (AC.block ?_))))
  refine AC.loopC (fun (q : Nat) => q ≤ a.length ∧ ∀ j (hj : j < a.length), j < q → a[j].2 ≠ kid) (fun q => [(0, .slice a0 k0 c0), (1, .func (.func 58) #[] #[.pointer (some ⟨b, 0, none⟩)]), (7, .int .i64 a.length), (8, .int .i64 (q : Int))]) (fun q => a.length - q) 0 ⟨by omega, by omega⟩ (by repeat (first | exact SubR.nil | refine SubR.cons rfl ?_)) ?_
  rintro q ⟨hq, hok⟩
  refine AC.seq (AC.region ?_)
  refine AL.go (AO.lss rfl rfl rfl (fun c9 => ?_) (fun c9 => ?_))
  · refine AL.nil (AK.seqN (AC.seq (AC.condT rfl (AC.skip (AK.seqN ?_)))))
    refine AC.seq (AC.block (AC.seq (AC.region (AL.go (AO.move rfl rfl (AL.go (AO.assign rfl rfl ?_)))))))
    refine AL.nil (AK.seqN (AC.seq (AC.region (AL.go (AO.move rfl rfl (AL.go (AO.move rfl rfl ?_)))))))
    refine AL.go (AO.move rfl rfl ?_)
    have hql : q < a.length := by omega
    refine AL.go (AO.indexAddrO (i := i) (q := q) rfl rfl rfl rfl hi (by rw [List.length_map]; exact hql) (fun bo ho => ?_))
    subst ho
    refine AL.go (AO.loadOA (i := i) (q := q) (vs := [S a[q].1, .int .i64 a[q].2]) rfl rfl rfl hi (eTm_get hql) rfl ?_)
    refine AL.go (AO.callC (cs := [.pointer (some ⟨b, 0, none⟩)]) rfl rfl rfl (term1_c a[q] kid hj (fun c16 => ?_) (fun c16 => ?_)))
    · refine AL.nil (AK.seqN (AC.condT rfl (AC.seq (AC.region (AL.go (AO.move rfl rfl ?_))))))
      refine AL.go (AO.assign rfl rfl (AL.nil (AK.seqN (AC.ret (AK.blkR (AK.seqR ?_))))))
      refine AK.seqR (AK.blkR (AK.seqR ?_))
      first | exact AK.ret (L' := L) (F' := F) Tryd.results57 rfl (by repeat (first | exact Sub.refl _ _ | refine Sub.trans Sub.dropF ?_)) (hT q (idx_first hql c16 hok)) | exact AK.ret (L' := L) (F' := F) Tryd.results57 rfl (by repeat (first | exact Sub.refl _ _ | refine Sub.trans Sub.dropF ?_)) (hF (idx_no (fun j hj => hok j hj (by omega))))
    · refine AL.nil (AK.seqN (AC.condF rfl (AC.skip (AK.blkN (AK.seqN ?_)))))
      refine AC.region (AL.go (AO.add rfl rfl rfl (by omega) (by omega) (AL.go (AO.move rfl rfl (AL.nil ?_)))))
      refine AK.next (q + 1) ⟨by omega, fun j hj hjq => ?_⟩ (by omega) (by repeat (first | exact SubR.nil | refine SubR.cons rfl ?_)) (by repeat (first | exact Sub.refl _ _ | refine Sub.trans Sub.dropF ?_))
      rcases Nat.lt_succ_iff_lt_or_eq.1 hjq with k9 | rfl
      · exact hok j hj k9
      · exact c16
  · refine AL.nil (AK.seqN (AC.seq (AC.condF rfl (AC.exit (AK.seqX ?_)))))
    refine AK.seqX (AK.blkX (AK.seqN (AC.seq (AC.region (AL.go (AO.assign rfl rfl ?_))))))
    refine AL.nil (AK.seqN (AC.ret ?_))
    first | exact AK.ret (L' := L) (F' := F) Tryd.results57 rfl (by repeat (first | exact Sub.refl _ _ | refine Sub.trans Sub.dropF ?_)) (hT q (idx_first hql c16 hok)) | exact AK.ret (L' := L) (F' := F) Tryd.results57 rfl (by repeat (first | exact Sub.refl _ _ | refine Sub.trans Sub.dropF ?_)) (hF (idx_no (fun j hj => hok j hj (by omega))))
end
end Go.Sy
