/- The arena of the basic types, and which arenas may be: the walks. -/
import Derived.Test.YthbngbiodamndaaDoorTyp6
namespace Go.Sy
open Go Go.Proofs Go.RowKit

theorem start_len : startL.length = 22 := by decide
theorem names_len : startNames.length = 20 := by decide
theorem basic_step {q : Nat} (hq : q < startNames.length) : (startNames.take q).map basicT ++ [basicT startNames[q]] = (startNames.take (q + 1)).map basicT := by
  rw [List.take_succ_eq_append_getElem hq, List.map_append]; rfl
theorem start_ok : ∀ t ∈ startL, TyOk t := by
  have h1 : ∀ t ∈ startL, -9223372036854775808 ≤ t.kind ∧ t.kind ≤ 9223372036854775807 := by decide
  have h2 : ∀ t ∈ startL, -9223372036854775808 ≤ t.n ∧ t.n ≤ 9223372036854775807 := by decide
  have h3 : ∀ t ∈ startL, t.name.length ≤ 60 := by decide
  have h4 : ∀ t ∈ startL, t.words = [] := by decide
  have h5 : ∀ t ∈ startL, t.kids = [] := by decide
  intro t ht
  refine ⟨h1 t ht, h2 t ht, h3 t ht, by rw [h4 t ht]; decide, by rw [h4 t ht]; simp, by rw [h5 t ht]; decide, by rw [h5 t ht]; simp⟩
theorem start_get {q : Nat} (hq : q < startL.length) : startL.getD q (basicT []) = startL[q] := by simp [List.getD, List.getElem?_eq_getElem hq]
theorem cells_S {F : List Fact} : ∀ (l : List (List UInt8)), Cells F (l.map S) (l.map eS).flatten
  | [] => .nil
  | _ :: l => .val (cells_S l)
/-- Which keys were seen. -/
def SeenK (l : List Ty) (q : Nat) (m : Key → Option Bool) : Prop := ∀ x, m x = some true ↔ ∃ t ∈ l.take q, keyT t = x
theorem SeenK.zero (l : List Ty) : SeenK l 0 (fun _ => none) := fun x => ⟨fun h => by simp at h, fun ⟨t, h, _⟩ => by simp at h⟩
theorem SeenK.step {l : List Ty} {q : Nat} {m : Key → Option Bool} (h : SeenK l q m) (hq : q < l.length) : SeenK l (q + 1) (upd m (keyT l[q]) true) := by
  intro x
  rw [List.take_succ_eq_append_getElem hq]
  by_cases hx : x = keyT l[q]
  · subst hx
    rw [upd_self]
    exact ⟨fun _ => ⟨l[q], List.mem_append_right _ (by simp), rfl⟩, fun _ => rfl⟩
  · rw [upd_ne _ hx, h x]
    constructor
    · rintro ⟨t, h1, h2⟩; exact ⟨t, List.mem_append_left _ h1, h2⟩
    · rintro ⟨t, h1, h2⟩
      rcases List.mem_append.1 h1 with k | k
      · exact ⟨t, k, h2⟩
      · have : t = l[q] := by simpa using k
        subst this; exact absurd h2.symm hx
theorem SeenK.yes {l : List Ty} {q : Nat} {m : Key → Option Bool} (h : SeenK l q m) {t : Ty} (hm : m (keyT t) = some true) : t ∈ l.take q := by
  obtain ⟨u, h1, h2⟩ := (h _).1 hm
  rwa [key_inj h2] at h1
theorem SeenK.no {l : List Ty} {q : Nat} {m : Key → Option Bool} (h : SeenK l q m) {t : Ty} (hm : m (keyT t) ≠ some true) : t ∉ l.take q := fun hk => hm ((h _).2 ⟨t, hk, rfl⟩)

theorem row_ne {l : List Ty} (e : rightP l) {q : Nat} (hq : q < l.length) (h8 : q < startL.length) (hc : (!keyB (keyT l[q]) (keyT startL[q])) = true) : False := by
  have h := e.2.2 q hq
  have hsl := start_len
  unfold rowAt at h
  rw [if_pos (by omega), start_get h8] at h
  rw [h, (keyB_iff _ _).2 rfl] at hc
  exact absurd hc (by decide)
theorem row_eq {l : List Ty} {q : Nat} (hq : q < l.length) (h8 : q < startL.length) (hc : (!keyB (keyT l[q]) (keyT startL[q])) = false) : rowAt l q hq := by
  have hsl := start_len
  unfold rowAt
  rw [if_pos (by omega), start_get h8]
  have : keyB (keyT l[q]) (keyT startL[q]) = true := by simpa using hc
  exact key_inj ((keyB_iff _ _).1 this)
theorem row_made {l : List Ty} {q : Nat} (hq : q < l.length) (h : ¬ q < 22) (h1 : madeP (l.take q) l[q]) (h2 : l[q] ∉ l.take q) : rowAt l q hq := by
  unfold rowAt; rw [if_neg h]; exact ⟨h1, h2⟩
theorem row_nomade {l : List Ty} (e : rightP l) {q : Nat} (hq : q < l.length) (h : ¬ q < 22) (h1 : ¬ madeP (l.take q) l[q]) : False := by
  have h2 := e.2.2 q hq
  unfold rowAt at h2; rw [if_neg h] at h2; exact h1 h2.1
theorem rows_step {l : List Ty} {q : Nat} (hr : ∀ j (hj : j < l.length), j < q → rowAt l j hj) (hq : q < l.length) (h : rowAt l q hq) : ∀ j (hj : j < l.length), j < q + 1 → rowAt l j hj := by
  intro j hj hjq
  rcases Nat.lt_succ_iff_lt_or_eq.1 hjq with k | rfl
  · exact hr j hj k
  · exact h

attribute [local irreducible] AC AT AO AK AH ACalls Sub Res.cells Res.obj Res.nix Res.own Res.map Exit.then Exit.inBlock bodyPost Code.wp Next Post Kont
section
variable {W0 : World} {L : List Res} {F : List Fact} {R : Value → List Res → List Fact → Prop}
theorem Y.neqK {n : Nat} {ρ : Rho} {T : World → Prop} {a b : Key} {x y : Operand} {d : Option Tmp} {yt ty : TypeId} {pos : String} {af : Array Edge} {g : Option (Nat × Bool)} (hx : ev ρ x = some (vKey a)) (hy : ev ρ y = some (vKey b)) : Yd Tryd.prog n ρ T ⟨d, .binOp .neq 53 x y yt, ty, pos, af, g⟩ (.bool (!keyB a b)) := ⟨fun s w st _ => by
  simp only [execOp, ev_eval st hx, ev_eval st hy, Sem.run_bind, run_eqGuard_agg w _ _ _ _ _ _ key_guard, run_neq_struct, key_equalIn, Result.andThen, Sem.run_pure]⟩
set_option maxRecDepth 100000
set_option maxHeartbeats 4000000
theorem start_c (h : ∀ a k c, R (.slice a k c) L (fL startL a k c :: F)) : ACalls Tryd.prog W0 10 #[] L F R := by
  refine ACalls.body Tryd.func10 rfl Tryd.ntmps10 rfl ?_
  refine AC.seq (AC.region (AL.go (AO.assign rfl rfl (AL.nil (AK.seqN (AC.seq ?_))))))
  refine AC.region (AL.go (AO.assign rfl rfl (AL.nil (AK.seqN (AC.seq (AC.seq ?_))))))
  refine AC.region ?_
  refine AL.go (AO.buildSlice rfl rfl rfl rfl rfl (fun b4 => ?_))
  refine AT.sub (Sub.trans (Sub.lit (i := 0) (enc := eS) (sz := 1) startNames rfl (cells_S startNames) (fun _ => rfl) rfl (by decide)) (Sub.drop.trans (Sub.nilF (sz := 1)))) ?_
  refine AL.go (AO.len rfl rfl (fun hl5 => ?_) (hm := by repeat (first | exact mem0 | assumption | refine memS ?_)))
  refine AL.go (AO.move rfl rfl (AL.nil (AK.seqN (AC.block ?_))))
  refine AC.loop (fun (i : Nat × Option Addr × Nat × Nat) => i.1 ≤ startNames.length) (fun i => [(1, .slice i.2.1 i.2.2.1 i.2.2.2), (4, .slice (some ⟨b4, 0, none⟩) 20 20), (5, .int .i64 startNames.length), (6, .int .i64 (i.1 : Int))]) (fun i => Res.own (.slice i.2.1 i.2.2.1 i.2.2.2) 31 5 (((startNames.take i.1).map basicT).map eTy) :: L) (fun _ => _) (fun i => startNames.length - i.1) (0, none, 0, 0) (by simp) (by repeat (first | exact SubR.nil | refine SubR.cons rfl ?_)) Sub.ownNil ?_
  rintro ⟨q, a1, k1, c1⟩ hq
  simp only at hq ⊢
  refine AC.seq (AC.region ?_)
  refine AL.go (AO.lss rfl rfl rfl (fun c7 => ?_) (fun c7 => ?_))
  · refine AL.nil (AK.seqN (AC.seq (AC.condT rfl (AC.skip (AK.seqN ?_)))))
    refine AC.seq (AC.block (AC.seq (AC.region ?_)))
    have hql : q < startNames.length := by omega
    have hnl := names_len
    have htl : ((startNames.take q).map basicT).length = q := by simp; omega
    refine AL.go (AO.indexAddr rfl rfl rfl rfl (by repeat (first | exact mem0 | assumption | refine memS ?_)) hql (fun _ _ => ?_))
    refine AL.go (AO.loadF rfl rfl ?_)
    intros
    refine AL.go (AO.assign rfl rfl (AL.nil (AK.seqN (AC.region (AL.go (AO.move rfl rfl (AL.go (AO.move rfl rfl ?_))))))))
    refine AL.go (AO.build rfl rfl rfl ?_)
    refine AL.go (AO.buildSlice rfl rfl rfl rfl rfl (fun b13 => ?_))
    refine AL.go (AO.append (i := 0) (enc := eTy) (lst := (startNames.take q).map basicT) [basicT startNames[q]] rfl rfl rfl rfl (.val (.val (.val (.slc (.slc .nil (by repeat (first | exact mem0 | assumption | refine memS ?_))) (by repeat (first | exact mem0 | assumption | refine memS ?_)))))) rfl rfl (fun _ => rfl) (by rw [htl]; simp [maxLen]; omega) (by rw [htl]; omega) (fun a14 k14 c14 => ?_))
    rw [basic_step hql]
    refine AL.go (AO.assign rfl rfl (AL.nil (AK.blkN (AK.seqN (AC.region (AL.go (AO.add rfl rfl rfl (by omega) (by omega) ?_)))))))
    refine AL.go (AO.move rfl rfl (AL.nil ?_))
    refine AK.next (q + 1, a14, k14, c14) (by simp only; omega) (by simp only; omega) (by repeat (first | exact SubR.nil | refine SubR.cons rfl ?_)) (by repeat (first | exact Sub.refl _ _ | refine Sub.trans Sub.dropF ?_))
  · refine AL.nil (AK.seqN (AC.seq (AC.condF rfl (AC.exit (AK.seqX ?_)))))
    refine AK.seqX (AK.blkX (AK.seqN (AC.seq (AC.region ?_))))
    refine AL.go (AO.move rfl rfl ?_)
    have hall : startNames.take q = startNames := List.take_of_length_le (by omega)
    rw [hall]
    refine AL.go (AO.build rfl rfl rfl ?_)
    refine AL.go (AO.build rfl rfl rfl ?_)
    refine AL.go (AO.buildSlice rfl rfl rfl rfl rfl (fun b19 => ?_))
    refine AL.go (AO.append (i := 0) (enc := eTy) (lst := startNames.map basicT) [⟨7, [], 0, [], []⟩, ⟨7, [], 1, [], []⟩] rfl rfl rfl rfl (.val (.val (.val (.slc (.slc (.val (.val (.val (.slc (.slc .nil (by repeat (first | exact mem0 | assumption | refine memS ?_))) (by repeat (first | exact mem0 | assumption | refine memS ?_)))))) (by repeat (first | exact mem0 | assumption | refine memS ?_))) (by repeat (first | exact mem0 | assumption | refine memS ?_)))))) rfl rfl (fun _ => rfl) (by decide) (by decide) (fun a20 k20 c20 => ?_))
    refine AL.go (AO.assign rfl rfl (AL.nil (AK.seqN (AC.ret ?_))))
    refine AK.ret (L' := L) (F' := fL startL a20 k20 c20 :: F) Tryd.results10 rfl ?_ (h _ _ _)
    exact (Sub.commit (i := 0) rfl).trans (Sub.drop.trans (Sub.headF (fun x hx => by repeat (first | exact hx | refine List.mem_cons_of_mem _ ?_))))
theorem right_c (g : Glob W0) (l : List Ty) (hok : ∀ t ∈ l, TyOk t) {a : Option Addr} {k c : Nat} (m1 : fL l a k c ∈ F) (hT : rightP l → R (.bool true) L F) (hF : ¬ rightP l → R (.bool false) L F) : ACalls Tryd.prog W0 12 #[.slice a k c] L F R := by
  refine ACalls.body Tryd.func12 rfl Tryd.ntmps12 rfl ?_
  refine AC.seq (AC.region (AL.go (AO.assign rfl rfl (AL.nil (AK.seqN (AC.seq ?_))))))
  refine AC.region ?_
  refine AL.go (AO.call rfl rfl (start_c (fun a8 k8 c8 => ?_)))
  have hsl := start_len
  refine AL.go (AO.assign rfl rfl (AL.nil (AK.seqN (AC.seq (AC.seq (AC.region ?_))))))
  refine AL.go (AO.move rfl rfl ?_)
  refine AL.go (AO.len rfl rfl (fun hl10 => ?_) (hm := by repeat (first | exact mem0 | assumption | refine memS ?_)))
  refine AL.go (AO.gtr rfl rfl rfl (fun c11 => ?_) (fun c11 => ?_))
  · refine AL.go (AO.move rfl rfl (AL.no rfl rfl rfl rfl (AL.no rfl rfl rfl rfl (AL.no rfl rfl rfl rfl (AL.no rfl rfl rfl rfl (AL.no rfl rfl rfl rfl ?_))))))
    refine AL.go (AO.pickT rfl rfl rfl (AL.nil (AK.seqN (AC.condT rfl (AC.seq (AC.region ?_))))))
    refine AL.go (AO.assign rfl rfl (AL.nil (AK.seqN (AC.ret (AK.seqR ?_)))))
    first | refine AK.ret (L' := L) (F' := F) Tryd.results12 rfl (by repeat (first | exact Sub.refl _ _ | refine Sub.trans Sub.drop ?_ | refine Sub.trans Sub.dropF ?_)) (hT ?_) | refine AK.ret (L' := L) (F' := F) Tryd.results12 rfl (by repeat (first | exact Sub.refl _ _ | refine Sub.trans Sub.drop ?_ | refine Sub.trans Sub.dropF ?_)) (hF ?_)
    first
    | exact fun e => absurd e.2.1 (by omega)
    | exact fun e => absurd e.1 (by omega)
    | exact fun e => row_ne e hql hq8 c40
    | exact fun e => row_nomade e hql (by omega) c52
    | exact fun e => right_once e q hql (hseen.yes c59)
    | exact ⟨by omega, by omega, fun i hi => hrow i hi (by omega)⟩
  · refine AL.go (AO.move rfl rfl (AL.yes rfl rfl (AO.move rfl rfl ?_)))
    refine AL.yes rfl rfl (AO.len rfl rfl (fun hl14 => ?_) (hm := by repeat (first | exact mem0 | assumption | refine memS ?_)))
    refine AL.yes rfl rfl (AO.move rfl rfl ?_)
    refine AL.yes rfl rfl (AO.len rfl rfl (fun hl16 => ?_) (hm := by repeat (first | exact mem0 | assumption | refine memS ?_)))
    refine AL.yes rfl rfl (AO.lss rfl rfl rfl (fun c17 => ?_) (fun c17 => ?_))
    · refine AL.go (AO.pickF rfl rfl rfl (AL.nil (AK.seqN (AC.condT rfl (AC.seq (AC.region ?_))))))
      refine AL.go (AO.assign rfl rfl (AL.nil (AK.seqN (AC.ret (AK.seqR ?_)))))
      first | refine AK.ret (L' := L) (F' := F) Tryd.results12 rfl (by repeat (first | exact Sub.refl _ _ | refine Sub.trans Sub.drop ?_ | refine Sub.trans Sub.dropF ?_)) (hT ?_) | refine AK.ret (L' := L) (F' := F) Tryd.results12 rfl (by repeat (first | exact Sub.refl _ _ | refine Sub.trans Sub.drop ?_ | refine Sub.trans Sub.dropF ?_)) (hF ?_)
      first
      | exact fun e => absurd e.2.1 (by omega)
      | exact fun e => absurd e.1 (by omega)
      | exact fun e => row_ne e hql hq8 c40
      | exact fun e => row_nomade e hql (by omega) c52
      | exact fun e => right_once e q hql (hseen.yes c59)
      | exact ⟨by omega, by omega, fun i hi => hrow i hi (by omega)⟩
    · refine AL.go (AO.pickF rfl rfl rfl (AL.nil (AK.seqN (AC.condF rfl (AC.skip (AK.seqN ?_))))))
      refine AC.seq (AC.region ?_)
      refine AL.go (AO.makeMap vKey Value.bool rfl (fun b19 => ?_))
      refine AL.go (AO.assign rfl rfl (AL.nil (AK.seqN (AC.seq (AC.seq (AC.region ?_))))))
      refine AL.go (AO.move rfl rfl ?_)
      refine AL.go (AO.len rfl rfl (fun hl21 => ?_) (hm := by repeat (first | exact mem0 | assumption | refine memS ?_)))
      refine AL.go (AO.move rfl rfl (AL.nil (AK.seqN (AC.block ?_))))
      refine AC.loop (fun (i : Nat × (Key → Option Bool)) => i.1 ≤ l.length ∧ SeenK l i.1 i.2 ∧ ∀ j (hj : j < l.length), j < i.1 → rowAt l j hj) (fun i => [(0, .slice a k c), (3, .slice a8 k8 c8), (4, .map (some b19)), (20, .slice a k c), (21, .int .i64 l.length), (22, .int .i64 (i.1 : Int))]) (fun i => Res.map b19 vKey Value.bool i.2 :: _) (fun _ => fL startL a8 k8 c8 :: F) (fun i => l.length - i.1) (0, fun _ => none) ⟨by omega, SeenK.zero _, by omega⟩ (by repeat (first | exact SubR.nil | refine SubR.cons rfl ?_)) (Sub.refl _ _) ?_
      rintro ⟨q, m⟩ ⟨hq, hseen, hrow⟩
      simp only at hq hseen hrow ⊢
      refine AC.seq (AC.region ?_)
      refine AL.go (AO.lss rfl rfl rfl (fun c23 => ?_) (fun c23 => ?_))
      · refine AL.nil (AK.seqN (AC.seq (AC.condT rfl (AC.skip (AK.seqN ?_)))))
        refine AC.seq (AC.block (AC.seq (AC.region (AL.go (AO.move rfl rfl ?_)))))
        have hql : q < l.length := by omega
        refine AL.go (AO.indexAddr rfl rfl rfl rfl (by repeat (first | exact mem0 | assumption | refine memS ?_)) hql (fun _ _ => ?_))
        refine AL.go (AO.loadFA rfl rfl ?_)
        intro a26 k26 z26 d26 e26 f26
        refine AL.go (AO.alloc rfl (fun b6 => ?_))
        refine AL.go (AO.assign rfl rfl ?_)
        refine AL.go (AO.storeBA rfl rfl rfl rfl ?_)
        refine AL.nil (AK.seqN (AC.seq (AC.region ?_)))
        refine AL.go (AO.loadBA rfl rfl ?_)
        refine AL.go (AO.call rfl rfl (keyOf_c g l[q] (hok _ (List.getElem_mem hql)) (by repeat (first | exact mem0 | assumption | refine memS ?_)) (by repeat (first | exact mem0 | assumption | refine memS ?_)) ?_))
        refine AL.go (AO.alloc rfl (fun b7 => ?_))
        refine AL.go (AO.storeBA rfl rfl rfl rfl ?_)
        refine AL.nil (AK.seqN (AC.seq (AC.seq ?_)))
        refine AC.draw (fun _ => false) [(b6, _, _), (b7, _, _)] (by repeat (first | exact BxIn.nil | refine BxIn.cons (by repeat (first | exact has0 | assumption | apply hasS)) ?_)) rfl (fun hx hX => ?_)
        have hll := (len_of_fact (hX (fL l a k c) (by repeat (first | exact mem0 | assumption | refine memS ?_)))).1
        have hlc := (len_of_fact (hX (fL l a k c) (by repeat (first | exact mem0 | assumption | refine memS ?_)))).2
        have hl8 := (len_of_fact (hX (fL startL a8 k8 c8) (by repeat (first | exact mem0 | assumption | refine memS ?_)))).1
        refine AH.takeW (i := 0) rfl (Y.move rfl) (by kernel_rfl) rfl rfl ?_
        refine AH.takeW (i := 1) rfl (Y.move rfl) (by kernel_rfl) rfl rfl ?_
        refine AH.takeW (i := 2) rfl (Y.lenV rfl) (by kernel_rfl) rfl rfl ?_
        refine AH.takeB (i := 3) rfl (Y.lss rfl rfl) (by kernel_rfl) rfl rfl (fun c32 => ?_) (fun c32 => ?_)
        · replace c32 := of_decide_eq_true c32
          refine AH.takeW (i := 4) rfl (Y.move rfl) (by kernel_rfl) rfl rfl ?_
          refine AH.takeS (i := 5) rfl (Y.loadBA rfl (by repeat (first | exact List.Mem.head _ | refine List.Mem.tail _ ?_)) (by rfl)) (by kernel_rfl) (by kernel_rfl) rfl rfl rfl ?_
          refine AH.takeW (i := 6) rfl (Y.move rfl) (by kernel_rfl) rfl rfl ?_
          refine AH.takeW (i := 7) rfl (Y.move rfl) (by kernel_rfl) rfl rfl ?_
          have hq8 : q < startL.length := by omega
          obtain ⟨p1, o1, rfl, at1⟩ := row_of_fact (hX (fL startL a8 k8 c8) (by repeat (first | exact mem0 | assumption | refine memS ?_))) hq8
          obtain ⟨w1, x1, y1, w2, x2, y2, hv1, hw1, hw2⟩ := ty_cells at1
          refine AH.fact hw1 (by repeat (first | exact mem0 | assumption | refine memS ?_)) (AH.fact hw2 (by repeat (first | exact mem0 | assumption | refine memS ?_)) ?_)
          refine AH.takeW (i := 8) rfl (Y.indexAddr rfl rfl rfl (by omega)) (by kernel_rfl) rfl rfl ?_
          refine AH.takeS (i := 9) rfl (Y.loadFA rfl rfl hv1) (by kernel_rfl) (by kernel_rfl) rfl rfl rfl ?_
          refine AH.one (i := 10) (by kernel_rfl) rfl rfl (fun _ => ?_)
          refine AO.call rfl rfl (keyOf_c g startL[q] (start_ok _ (List.getElem_mem hq8)) (by repeat (first | exact mem0 | assumption | refine memS ?_)) (by repeat (first | exact mem0 | assumption | refine memS ?_)) ?_)
          refine AT.held (by repeat (first | exact BxIn.nil | refine BxIn.cons (by repeat (first | exact has0 | assumption | apply hasS)) ?_)) (by repeat (first | exact mem0 | refine memS ?_)) ?_
          refine AH.takeB (i := 11) rfl (Y.neqK rfl rfl) (by kernel_rfl) rfl rfl (fun c40 => ?_) (fun c40 => ?_)
          · refine AH.takeW (i := 12) rfl (Y.pickT rfl rfl) (by kernel_rfl) rfl rfl ?_
            refine AH.takeW (i := 13) rfl (Y.move rfl) (by kernel_rfl) rfl rfl ?_
            refine AH.skip (i := 14) rfl (by kernel_rfl) rfl rfl ?_
            refine AH.skip (i := 15) rfl (by kernel_rfl) rfl rfl ?_
            refine AH.skip (i := 16) rfl (by kernel_rfl) rfl rfl ?_
            refine AH.skip (i := 17) rfl (by kernel_rfl) rfl rfl ?_
            refine AH.skip (i := 18) rfl (by kernel_rfl) rfl rfl ?_
            refine AH.skip (i := 19) rfl (by kernel_rfl) rfl rfl ?_
            refine AH.skip (i := 20) rfl (by kernel_rfl) rfl rfl ?_
            refine AH.skip (i := 21) rfl (by kernel_rfl) rfl rfl ?_
            refine AH.skip (i := 22) rfl (by kernel_rfl) rfl rfl ?_
            refine AH.skip (i := 23) rfl (by kernel_rfl) rfl rfl ?_
            refine AH.skip (i := 24) rfl (by kernel_rfl) rfl rfl ?_
            refine AH.skip (i := 25) rfl (by kernel_rfl) rfl rfl ?_
            refine AH.takeW (i := 26) rfl (Y.pickT rfl rfl) (by kernel_rfl) rfl rfl ?_
            refine AH.takeW (i := 27) rfl (Y.move rfl) (by kernel_rfl) rfl rfl ?_
            refine AH.skip (i := 28) rfl (by kernel_rfl) rfl rfl ?_
            refine AH.skip (i := 29) rfl (by kernel_rfl) rfl rfl ?_
            refine AH.skip (i := 30) rfl (by kernel_rfl) rfl rfl ?_
            refine AH.takeW (i := 31) rfl (Y.pickT rfl rfl) (by kernel_rfl) rfl rfl ?_
            refine AH.done (by kernel_rfl) ?_
            refine AK.seqN (AC.condT rfl (AC.seq (AC.region (AL.go (AO.assign rfl rfl (AL.nil ?_))))))
            refine AK.seqN (AC.ret (AK.seqR (AK.blkR (AK.seqR (AK.seqR ?_)))))
            refine AK.blkR (AK.seqR ?_)
            first | refine AK.ret (L' := L) (F' := F) Tryd.results12 rfl (by repeat (first | exact Sub.refl _ _ | refine Sub.trans Sub.drop ?_ | refine Sub.trans Sub.dropF ?_)) (hT ?_) | refine AK.ret (L' := L) (F' := F) Tryd.results12 rfl (by repeat (first | exact Sub.refl _ _ | refine Sub.trans Sub.drop ?_ | refine Sub.trans Sub.dropF ?_)) (hF ?_)
            first
            | exact fun e => absurd e.2.1 (by omega)
            | exact fun e => absurd e.1 (by omega)
            | exact fun e => row_ne e hql hq8 c40
            | exact fun e => row_nomade e hql (by omega) c52
            | exact fun e => right_once e q hql (hseen.yes c59)
            | exact ⟨by omega, by omega, fun i hi => hrow i hi (by omega)⟩
          · refine AH.takeW (i := 12) rfl (Y.pickT rfl rfl) (by kernel_rfl) rfl rfl ?_
            refine AH.takeW (i := 13) rfl (Y.move rfl) (by kernel_rfl) rfl rfl ?_
            refine AH.takeW (i := 14) rfl (Y.move rfl) (by kernel_rfl) rfl rfl ?_
            refine AH.takeW (i := 15) rfl (Y.move rfl) (by kernel_rfl) rfl rfl ?_
            refine AH.takeW (i := 16) rfl (Y.lenV rfl) (by kernel_rfl) rfl rfl ?_
            refine AH.takeB (i := 17) rfl (Y.geq rfl rfl) (by kernel_rfl) rfl rfl (fun c46 => absurd (of_decide_eq_true c46) (by omega)) (fun c46 => ?_)
            refine AH.takeW (i := 18) rfl (Y.move rfl) (by kernel_rfl) rfl rfl ?_
            refine AH.skip (i := 19) rfl (by kernel_rfl) rfl rfl ?_
            refine AH.skip (i := 20) rfl (by kernel_rfl) rfl rfl ?_
            refine AH.skip (i := 21) rfl (by kernel_rfl) rfl rfl ?_
            refine AH.skip (i := 22) rfl (by kernel_rfl) rfl rfl ?_
            refine AH.skip (i := 23) rfl (by kernel_rfl) rfl rfl ?_
            refine AH.skip (i := 24) rfl (by kernel_rfl) rfl rfl ?_
            refine AH.takeW (i := 25) rfl (Y.pickF rfl rfl) (by kernel_rfl) rfl rfl ?_
            refine AH.takeW (i := 26) rfl (Y.pickF rfl rfl) (by kernel_rfl) rfl rfl ?_
            refine AH.takeW (i := 27) rfl (Y.move rfl) (by kernel_rfl) rfl rfl ?_
            refine AH.takeW (i := 28) rfl (Y.move rfl) (by kernel_rfl) rfl rfl ?_
            refine AH.takeS (i := 29) rfl (Y.loadBA rfl (by repeat (first | exact List.Mem.head _ | refine List.Mem.tail _ ?_)) (by rfl)) (by kernel_rfl) (by kernel_rfl) rfl rfl rfl ?_
            refine AH.one (i := 30) (by kernel_rfl) rfl rfl (fun _ => ?_)
            refine AO.lookupB (kenc := vKey) (m := m) (i := 2) (keyT l[q]) rfl rfl rfl (by rfl) (fun c59 => ?_) (fun c59 => ?_)
            all_goals refine AT.held (by repeat (first | exact BxIn.nil | refine BxIn.cons (by repeat (first | exact has0 | assumption | apply hasS)) ?_)) (by repeat (first | exact mem0 | refine memS ?_)) ?_
            · refine AH.takeW (i := 31) rfl (Y.pickF rfl rfl) (by kernel_rfl) rfl rfl ?_
              refine AH.done (by kernel_rfl) ?_
              refine AK.seqN (AC.condT rfl (AC.seq (AC.region (AL.go (AO.assign rfl rfl (AL.nil ?_))))))
              refine AK.seqN (AC.ret (AK.seqR (AK.blkR (AK.seqR (AK.seqR ?_)))))
              refine AK.blkR (AK.seqR ?_)
              first | refine AK.ret (L' := L) (F' := F) Tryd.results12 rfl (by repeat (first | exact Sub.refl _ _ | refine Sub.trans Sub.drop ?_ | refine Sub.trans Sub.dropF ?_)) (hT ?_) | refine AK.ret (L' := L) (F' := F) Tryd.results12 rfl (by repeat (first | exact Sub.refl _ _ | refine Sub.trans Sub.drop ?_ | refine Sub.trans Sub.dropF ?_)) (hF ?_)
              first
              | exact fun e => absurd e.2.1 (by omega)
              | exact fun e => absurd e.1 (by omega)
              | exact fun e => row_ne e hql hq8 c40
              | exact fun e => row_nomade e hql (by omega) c52
              | exact fun e => right_once e q hql (hseen.yes c59)
              | exact ⟨by omega, by omega, fun i hi => hrow i hi (by omega)⟩
            · refine AH.takeW (i := 31) rfl (Y.pickF rfl rfl) (by kernel_rfl) rfl rfl ?_
              refine AH.done (by kernel_rfl) ?_
              refine AK.seqN (AC.condF rfl (AC.skip (AK.seqN (AC.region (AL.go (AO.move rfl rfl ?_))))))
              refine AL.go (AO.loadBA rfl rfl ?_)
              refine AL.go (AO.mapUpdate (kenc := vKey) (venc := Value.bool) (m := m) (i := 2) (keyT l[q]) true rfl rfl rfl (by rfl) ?_)
              refine AL.nil (AK.blkN (AK.seqN (AC.region (AL.go (AO.add rfl rfl rfl (by omega) (by omega) (AL.go (AO.move rfl rfl ?_)))))))
              refine AL.nil ?_
              first | refine AK.next (q + 1, upd m (keyT l[q]) true) ⟨by simp only; omega, hseen.step hql, rows_step hrow hql (row_eq hql hq8 c40)⟩ (by simp only; omega) (by repeat (first | exact SubR.nil | refine SubR.cons rfl ?_)) (Sub.drop.trans (Sub.drop.trans (by repeat (first | exact Sub.refl _ _ | refine Sub.trans Sub.dropF ?_)))) | refine AK.next (q + 1, upd m (keyT l[q]) true) ⟨by simp only; omega, hseen.step hql, rows_step hrow hql (row_made hql (by omega) c52 (hseen.no c59))⟩ (by simp only; omega) (by repeat (first | exact SubR.nil | refine SubR.cons rfl ?_)) (Sub.drop.trans (Sub.drop.trans (by repeat (first | exact Sub.refl _ _ | refine Sub.trans Sub.dropF ?_))))
        · replace c32 := of_decide_eq_false c32
          refine AH.takeW (i := 4) rfl (Y.move rfl) (by kernel_rfl) rfl rfl ?_
          refine AH.skip (i := 5) rfl (by kernel_rfl) rfl rfl ?_
          refine AH.skip (i := 6) rfl (by kernel_rfl) rfl rfl ?_
          refine AH.skip (i := 7) rfl (by kernel_rfl) rfl rfl ?_
          refine AH.skip (i := 8) rfl (by kernel_rfl) rfl rfl ?_
          refine AH.skip (i := 9) rfl (by kernel_rfl) rfl rfl ?_
          refine AH.skip (i := 10) rfl (by kernel_rfl) rfl rfl ?_
          refine AH.skip (i := 11) rfl (by kernel_rfl) rfl rfl ?_
          refine AH.takeW (i := 12) rfl (Y.pickF rfl rfl) (by kernel_rfl) rfl rfl ?_
          refine AH.takeW (i := 13) rfl (Y.move rfl) (by kernel_rfl) rfl rfl ?_
          refine AH.takeW (i := 14) rfl (Y.move rfl) (by kernel_rfl) rfl rfl ?_
          refine AH.takeW (i := 15) rfl (Y.move rfl) (by kernel_rfl) rfl rfl ?_
          refine AH.takeW (i := 16) rfl (Y.lenV rfl) (by kernel_rfl) rfl rfl ?_
          refine AH.takeB (i := 17) rfl (Y.geq rfl rfl) (by kernel_rfl) rfl rfl (fun c46 => ?_) (fun c46 => absurd (of_decide_eq_false c46) (by omega))
          refine AH.takeW (i := 18) rfl (Y.move rfl) (by kernel_rfl) rfl rfl ?_
          refine AH.takeW (i := 19) rfl (Y.move rfl) (by kernel_rfl) rfl rfl ?_
          refine AH.takeW (i := 20) rfl (Y.move rfl) (by kernel_rfl) rfl rfl ?_
          refine AH.weak (Sub.part (enc := eTy) (lst := l) 0 q c (show fL l a k c ∈ _ from (by repeat (first | exact mem0 | assumption | refine memS ?_))) (by omega) (by omega) (by omega) (by omega)) ?_
          refine AH.takeW (i := 21) rfl (Y.sliceH rfl rfl rfl (by omega)) (by kernel_rfl) rfl rfl ?_
          refine AH.takeS (i := 22) rfl (Y.loadBA rfl (by repeat (first | exact List.Mem.head _ | refine List.Mem.tail _ ?_)) (by rfl)) (by kernel_rfl) (by kernel_rfl) rfl rfl rfl ?_
          refine AH.one (i := 23) (by kernel_rfl) rfl rfl (fun _ => ?_)
          refine AO.call rfl rfl (made_c g (l.take q) l[q] (hok _ (List.getElem_mem hql)) (by repeat (first | exact mem0 | assumption | refine memS ?_)) (by repeat (first | exact mem0 | assumption | refine memS ?_)) (by repeat (first | exact mem0 | assumption | refine memS ?_)) (fun c52 => ?_) (fun c52 => ?_))
          all_goals refine AT.held (by repeat (first | exact BxIn.nil | refine BxIn.cons (by repeat (first | exact has0 | assumption | apply hasS)) ?_)) (by repeat (first | exact mem0 | refine memS ?_)) ?_
          · refine AH.takeW (i := 24) rfl (Y.not rfl) (by kernel_rfl) rfl rfl ?_
            refine AH.takeW (i := 25) rfl (Y.pickT rfl rfl) (by kernel_rfl) rfl rfl ?_
            refine AH.takeW (i := 26) rfl (Y.pickF rfl rfl) (by kernel_rfl) rfl rfl ?_
            refine AH.takeW (i := 27) rfl (Y.move rfl) (by kernel_rfl) rfl rfl ?_
            refine AH.takeW (i := 28) rfl (Y.move rfl) (by kernel_rfl) rfl rfl ?_
            refine AH.takeS (i := 29) rfl (Y.loadBA rfl (by repeat (first | exact List.Mem.head _ | refine List.Mem.tail _ ?_)) (by rfl)) (by kernel_rfl) (by kernel_rfl) rfl rfl rfl ?_
            refine AH.one (i := 30) (by kernel_rfl) rfl rfl (fun _ => ?_)
            refine AO.lookupB (kenc := vKey) (m := m) (i := 2) (keyT l[q]) rfl rfl rfl (by rfl) (fun c59 => ?_) (fun c59 => ?_)
            all_goals refine AT.held (by repeat (first | exact BxIn.nil | refine BxIn.cons (by repeat (first | exact has0 | assumption | apply hasS)) ?_)) (by repeat (first | exact mem0 | refine memS ?_)) ?_
            · refine AH.takeW (i := 31) rfl (Y.pickF rfl rfl) (by kernel_rfl) rfl rfl ?_
              refine AH.done (by kernel_rfl) ?_
              refine AK.seqN (AC.condT rfl (AC.seq (AC.region (AL.go (AO.assign rfl rfl (AL.nil ?_))))))
              refine AK.seqN (AC.ret (AK.seqR (AK.blkR (AK.seqR (AK.seqR ?_)))))
              refine AK.blkR (AK.seqR ?_)
              first | refine AK.ret (L' := L) (F' := F) Tryd.results12 rfl (by repeat (first | exact Sub.refl _ _ | refine Sub.trans Sub.drop ?_ | refine Sub.trans Sub.dropF ?_)) (hT ?_) | refine AK.ret (L' := L) (F' := F) Tryd.results12 rfl (by repeat (first | exact Sub.refl _ _ | refine Sub.trans Sub.drop ?_ | refine Sub.trans Sub.dropF ?_)) (hF ?_)
              first
              | exact fun e => absurd e.2.1 (by omega)
              | exact fun e => absurd e.1 (by omega)
              | exact fun e => row_ne e hql hq8 c40
              | exact fun e => row_nomade e hql (by omega) c52
              | exact fun e => right_once e q hql (hseen.yes c59)
              | exact ⟨by omega, by omega, fun i hi => hrow i hi (by omega)⟩
            · refine AH.takeW (i := 31) rfl (Y.pickF rfl rfl) (by kernel_rfl) rfl rfl ?_
              refine AH.done (by kernel_rfl) ?_
              refine AK.seqN (AC.condF rfl (AC.skip (AK.seqN (AC.region (AL.go (AO.move rfl rfl ?_))))))
              refine AL.go (AO.loadBA rfl rfl ?_)
              refine AL.go (AO.mapUpdate (kenc := vKey) (venc := Value.bool) (m := m) (i := 2) (keyT l[q]) true rfl rfl rfl (by rfl) ?_)
              refine AL.nil (AK.blkN (AK.seqN (AC.region (AL.go (AO.add rfl rfl rfl (by omega) (by omega) (AL.go (AO.move rfl rfl ?_)))))))
              refine AL.nil ?_
              first | refine AK.next (q + 1, upd m (keyT l[q]) true) ⟨by simp only; omega, hseen.step hql, rows_step hrow hql (row_eq hql hq8 c40)⟩ (by simp only; omega) (by repeat (first | exact SubR.nil | refine SubR.cons rfl ?_)) (Sub.drop.trans (Sub.drop.trans (by repeat (first | exact Sub.refl _ _ | refine Sub.trans Sub.dropF ?_)))) | refine AK.next (q + 1, upd m (keyT l[q]) true) ⟨by simp only; omega, hseen.step hql, rows_step hrow hql (row_made hql (by omega) c52 (hseen.no c59))⟩ (by simp only; omega) (by repeat (first | exact SubR.nil | refine SubR.cons rfl ?_)) (Sub.drop.trans (Sub.drop.trans (by repeat (first | exact Sub.refl _ _ | refine Sub.trans Sub.dropF ?_))))
          · refine AH.takeW (i := 24) rfl (Y.not rfl) (by kernel_rfl) rfl rfl ?_
            refine AH.takeW (i := 25) rfl (Y.pickT rfl rfl) (by kernel_rfl) rfl rfl ?_
            refine AH.takeW (i := 26) rfl (Y.pickF rfl rfl) (by kernel_rfl) rfl rfl ?_
            refine AH.takeW (i := 27) rfl (Y.move rfl) (by kernel_rfl) rfl rfl ?_
            refine AH.skip (i := 28) rfl (by kernel_rfl) rfl rfl ?_
            refine AH.skip (i := 29) rfl (by kernel_rfl) rfl rfl ?_
            refine AH.skip (i := 30) rfl (by kernel_rfl) rfl rfl ?_
            refine AH.takeW (i := 31) rfl (Y.pickT rfl rfl) (by kernel_rfl) rfl rfl ?_
            refine AH.done (by kernel_rfl) ?_
            refine AK.seqN (AC.condT rfl (AC.seq (AC.region (AL.go (AO.assign rfl rfl (AL.nil ?_))))))
            refine AK.seqN (AC.ret (AK.seqR (AK.blkR (AK.seqR (AK.seqR ?_)))))
            refine AK.blkR (AK.seqR ?_)
            first | refine AK.ret (L' := L) (F' := F) Tryd.results12 rfl (by repeat (first | exact Sub.refl _ _ | refine Sub.trans Sub.drop ?_ | refine Sub.trans Sub.dropF ?_)) (hT ?_) | refine AK.ret (L' := L) (F' := F) Tryd.results12 rfl (by repeat (first | exact Sub.refl _ _ | refine Sub.trans Sub.drop ?_ | refine Sub.trans Sub.dropF ?_)) (hF ?_)
            first
            | exact fun e => absurd e.2.1 (by omega)
            | exact fun e => absurd e.1 (by omega)
            | exact fun e => row_ne e hql hq8 c40
            | exact fun e => row_nomade e hql (by omega) c52
            | exact fun e => right_once e q hql (hseen.yes c59)
            | exact ⟨by omega, by omega, fun i hi => hrow i hi (by omega)⟩
      · refine AL.nil (AK.seqN (AC.seq (AC.condF rfl (AC.exit (AK.seqX ?_)))))
        refine AK.seqX (AK.blkX (AK.seqN (AC.seq (AC.region (AL.go (AO.assign rfl rfl ?_))))))
        refine AL.nil (AK.seqN (AC.ret ?_))
        first | refine AK.ret (L' := L) (F' := F) Tryd.results12 rfl (by repeat (first | exact Sub.refl _ _ | refine Sub.trans Sub.drop ?_ | refine Sub.trans Sub.dropF ?_)) (hT ?_) | refine AK.ret (L' := L) (F' := F) Tryd.results12 rfl (by repeat (first | exact Sub.refl _ _ | refine Sub.trans Sub.drop ?_ | refine Sub.trans Sub.dropF ?_)) (hF ?_)
        first
        | exact fun e => absurd e.2.1 (by omega)
        | exact fun e => absurd e.1 (by omega)
        | exact fun e => row_ne e hql hq8 c40
        | exact fun e => row_nomade e hql (by omega) c52
        | exact fun e => right_once e q hql (hseen.yes c59)
        | exact ⟨by omega, by omega, fun i hi => hrow i hi (by omega)⟩
end
end Go.Sy
