/- What is added is there, once: the statement's walk. -/
import Derived.Test.YthbngbiodamndaaDoorTyX
import Derived.Test.YthbngbiodamndaaDoorFwV
namespace Go.Sy
open Go Go.Proofs Go.RowKit

/-- What adding a type to an arena comes to, where it is taken. -/
structure AddOk (l : List Ty) (t : Ty) (m : List Ty) (p : Nat) : Prop where
  left : rightP l
  right : rightP m
  pre : l <+: m
  len : m.length ≤ l.length + 1
  lt : p < m.length
  is : m[p] = t
  mem : ∀ u ∈ m, u ∈ l ∨ u = t
theorem addOk_of {l : List Ty} {t : Ty} {m : List Ty} {i e : Int} (hr : rightP l) (h : AddP l t m i e) : (e ≠ 0 ∧ m = []) ∨ (e = 0 ∧ ∃ p : Nat, i = (p : Int) ∧ AddOk l t m p) := by
  rcases h with ⟨q, hq, h1, h2, h3, h4⟩ | ⟨n, ⟨_, h2, _, h4⟩ | ⟨_, _, h2, _, h4⟩ | ⟨hm, hl, h2, h3, h4⟩⟩
  · subst h2
    exact .inr ⟨h4, q, h3, hr, hr, List.prefix_rfl, by omega, hq, h1, fun u hu => .inl hu⟩
  · exact .inl ⟨by omega, h2⟩
  · exact .inl ⟨by omega, h2⟩
  · subst h2
    have h400 := hr.2.1
    refine .inr ⟨h4, l.length, h3, hr, right_snoc hr n hm (by omega), List.prefix_append _ _, by simp, by simp, by simp, fun u hu => ?_⟩
    rcases List.mem_append.1 hu with k | k
    · exact .inl k
    · exact .inr (by simpa using k)
theorem addP_in {l : List Ty} {t : Ty} {m : List Ty} {i e : Int} {p : Nat} (hr : rightP l) (hp : p < l.length) (hi : l[p] = t) (h : AddP l t m i e) : m = l ∧ i = (p : Int) ∧ e = 0 := by
  rcases h with ⟨q, hq, h1, h2, h3, h4⟩ | ⟨n, _⟩
  · have := right_inj hr hq hp (h1.trans hi.symm)
    subst this
    exact ⟨h2, h3, h4⟩
  · exact absurd (at_mem hp hi) n
theorem Sub.prefixed {L : List Res} {F : List Fact} {l m : List Ty} {a : Option Addr} {k c : Nat} (hp : l <+: m) (hm : fL m a k c ∈ F) (hc : l.length ≤ c) : Sub L F L (Fact.slc (sliced a 0 l.length c 5) 5 (l.map eTy) :: F) := by
  have hl := hp.length_le
  have h := Sub.part (L := L) (enc := eTy) (lst := m) 0 l.length c hm (by omega) (by omega) (by omega) (by omega)
  have e : (m.drop 0).take (l.length - 0) = l := by
    obtain ⟨r, rfl⟩ := hp
    simp
  rwa [e] at h

attribute [local irreducible] AC AT AO AK AH ACalls Sub Res.cells Res.obj Res.nix Res.own Res.map Exit.then Exit.inBlock bodyPost Code.wp Next Post Kont
section
variable {W0 : World} {L : List Res} {F : List Fact} {R : Value → List Res → List Fact → Prop}
set_option maxRecDepth 100000
set_option maxHeartbeats 8000000
theorem add3_c (g : Glob W0) (l : List Ty) (hok : ∀ t ∈ l, TyOk t) (t : Ty) (ht : TyOk t) {a a1 a2 : Option Addr} {k c k1 c1 k2 c2 : Nat} (m0 : fL l a k c ∈ F) (m1 : fW t a1 k1 c1 ∈ F) (m2 : fK t a2 k2 c2 ∈ F)
    (h1 : ∀ i e a k c, e ≠ 0 → R (.tuple #[.slice a k c, .int .i64 i, .int .i64 e]) L (fL [] a k c :: F))
    (h2 : ∀ m p a k c, AddOk l t m p → R (.tuple #[.slice a k c, .int .i64 (p : Int), .int .i64 0]) L (fL m a k c :: F)) :
    ACalls Tryd.prog W0 15 #[.slice a k c, vTy t a1 k1 c1 a2 k2 c2] L F R := by
  refine add2_c g l hok t ht m0 m1 m2 (fun _ => h1 0 1 none 0 0 (by decide)) (fun hr l' i e a k c hP => ?_)
  rcases addOk_of hr hP with ⟨he, rfl⟩ | ⟨rfl, p, rfl, ho⟩
  · exact h1 i e a k c he
  · exact h2 l' p a k c ho
theorem add4_c (g : Glob W0) (l : List Ty) (hok : ∀ t ∈ l, TyOk t) (t : Ty) (ht : TyOk t) (hr : rightP l) {p : Nat} (hp : p < l.length) (hi : l[p] = t) {a a1 a2 : Option Addr} {k c k1 c1 k2 c2 : Nat} (m0 : fL l a k c ∈ F) (m1 : fW t a1 k1 c1 ∈ F) (m2 : fK t a2 k2 c2 ∈ F)
    (h : ∀ a k c, R (.tuple #[.slice a k c, .int .i64 (p : Int), .int .i64 0]) L (fL l a k c :: F)) :
    ACalls Tryd.prog W0 15 #[.slice a k c, vTy t a1 k1 c1 a2 k2 c2] L F R := by
  refine add2_c g l hok t ht m0 m1 m2 (fun n => absurd hr n) (fun _ l' i e a k c hP => ?_)
  obtain ⟨rfl, rfl, rfl⟩ := addP_in hr hp hi hP
  exact h a k c
theorem ptext2_c (g : Glob W0) (l : List Ty) (hok : ∀ t ∈ l, TyOk t) (hright : rightP l) (T : Int → List UInt8) (hT : Texts l T) (x : Int) (h0 : 0 ≤ x) (hx : x < l.length) {a : Option Addr} {k c : Nat} (mL : fL l a k c ∈ F)
    (h1 : 4000 < (T x).length → R (.tuple #[S [], .int .i64 7]) L F) (h2 : (T x).length ≤ 4000 → R (.tuple #[S (T x), .int .i64 0]) L F) : ACalls Tryd.prog W0 19 #[.slice a k c, .int .i64 x] L F R := by
  refine ptext_c g l hok hright T hT x h0 hx mL ?_
  unfold textR
  split
  · exact h1 ‹_›
  · exact h2 (by omega)
theorem once_c (g : Glob W0) (l : List Ty) (hl : ∀ t ∈ l, TyIn t) (t : Ty) (ht : TyIn t) (i j : Int) {a a1 a2 : Option Addr} {k c k1 c1 k2 c2 : Nat} (m0 : fL l a k c ∈ F) (m1 : fW t a1 k1 c1 ∈ F) (m2 : fK t a2 k2 c2 ∈ F) (h : R (.bool true) L F) :
    ACalls Tryd.prog W0 5 #[.slice a k c, vTy t a1 k1 c1 a2 k2 c2, .int .i64 i, .int .i64 j] L F R := by
  have hok := few_tok (m := 60) hl
  have hto := one_ok ht
  have hlen : (fewT l 60).length ≤ 60 := by simp only [fewT, List.length_map, List.length_take]; omega
  refine ACalls.body Tryd.func5 rfl Tryd.ntmps5 rfl ?_
  refine AC.seq (AC.region (AL.go (AO.box rfl rfl (fun b5 => ?_))))
  refine AL.go (AO.assign rfl rfl (AL.nil (AK.seqN (AC.seq ?_))))
  refine AC.draw (fun i => Nat.beq i 5) [(b5, _, _)] (by repeat (first | exact BxIn.nil | refine BxIn.cons (by repeat (first | exact has0 | assumption | apply hasS)) ?_)) rfl (fun hx hX => ?_)
  refine AH.takeW (i := 0) rfl (Y.move rfl) (by kernel_rfl) rfl rfl ?_
  refine AH.takeS (i := 2) rfl (Y.loadBA rfl (by repeat (first | exact List.Mem.head _ | refine List.Mem.tail _ ?_)) (by rfl)) (by kernel_rfl) (by kernel_rfl) rfl rfl rfl ?_
  refine AH.one (i := 1) (by kernel_rfl) rfl rfl (fun _ => ?_)
  refine AO.call rfl rfl (tfew_c l 60 (by decide) (by repeat (first | exact mem0 | assumption | refine memS ?_)) (fun a24 k24 c24 => ?_))
  refine AT.held (by repeat (first | exact BxIn.nil | refine BxIn.cons (by repeat (first | exact has0 | assumption | apply hasS)) ?_)) (by repeat (first | exact mem0 | refine memS ?_)) ?_
  refine AH.one (i := 3) (by kernel_rfl) rfl rfl (fun _ => ?_)
  refine AO.call rfl rfl (one_c t (by repeat (first | exact mem0 | assumption | refine memS ?_)) (by repeat (first | exact mem0 | assumption | refine memS ?_)) (fun a26 k26 c26 d26 e26 f26 => ?_))
  refine AT.held (by repeat (first | exact BxIn.nil | refine BxIn.cons (by repeat (first | exact has0 | assumption | apply hasS)) ?_)) (by repeat (first | exact mem0 | refine memS ?_)) ?_
  refine AH.takeW (i := 4) rfl (Y.assign rfl) (by kernel_rfl) rfl rfl ?_
  refine AH.one (i := 5) (by kernel_rfl) rfl rfl (fun _ => ?_)
  refine AO.storeBA rfl rfl rfl rfl ?_
  refine AT.spoilt rfl ?_
  refine AH.done (by kernel_rfl) ?_
  refine AK.seqN (AC.seq (AC.region (AL.go (AO.move rfl rfl ?_))))
  refine AL.go (AO.loadBA rfl rfl ?_)
  refine AL.go (AO.call rfl rfl (add3_c g (fewT l 60) hok (oneT t) hto (by repeat (first | exact mem0 | assumption | refine memS ?_)) (by repeat (first | exact mem0 | assumption | refine memS ?_)) (by repeat (first | exact mem0 | assumption | refine memS ?_)) (fun i30 e30 a30 k30 c30 n30 => ?_) (fun m p a30 k30 c30 ho => ?_)))
  · refine AL.go (AO.move rfl rfl (AL.go (AO.extract rfl rfl rfl (AL.go (AO.extract rfl rfl rfl (AL.go (AO.extract rfl rfl rfl (AL.go (AO.assign rfl rfl (AL.go (AO.assign rfl rfl ?_)))))))))))
    refine AL.go (AO.assign rfl rfl (AL.nil (AK.seqN (AC.seq (AC.seq (AC.region ?_))))))
    refine AL.go (AO.move rfl rfl ?_)
    refine AL.go (AO.neq rfl rfl rfl (fun _ => ?_) (fun c35 => absurd c35 n30))
    refine AL.nil (AK.seqN (AC.condT rfl (AC.seq (AC.region ?_))))
    refine AL.go (AO.call rfl rfl (alive_c g ?_))
    refine AL.go (AO.move rfl rfl (AL.yes rfl rfl (AO.move rfl rfl ?_)))
    refine AL.yes rfl rfl (AO.len rfl rfl (fun hl39 => ?_) (enc := eTy) (lst := ([] : List Ty)) (hm := (by repeat (first | exact mem0 | assumption | refine memS ?_))))
    refine AL.yes rfl rfl (AO.eql rfl rfl rfl (fun _ => ?_) (fun c40 => absurd rfl c40))
    refine AL.go (AO.pickT rfl rfl rfl (AL.go (AO.assign rfl rfl (AL.nil (AK.seqN (AC.ret (AK.seqR ?_)))))))
    exact AK.ret (L' := L) (F' := F) Tryd.results5 rfl (by repeat (first | exact Sub.refl _ _ | refine Sub.trans Sub.drop ?_ | refine Sub.trans Sub.dropF ?_)) h
  · refine AL.go (AO.move rfl rfl (AL.go (AO.extract rfl rfl rfl (AL.go (AO.extract rfl rfl rfl (AL.go (AO.extract rfl rfl rfl (AL.go (AO.assign rfl rfl (AL.go (AO.assign rfl rfl ?_)))))))))))
    refine AL.go (AO.assign rfl rfl (AL.nil (AK.seqN (AC.seq (AC.seq (AC.region ?_))))))
    refine AL.go (AO.move rfl rfl ?_)
    refine AL.go (AO.neq rfl rfl rfl (fun c35 => absurd rfl c35) (fun _ => ?_))
    refine AL.nil (AK.seqN (AC.condF rfl (AC.skip (AK.seqN (AC.seq ?_)))))
    refine AC.region (AL.go (AO.move rfl rfl ?_))
    refine AL.go (AO.loadBA rfl rfl ?_)
    have hpm := ho.lt
    have hokm : ∀ u ∈ m, TyOk u := fun u hu => (ho.mem u hu).elim (hok u) (fun e => by rw [e]; exact hto)
    refine AL.go (AO.call rfl rfl (add4_c g m hokm (oneT t) hto ho.right ho.lt ho.is (by repeat (first | exact mem0 | assumption | refine memS ?_)) (by repeat (first | exact mem0 | assumption | refine memS ?_)) (by repeat (first | exact mem0 | assumption | refine memS ?_)) (fun a45 k45 c45 => ?_)))
    refine AL.go (AO.move rfl rfl (AL.go (AO.extract rfl rfl rfl (AL.go (AO.extract rfl rfl rfl (AL.go (AO.extract rfl rfl rfl (AL.go (AO.assign rfl rfl (AL.go (AO.assign rfl rfl ?_)))))))))))
    refine AL.go (AO.assign rfl rfl (AL.nil (AK.seqN (AC.seq (AC.seq ?_)))))
    refine AC.draw (fun _ => false) [(b5, _, _)] (by repeat (first | exact BxIn.nil | refine BxIn.cons (by repeat (first | exact has0 | assumption | apply hasS)) ?_)) rfl (fun hx hX => ?_)
    have hpl := ho.pre.length_le
    have hml := ho.len
    have hkm := (len_of_fact (hX (fL m a30 k30 c30) (by repeat (first | exact mem0 | assumption | refine memS ?_))))
    have hkl := (len_of_fact (hX (fL (fewT l 60) a24 k24 c24) (by repeat (first | exact mem0 | assumption | refine memS ?_))))
    obtain ⟨hkm1, hkm2⟩ := hkm
    obtain ⟨hkl1, hkl2⟩ := hkl
    obtain ⟨p1, o1, rfl, at1⟩ := row_of_fact (hX (fL m a30 k30 c30) (by repeat (first | exact mem0 | assumption | refine memS ?_))) ho.lt
    obtain ⟨w1, x1, y1, w2, x2, y2, hv1, hw1, hw2⟩ := ty_cells at1
    subst hkm1 hkl1
    refine AH.fact hw1 (by repeat (first | exact mem0 | assumption | refine memS ?_)) (AH.fact hw2 (by repeat (first | exact mem0 | assumption | refine memS ?_)) ?_)
    refine AH.weak (Sub.prefixed ho.pre (show fL m (some ⟨p1, o1, none⟩) _ c30 ∈ _ from (by repeat (first | exact mem0 | assumption | refine memS ?_))) (by omega)) ?_
    refine AH.takeW (i := 0) rfl (Y.move rfl) (by kernel_rfl) rfl rfl ?_
    refine AH.takeB (i := 1) rfl (Y.neq rfl rfl) (by kernel_rfl) rfl rfl (fun c50 => absurd rfl (ne_of_bne c50)) (fun _ => ?_)
    refine AH.takeW (i := 2) rfl (Y.move rfl) (by kernel_rfl) rfl rfl ?_
    refine AH.takeW (i := 3) rfl (Y.move rfl) (by kernel_rfl) rfl rfl ?_
    refine AH.takeW (i := 4) rfl (Y.move rfl) (by kernel_rfl) rfl rfl ?_
    refine AH.takeB (i := 5) rfl (Y.neq rfl rfl) (by kernel_rfl) rfl rfl (fun c54 => absurd rfl (ne_of_bne c54)) (fun _ => ?_)
    refine AH.takeW (i := 6) rfl (Y.pickF rfl rfl) (by kernel_rfl) rfl rfl ?_
    refine AH.takeW (i := 7) rfl (Y.move rfl) (by kernel_rfl) rfl rfl ?_
    refine AH.takeW (i := 8) rfl (Y.move rfl) (by kernel_rfl) rfl rfl ?_
    refine AH.takeW (i := 9) rfl (Y.move rfl) (by kernel_rfl) rfl rfl ?_
    refine AH.one (i := 10) (by kernel_rfl) rfl rfl (fun _ => ?_)
    refine AO.call rfl rfl (ref_Arenas_c m m (fun _ => ?_) (fun c59 => absurd rfl c59) (by repeat (first | exact mem0 | assumption | refine memS ?_)) (by repeat (first | exact mem0 | assumption | refine memS ?_)))
    refine AT.held (by repeat (first | exact BxIn.nil | refine BxIn.cons (by repeat (first | exact has0 | assumption | apply hasS)) ?_)) (by repeat (first | exact mem0 | refine memS ?_)) ?_
    refine AH.takeW (i := 11) rfl (Y.not rfl) (by kernel_rfl) rfl rfl ?_
    refine AH.takeW (i := 12) rfl (Y.pickF rfl rfl) (by kernel_rfl) rfl rfl ?_
    refine AH.takeW (i := 13) rfl (Y.move rfl) (by kernel_rfl) rfl rfl ?_
    refine AH.takeW (i := 14) rfl (Y.move rfl) (by kernel_rfl) rfl rfl ?_
    refine AH.one (i := 15) (by kernel_rfl) rfl rfl (fun _ => ?_)
    refine AO.call rfl rfl (right_c g m hokm (by repeat (first | exact mem0 | assumption | refine memS ?_)) (fun _ => ?_) (fun c64 => absurd ho.right c64))
    refine AT.held (by repeat (first | exact BxIn.nil | refine BxIn.cons (by repeat (first | exact has0 | assumption | apply hasS)) ?_)) (by repeat (first | exact mem0 | refine memS ?_)) ?_
    refine AH.takeW (i := 16) rfl (Y.not rfl) (by kernel_rfl) rfl rfl ?_
    refine AH.takeW (i := 17) rfl (Y.pickF rfl rfl) (by kernel_rfl) rfl rfl ?_
    refine AH.takeW (i := 18) rfl (Y.move rfl) (by kernel_rfl) rfl rfl ?_
    refine AH.takeW (i := 19) rfl (Y.move rfl) (by kernel_rfl) rfl rfl ?_
    refine AH.takeW (i := 20) rfl (Y.lenV rfl) (by kernel_rfl) rfl rfl ?_
    refine AH.takeW (i := 21) rfl (Y.move rfl) (by kernel_rfl) rfl rfl ?_
    refine AH.takeW (i := 22) rfl (Y.lenV rfl) (by kernel_rfl) rfl rfl ?_
    refine AH.takeW (i := 23) rfl (Y.add rfl rfl (by omega) (by omega)) (by kernel_rfl) rfl rfl ?_
    refine AH.takeB (i := 24) rfl (Y.gtr rfl rfl) (by kernel_rfl) rfl rfl (fun c73 => absurd (of_decide_eq_true c73) (by omega)) (fun _ => ?_)
    refine AH.takeW (i := 25) rfl (Y.pickF rfl rfl) (by kernel_rfl) rfl rfl ?_
    refine AH.takeW (i := 26) rfl (Y.move rfl) (by kernel_rfl) rfl rfl ?_
    refine AH.takeW (i := 27) rfl (Y.move rfl) (by kernel_rfl) rfl rfl ?_
    refine AH.takeW (i := 28) rfl (Y.move rfl) (by kernel_rfl) rfl rfl ?_
    refine AH.takeW (i := 29) rfl (Y.lenV rfl) (by kernel_rfl) rfl rfl ?_
    refine AH.takeW (i := 30) rfl (Y.sliceH rfl rfl rfl (by omega)) (by kernel_rfl) rfl rfl ?_
    refine AH.takeW (i := 31) rfl (Y.move rfl) (by kernel_rfl) rfl rfl ?_
    refine AH.one (i := 32) (by kernel_rfl) rfl rfl (fun _ => ?_)
    refine AO.call rfl rfl (ref_Arenas_c (fewT l 60) (fewT l 60) (fun _ => ?_) (fun c81 => absurd rfl c81) (by repeat (first | exact mem0 | assumption | refine memS ?_)) (by repeat (first | exact mem0 | assumption | refine memS ?_)))
    refine AT.held (by repeat (first | exact BxIn.nil | refine BxIn.cons (by repeat (first | exact has0 | assumption | apply hasS)) ?_)) (by repeat (first | exact mem0 | refine memS ?_)) ?_
    refine AH.takeW (i := 33) rfl (Y.not rfl) (by kernel_rfl) rfl rfl ?_
    refine AH.takeW (i := 34) rfl (Y.pickF rfl rfl) (by kernel_rfl) rfl rfl ?_
    refine AH.takeW (i := 35) rfl (Y.move rfl) (by kernel_rfl) rfl rfl ?_
    refine AH.takeW (i := 36) rfl (Y.move rfl) (by kernel_rfl) rfl rfl ?_
    refine AH.takeW (i := 37) rfl (Y.move rfl) (by kernel_rfl) rfl rfl ?_
    refine AH.takeW (i := 38) rfl (Y.indexAddr (k := p) rfl rfl rfl ho.lt) (by kernel_rfl) rfl rfl ?_
    refine AH.takeS (i := 39) rfl (Y.loadFA rfl rfl hv1) (by kernel_rfl) (by kernel_rfl) rfl rfl rfl ?_
    refine AH.takeS (i := 40) rfl (Y.loadBA rfl (by repeat (first | exact List.Mem.head _ | refine List.Mem.tail _ ?_)) (by rfl)) (by kernel_rfl) (by kernel_rfl) rfl rfl rfl ?_
    refine AH.one (i := 41) (by kernel_rfl) rfl rfl (fun _ => ?_)
    refine AO.call rfl rfl (ref_Like_c m[p] (oneT t) (fun _ => ?_) (fun c90 => absurd ho.is c90) (by repeat (first | exact mem0 | assumption | refine memS ?_)) (by repeat (first | exact mem0 | assumption | refine memS ?_)) (by repeat (first | exact mem0 | assumption | refine memS ?_)) (by repeat (first | exact mem0 | assumption | refine memS ?_)))
    refine AT.held (by repeat (first | exact BxIn.nil | refine BxIn.cons (by repeat (first | exact has0 | assumption | apply hasS)) ?_)) (by repeat (first | exact mem0 | refine memS ?_)) ?_
    refine AH.takeW (i := 42) rfl (Y.not rfl) (by kernel_rfl) rfl rfl ?_
    refine AH.takeW (i := 43) rfl (Y.pickF rfl rfl) (by kernel_rfl) rfl rfl ?_
    refine AH.takeW (i := 44) rfl (Y.move rfl) (by kernel_rfl) rfl rfl ?_
    refine AH.one (i := 45) (by kernel_rfl) rfl rfl (fun _ => ?_)
    refine AO.call rfl rfl (alive_c g ?_)
    refine AT.held (by repeat (first | exact BxIn.nil | refine BxIn.cons (by repeat (first | exact has0 | assumption | apply hasS)) ?_)) (by repeat (first | exact mem0 | refine memS ?_)) ?_
    refine AH.takeW (i := 46) rfl (Y.not rfl) (by kernel_rfl) rfl rfl ?_
    refine AH.takeW (i := 47) rfl (Y.pickF rfl rfl) (by kernel_rfl) rfl rfl ?_
    refine AH.done (by kernel_rfl) ?_
    refine AK.seqN (AC.condF rfl (AC.skip (AK.seqN (AC.seq ?_))))
    refine AC.draw (fun _ => false) [] (by repeat (first | exact BxIn.nil | refine BxIn.cons (by repeat (first | exact has0 | assumption | apply hasS)) ?_)) rfl (fun hx hX => ?_)
    have h22 := ho.left.1
    obtain ⟨hi1, hi2, hi3, hi4⟩ := mod_in i (n := m.length) (by omega)
    obtain ⟨hj1, hj2, hj3, hj4⟩ := mod_in j (n := m.length) (by omega)
    have h400 := ho.right.2.1
    refine AH.takeW (i := 0) rfl (Y.move rfl) (by kernel_rfl) rfl rfl ?_
    refine AH.takeW (i := 1) rfl (Y.move rfl) (by kernel_rfl) rfl rfl ?_
    refine AH.takeW (i := 2) rfl (Y.lenV rfl) (by kernel_rfl) rfl rfl ?_
    refine AH.takeW (i := 3) rfl (Y.rem rfl rfl (by omega)) (by kernel_rfl) rfl rfl ?_
    refine AH.takeW (i := 4) rfl (Y.move rfl) (by kernel_rfl) rfl rfl ?_
    refine AH.takeW (i := 5) rfl (Y.lenV rfl) (by kernel_rfl) rfl rfl ?_
    refine AH.takeW (i := 6) rfl (Y.add rfl rfl (by omega) (by omega)) (by kernel_rfl) rfl rfl ?_
    refine AH.takeW (i := 7) rfl (Y.move rfl) (by kernel_rfl) rfl rfl ?_
    refine AH.takeW (i := 8) rfl (Y.lenV rfl) (by kernel_rfl) rfl rfl ?_
    refine AH.takeW (i := 9) rfl (Y.rem rfl rfl (by omega)) (by kernel_rfl) rfl rfl ?_
    refine AH.takeW (i := 10) rfl (Y.move rfl) (by kernel_rfl) rfl rfl ?_
    refine AH.takeW (i := 11) rfl (Y.move rfl) (by kernel_rfl) rfl rfl ?_
    refine AH.takeW (i := 12) rfl (Y.lenV rfl) (by kernel_rfl) rfl rfl ?_
    refine AH.takeW (i := 13) rfl (Y.rem rfl rfl (by omega)) (by kernel_rfl) rfl rfl ?_
    refine AH.takeW (i := 14) rfl (Y.move rfl) (by kernel_rfl) rfl rfl ?_
    refine AH.takeW (i := 15) rfl (Y.lenV rfl) (by kernel_rfl) rfl rfl ?_
    refine AH.takeW (i := 16) rfl (Y.add rfl rfl (by omega) (by omega)) (by kernel_rfl) rfl rfl ?_
    refine AH.takeW (i := 17) rfl (Y.move rfl) (by kernel_rfl) rfl rfl ?_
    refine AH.takeW (i := 18) rfl (Y.lenV rfl) (by kernel_rfl) rfl rfl ?_
    refine AH.takeW (i := 19) rfl (Y.rem rfl rfl (by omega)) (by kernel_rfl) rfl rfl ?_
    refine AH.takeW (i := 20) rfl (Y.assign rfl) (by kernel_rfl) rfl rfl ?_
    refine AH.takeW (i := 21) rfl (Y.assign rfl) (by kernel_rfl) rfl rfl ?_
    refine AH.done (by kernel_rfl) ?_
    refine AK.seqN (AC.seq (AC.region (AL.go (AO.move rfl rfl (AL.go (AO.move rfl rfl (AL.go (AO.move rfl rfl ?_))))))))
    refine AL.go (AO.move rfl rfl ?_)
    obtain ⟨u, hu⟩ : ∃ u : Nat, (i.tmod (m.length : Int) + (m.length : Int)).tmod (m.length : Int) = (u : Int) := ⟨_, (Int.toNat_of_nonneg hi3).symm⟩
    obtain ⟨v, hv⟩ : ∃ v : Nat, (j.tmod (m.length : Int) + (m.length : Int)).tmod (m.length : Int) = (v : Int) := ⟨_, (Int.toNat_of_nonneg hj3).symm⟩
    rw [hu] at hi4
    rw [hv] at hj4
    rw [hu, hv]
    refine AL.go (AO.call rfl rfl (psame_c g m hokm ho.right u v (by omega) (by omega) (by repeat (first | exact mem0 | assumption | refine memS ?_)) ?_))
    refine AL.go (AO.move rfl rfl (AL.go (AO.extract rfl rfl rfl (AL.go (AO.extract rfl rfl rfl (AL.go (AO.assign rfl rfl (AL.go (AO.assign rfl rfl (AL.nil ?_))))))))))
    refine AK.seqN (AC.seq (AC.region (AL.go (AO.move rfl rfl (AL.go (AO.move rfl rfl ?_))))))
    have hTm := texts_are ho.right
    have hTl := texts_are ho.left
    refine AL.go (AO.call rfl rfl (ptext2_c g m hokm ho.right _ hTm (u : Int) (by omega) (by omega) (by repeat (first | exact mem0 | assumption | refine memS ?_)) (fun c128 => ?_) (fun c128 => ?_)))
    · refine AL.go (AO.move rfl rfl (AL.go (AO.extract rfl rfl rfl (AL.go (AO.extract rfl rfl rfl (AL.go (AO.assign rfl rfl (AL.go (AO.assign rfl rfl (AL.nil ?_))))))))))
      refine AK.seqN (AC.seq (AC.region (AL.go (AO.move rfl rfl (AL.go (AO.move rfl rfl (AL.go (AO.move rfl rfl ?_))))))))
      refine AL.go (AO.len rfl rfl (fun hl135 => ?_) (enc := eTy) (lst := fewT l 60) (hm := (by repeat (first | exact mem0 | assumption | refine memS ?_))))
      refine AL.go (AO.rem rfl rfl (by omega) rfl ?_)
      rw [mod_nat]
      have hpl2 : u % (fewT l 60).length < (fewT l 60).length := Nat.mod_lt _ (by omega)
      have hpe := texts_pre ho.left hTl hTm ho.pre _ hpl2
      have hpn := congrArg List.length hpe
      refine AL.go (AO.call rfl rfl (ptext2_c g (fewT l 60) hok ho.left _ hTl _ (by omega) (by omega) (by repeat (first | exact mem0 | assumption | refine memS ?_)) (fun c137 => ?_) (fun c137 => ?_)))
      · refine AL.go (AO.move rfl rfl (AL.go (AO.extract rfl rfl rfl (AL.go (AO.extract rfl rfl rfl (AL.go (AO.assign rfl rfl (AL.go (AO.assign rfl rfl (AL.nil ?_))))))))))
        refine AK.seqN (AC.seq (AC.region (AL.go (AO.move rfl rfl (AL.go (AO.move rfl rfl (AL.go (AO.move rfl rfl ?_))))))))
        refine AL.go (AO.len rfl rfl (fun hl144 => ?_) (enc := eTy) (lst := fewT l 60) (hm := (by repeat (first | exact mem0 | assumption | refine memS ?_))))
        refine AL.go (AO.rem rfl rfl (by omega) rfl ?_)
        rw [mod_nat]
        refine AL.go (AO.call rfl rfl (ptext2_c g m hokm ho.right _ hTm _ (by omega) (by omega) (by repeat (first | exact mem0 | assumption | refine memS ?_)) (fun c146 => ?_) (fun c146 => absurd c146 (by omega))))
        refine AL.go (AO.move rfl rfl (AL.go (AO.extract rfl rfl rfl (AL.go (AO.extract rfl rfl rfl (AL.go (AO.assign rfl rfl (AL.go (AO.assign rfl rfl (AL.nil ?_))))))))))
        refine AK.seqN (AC.seq (AC.region (AL.go (AO.move rfl rfl ?_))))
        refine AL.go (AO.eql rfl rfl rfl (fun _ => ?_) (fun c150 => absurd rfl c150))
        refine AL.go (AO.move rfl rfl (AL.yes rfl rfl (AO.move rfl rfl (AL.yes rfl rfl (AO.move rfl rfl (AL.yes rfl rfl (AO.move rfl rfl ?_)))))))
        refine AL.yes rfl rfl (AO.eql rfl rfl rfl (fun c155 => ?_) (fun c155 => ?_))
        · have e156 : decide (u = v) = true := decide_eq_true (by omega)
          rw [e156]
          refine AL.yes rfl rfl (AO.eqlB rfl rfl rfl ?_)
          refine AL.go (AO.pickT rfl rfl rfl (AL.go (AO.move rfl rfl (AL.yes rfl rfl (AO.move rfl rfl ?_)))))
          refine AL.yes rfl rfl (AO.eql rfl rfl rfl (fun c160 => absurd c160 (by decide)) (fun _ => ?_))
          refine AL.yes rfl rfl (AO.move rfl rfl (AL.yes rfl rfl (AO.move rfl rfl ?_)))
          refine AL.yes rfl rfl (AO.eql rfl rfl rfl (fun _ => ?_) (fun c163 => absurd rfl c163))
          refine AL.yes rfl rfl (AO.pickF rfl rfl rfl (AL.go (AO.pickT rfl rfl rfl (AL.go (AO.move rfl rfl (AL.yes rfl rfl (AO.move rfl rfl (AL.yes rfl rfl (AO.move rfl rfl ?_)))))))))
          refine AL.yes rfl rfl (AO.eql rfl rfl rfl (fun _ => ?_) (fun c169 => absurd rfl c169))
          refine AL.go (AO.pickT rfl rfl rfl (AL.go (AO.move rfl rfl (AL.yes rfl rfl (AO.move rfl rfl (AL.yes rfl rfl (AO.move rfl rfl ?_)))))))
          refine AL.yes rfl rfl (AO.eqlS rfl rfl rfl (fun _ => ?_) (fun c174 => absurd rfl c174))
          refine AL.go (AO.pickT rfl rfl rfl (AL.go (AO.move rfl rfl (AL.yes rfl rfl (AO.move rfl rfl ?_)))))
          refine AL.yes rfl rfl (AO.neq rfl rfl rfl (fun _ => ?_) (fun c178 => absurd c178 (by decide)))
          refine AL.yes rfl rfl (AO.move rfl rfl (AL.no rfl rfl rfl rfl (AL.no rfl rfl rfl rfl (AL.yes rfl rfl (AO.pickT rfl rfl rfl (AL.go (AO.pickT rfl rfl rfl (AL.go (AO.assign rfl rfl ?_)))))))))
          refine AL.nil (AK.seqN (AC.ret ?_))
          exact AK.ret (L' := L) (F' := F) Tryd.results5 rfl (by repeat (first | exact Sub.refl _ _ | refine Sub.trans Sub.drop ?_ | refine Sub.trans Sub.dropF ?_)) h
        · have e156 : decide (u = v) = false := decide_eq_false (by omega)
          rw [e156]
          refine AL.yes rfl rfl (AO.eqlB rfl rfl rfl ?_)
          refine AL.go (AO.pickT rfl rfl rfl (AL.go (AO.move rfl rfl (AL.yes rfl rfl (AO.move rfl rfl ?_)))))
          refine AL.yes rfl rfl (AO.eql rfl rfl rfl (fun c160 => absurd c160 (by decide)) (fun _ => ?_))
          refine AL.yes rfl rfl (AO.move rfl rfl (AL.yes rfl rfl (AO.move rfl rfl ?_)))
          refine AL.yes rfl rfl (AO.eql rfl rfl rfl (fun _ => ?_) (fun c163 => absurd rfl c163))
          refine AL.yes rfl rfl (AO.pickF rfl rfl rfl (AL.go (AO.pickT rfl rfl rfl (AL.go (AO.move rfl rfl (AL.yes rfl rfl (AO.move rfl rfl (AL.yes rfl rfl (AO.move rfl rfl ?_)))))))))
          refine AL.yes rfl rfl (AO.eql rfl rfl rfl (fun _ => ?_) (fun c169 => absurd rfl c169))
          refine AL.go (AO.pickT rfl rfl rfl (AL.go (AO.move rfl rfl (AL.yes rfl rfl (AO.move rfl rfl (AL.yes rfl rfl (AO.move rfl rfl ?_)))))))
          refine AL.yes rfl rfl (AO.eqlS rfl rfl rfl (fun _ => ?_) (fun c174 => absurd rfl c174))
          refine AL.go (AO.pickT rfl rfl rfl (AL.go (AO.move rfl rfl (AL.yes rfl rfl (AO.move rfl rfl ?_)))))
          refine AL.yes rfl rfl (AO.neq rfl rfl rfl (fun _ => ?_) (fun c178 => absurd c178 (by decide)))
          refine AL.yes rfl rfl (AO.move rfl rfl (AL.no rfl rfl rfl rfl (AL.no rfl rfl rfl rfl (AL.yes rfl rfl (AO.pickT rfl rfl rfl (AL.go (AO.pickT rfl rfl rfl (AL.go (AO.assign rfl rfl ?_)))))))))
          refine AL.nil (AK.seqN (AC.ret ?_))
          exact AK.ret (L' := L) (F' := F) Tryd.results5 rfl (by repeat (first | exact Sub.refl _ _ | refine Sub.trans Sub.drop ?_ | refine Sub.trans Sub.dropF ?_)) h
      · refine AL.go (AO.move rfl rfl (AL.go (AO.extract rfl rfl rfl (AL.go (AO.extract rfl rfl rfl (AL.go (AO.assign rfl rfl (AL.go (AO.assign rfl rfl (AL.nil ?_))))))))))
        refine AK.seqN (AC.seq (AC.region (AL.go (AO.move rfl rfl (AL.go (AO.move rfl rfl (AL.go (AO.move rfl rfl ?_))))))))
        refine AL.go (AO.len rfl rfl (fun hl144 => ?_) (enc := eTy) (lst := fewT l 60) (hm := (by repeat (first | exact mem0 | assumption | refine memS ?_))))
        refine AL.go (AO.rem rfl rfl (by omega) rfl ?_)
        rw [mod_nat]
        refine AL.go (AO.call rfl rfl (ptext2_c g m hokm ho.right _ hTm _ (by omega) (by omega) (by repeat (first | exact mem0 | assumption | refine memS ?_)) (fun c146 => absurd c146 (by omega)) (fun c146 => ?_)))
        refine AL.go (AO.move rfl rfl (AL.go (AO.extract rfl rfl rfl (AL.go (AO.extract rfl rfl rfl (AL.go (AO.assign rfl rfl (AL.go (AO.assign rfl rfl (AL.nil ?_))))))))))
        refine AK.seqN (AC.seq (AC.region (AL.go (AO.move rfl rfl ?_))))
        refine AL.go (AO.eql rfl rfl rfl (fun _ => ?_) (fun c150 => absurd rfl c150))
        refine AL.go (AO.move rfl rfl (AL.yes rfl rfl (AO.move rfl rfl (AL.yes rfl rfl (AO.move rfl rfl (AL.yes rfl rfl (AO.move rfl rfl ?_)))))))
        refine AL.yes rfl rfl (AO.eql rfl rfl rfl (fun c155 => ?_) (fun c155 => ?_))
        · have e156 : decide (u = v) = true := decide_eq_true (by omega)
          rw [e156]
          refine AL.yes rfl rfl (AO.eqlB rfl rfl rfl ?_)
          refine AL.go (AO.pickT rfl rfl rfl (AL.go (AO.move rfl rfl (AL.yes rfl rfl (AO.move rfl rfl ?_)))))
          refine AL.yes rfl rfl (AO.eql rfl rfl rfl (fun c160 => absurd c160 (by decide)) (fun _ => ?_))
          refine AL.yes rfl rfl (AO.move rfl rfl (AL.yes rfl rfl (AO.move rfl rfl ?_)))
          refine AL.yes rfl rfl (AO.eql rfl rfl rfl (fun _ => ?_) (fun c163 => absurd rfl c163))
          refine AL.yes rfl rfl (AO.pickF rfl rfl rfl (AL.go (AO.pickT rfl rfl rfl (AL.go (AO.move rfl rfl (AL.yes rfl rfl (AO.move rfl rfl (AL.yes rfl rfl (AO.move rfl rfl ?_)))))))))
          refine AL.yes rfl rfl (AO.eql rfl rfl rfl (fun _ => ?_) (fun c169 => absurd rfl c169))
          refine AL.go (AO.pickT rfl rfl rfl (AL.go (AO.move rfl rfl (AL.yes rfl rfl (AO.move rfl rfl (AL.yes rfl rfl (AO.move rfl rfl ?_)))))))
          refine AL.yes rfl rfl (AO.eqlS rfl rfl rfl (fun _ => ?_) (fun c174 => absurd hpe c174))
          refine AL.go (AO.pickT rfl rfl rfl (AL.go (AO.move rfl rfl (AL.yes rfl rfl (AO.move rfl rfl ?_)))))
          refine AL.yes rfl rfl (AO.neq rfl rfl rfl (fun _ => ?_) (fun c178 => absurd c178 (by decide)))
          refine AL.yes rfl rfl (AO.move rfl rfl (AL.no rfl rfl rfl rfl (AL.no rfl rfl rfl rfl (AL.yes rfl rfl (AO.pickT rfl rfl rfl (AL.go (AO.pickT rfl rfl rfl (AL.go (AO.assign rfl rfl ?_)))))))))
          refine AL.nil (AK.seqN (AC.ret ?_))
          exact AK.ret (L' := L) (F' := F) Tryd.results5 rfl (by repeat (first | exact Sub.refl _ _ | refine Sub.trans Sub.drop ?_ | refine Sub.trans Sub.dropF ?_)) h
        · have e156 : decide (u = v) = false := decide_eq_false (by omega)
          rw [e156]
          refine AL.yes rfl rfl (AO.eqlB rfl rfl rfl ?_)
          refine AL.go (AO.pickT rfl rfl rfl (AL.go (AO.move rfl rfl (AL.yes rfl rfl (AO.move rfl rfl ?_)))))
          refine AL.yes rfl rfl (AO.eql rfl rfl rfl (fun c160 => absurd c160 (by decide)) (fun _ => ?_))
          refine AL.yes rfl rfl (AO.move rfl rfl (AL.yes rfl rfl (AO.move rfl rfl ?_)))
          refine AL.yes rfl rfl (AO.eql rfl rfl rfl (fun _ => ?_) (fun c163 => absurd rfl c163))
          refine AL.yes rfl rfl (AO.pickF rfl rfl rfl (AL.go (AO.pickT rfl rfl rfl (AL.go (AO.move rfl rfl (AL.yes rfl rfl (AO.move rfl rfl (AL.yes rfl rfl (AO.move rfl rfl ?_)))))))))
          refine AL.yes rfl rfl (AO.eql rfl rfl rfl (fun _ => ?_) (fun c169 => absurd rfl c169))
          refine AL.go (AO.pickT rfl rfl rfl (AL.go (AO.move rfl rfl (AL.yes rfl rfl (AO.move rfl rfl (AL.yes rfl rfl (AO.move rfl rfl ?_)))))))
          refine AL.yes rfl rfl (AO.eqlS rfl rfl rfl (fun _ => ?_) (fun c174 => absurd hpe c174))
          refine AL.go (AO.pickT rfl rfl rfl (AL.go (AO.move rfl rfl (AL.yes rfl rfl (AO.move rfl rfl ?_)))))
          refine AL.yes rfl rfl (AO.neq rfl rfl rfl (fun _ => ?_) (fun c178 => absurd c178 (by decide)))
          refine AL.yes rfl rfl (AO.move rfl rfl (AL.no rfl rfl rfl rfl (AL.no rfl rfl rfl rfl (AL.yes rfl rfl (AO.pickT rfl rfl rfl (AL.go (AO.pickT rfl rfl rfl (AL.go (AO.assign rfl rfl ?_)))))))))
          refine AL.nil (AK.seqN (AC.ret ?_))
          exact AK.ret (L' := L) (F' := F) Tryd.results5 rfl (by repeat (first | exact Sub.refl _ _ | refine Sub.trans Sub.drop ?_ | refine Sub.trans Sub.dropF ?_)) h
    · refine AL.go (AO.move rfl rfl (AL.go (AO.extract rfl rfl rfl (AL.go (AO.extract rfl rfl rfl (AL.go (AO.assign rfl rfl (AL.go (AO.assign rfl rfl (AL.nil ?_))))))))))
      refine AK.seqN (AC.seq (AC.region (AL.go (AO.move rfl rfl (AL.go (AO.move rfl rfl (AL.go (AO.move rfl rfl ?_))))))))
      refine AL.go (AO.len rfl rfl (fun hl135 => ?_) (enc := eTy) (lst := fewT l 60) (hm := (by repeat (first | exact mem0 | assumption | refine memS ?_))))
      refine AL.go (AO.rem rfl rfl (by omega) rfl ?_)
      rw [mod_nat]
      have hpl2 : u % (fewT l 60).length < (fewT l 60).length := Nat.mod_lt _ (by omega)
      have hpe := texts_pre ho.left hTl hTm ho.pre _ hpl2
      have hpn := congrArg List.length hpe
      refine AL.go (AO.call rfl rfl (ptext2_c g (fewT l 60) hok ho.left _ hTl _ (by omega) (by omega) (by repeat (first | exact mem0 | assumption | refine memS ?_)) (fun c137 => ?_) (fun c137 => ?_)))
      · refine AL.go (AO.move rfl rfl (AL.go (AO.extract rfl rfl rfl (AL.go (AO.extract rfl rfl rfl (AL.go (AO.assign rfl rfl (AL.go (AO.assign rfl rfl (AL.nil ?_))))))))))
        refine AK.seqN (AC.seq (AC.region (AL.go (AO.move rfl rfl (AL.go (AO.move rfl rfl (AL.go (AO.move rfl rfl ?_))))))))
        refine AL.go (AO.len rfl rfl (fun hl144 => ?_) (enc := eTy) (lst := fewT l 60) (hm := (by repeat (first | exact mem0 | assumption | refine memS ?_))))
        refine AL.go (AO.rem rfl rfl (by omega) rfl ?_)
        rw [mod_nat]
        refine AL.go (AO.call rfl rfl (ptext2_c g m hokm ho.right _ hTm _ (by omega) (by omega) (by repeat (first | exact mem0 | assumption | refine memS ?_)) (fun c146 => ?_) (fun c146 => absurd c146 (by omega))))
        refine AL.go (AO.move rfl rfl (AL.go (AO.extract rfl rfl rfl (AL.go (AO.extract rfl rfl rfl (AL.go (AO.assign rfl rfl (AL.go (AO.assign rfl rfl (AL.nil ?_))))))))))
        refine AK.seqN (AC.seq (AC.region (AL.go (AO.move rfl rfl ?_))))
        refine AL.go (AO.eql rfl rfl rfl (fun _ => ?_) (fun c150 => absurd rfl c150))
        refine AL.go (AO.move rfl rfl (AL.yes rfl rfl (AO.move rfl rfl (AL.yes rfl rfl (AO.move rfl rfl (AL.yes rfl rfl (AO.move rfl rfl ?_)))))))
        refine AL.yes rfl rfl (AO.eql rfl rfl rfl (fun c155 => ?_) (fun c155 => ?_))
        · have e156 : decide (u = v) = true := decide_eq_true (by omega)
          rw [e156]
          refine AL.yes rfl rfl (AO.eqlB rfl rfl rfl ?_)
          refine AL.go (AO.pickT rfl rfl rfl (AL.go (AO.move rfl rfl (AL.yes rfl rfl (AO.move rfl rfl ?_)))))
          refine AL.yes rfl rfl (AO.eql rfl rfl rfl (fun _ => ?_) (fun c160 => absurd rfl c160))
          refine AL.yes rfl rfl (AO.move rfl rfl (AL.no rfl rfl rfl rfl (AL.no rfl rfl rfl rfl (AL.yes rfl rfl (AO.pickT rfl rfl rfl (AL.go (AO.pickT rfl rfl rfl (AL.go (AO.move rfl rfl ?_)))))))))
          refine AL.yes rfl rfl (AO.move rfl rfl (AL.yes rfl rfl (AO.move rfl rfl ?_)))
          refine AL.yes rfl rfl (AO.eql rfl rfl rfl (fun _ => ?_) (fun c169 => absurd rfl c169))
          refine AL.go (AO.pickT rfl rfl rfl (AL.go (AO.move rfl rfl (AL.yes rfl rfl (AO.move rfl rfl (AL.yes rfl rfl (AO.move rfl rfl ?_)))))))
          refine AL.yes rfl rfl (AO.eqlS rfl rfl rfl (fun _ => ?_) (fun c174 => absurd rfl c174))
          refine AL.go (AO.pickT rfl rfl rfl (AL.go (AO.move rfl rfl (AL.yes rfl rfl (AO.move rfl rfl ?_)))))
          refine AL.yes rfl rfl (AO.neq rfl rfl rfl (fun c178 => absurd rfl c178) (fun _ => ?_))
          refine AL.yes rfl rfl (AO.move rfl rfl (AL.yes rfl rfl (AO.move rfl rfl ?_)))
          refine AL.yes rfl rfl (AO.neqS rfl rfl rfl (fun _ => ?_) (fun c181 => absurd c181 (text_full ho.right hTm (by omega))))
          refine AL.yes rfl rfl (AO.pickF rfl rfl rfl (AL.go (AO.pickT rfl rfl rfl (AL.go (AO.assign rfl rfl (AL.nil (AK.seqN (AC.ret ?_))))))))
          exact AK.ret (L' := L) (F' := F) Tryd.results5 rfl (by repeat (first | exact Sub.refl _ _ | refine Sub.trans Sub.drop ?_ | refine Sub.trans Sub.dropF ?_)) h
        · have e156 : decide (u = v) = false := decide_eq_false (by omega)
          rw [e156]
          refine AL.yes rfl rfl (AO.eqlB rfl rfl rfl ?_)
          refine AL.go (AO.pickT rfl rfl rfl (AL.go (AO.move rfl rfl (AL.yes rfl rfl (AO.move rfl rfl ?_)))))
          refine AL.yes rfl rfl (AO.eql rfl rfl rfl (fun _ => ?_) (fun c160 => absurd rfl c160))
          refine AL.yes rfl rfl (AO.move rfl rfl (AL.no rfl rfl rfl rfl (AL.no rfl rfl rfl rfl (AL.yes rfl rfl (AO.pickT rfl rfl rfl (AL.go (AO.pickT rfl rfl rfl (AL.go (AO.move rfl rfl ?_)))))))))
          refine AL.yes rfl rfl (AO.move rfl rfl (AL.yes rfl rfl (AO.move rfl rfl ?_)))
          refine AL.yes rfl rfl (AO.eql rfl rfl rfl (fun _ => ?_) (fun c169 => absurd rfl c169))
          refine AL.go (AO.pickT rfl rfl rfl (AL.go (AO.move rfl rfl (AL.yes rfl rfl (AO.move rfl rfl (AL.yes rfl rfl (AO.move rfl rfl ?_)))))))
          refine AL.yes rfl rfl (AO.eqlS rfl rfl rfl (fun _ => ?_) (fun c174 => absurd rfl c174))
          refine AL.go (AO.pickT rfl rfl rfl (AL.go (AO.move rfl rfl (AL.yes rfl rfl (AO.move rfl rfl ?_)))))
          refine AL.yes rfl rfl (AO.neq rfl rfl rfl (fun c178 => absurd rfl c178) (fun _ => ?_))
          refine AL.yes rfl rfl (AO.move rfl rfl (AL.yes rfl rfl (AO.move rfl rfl ?_)))
          refine AL.yes rfl rfl (AO.neqS rfl rfl rfl (fun _ => ?_) (fun c181 => absurd c181 (text_full ho.right hTm (by omega))))
          refine AL.yes rfl rfl (AO.pickF rfl rfl rfl (AL.go (AO.pickT rfl rfl rfl (AL.go (AO.assign rfl rfl (AL.nil (AK.seqN (AC.ret ?_))))))))
          exact AK.ret (L' := L) (F' := F) Tryd.results5 rfl (by repeat (first | exact Sub.refl _ _ | refine Sub.trans Sub.drop ?_ | refine Sub.trans Sub.dropF ?_)) h
      · refine AL.go (AO.move rfl rfl (AL.go (AO.extract rfl rfl rfl (AL.go (AO.extract rfl rfl rfl (AL.go (AO.assign rfl rfl (AL.go (AO.assign rfl rfl (AL.nil ?_))))))))))
        refine AK.seqN (AC.seq (AC.region (AL.go (AO.move rfl rfl (AL.go (AO.move rfl rfl (AL.go (AO.move rfl rfl ?_))))))))
        refine AL.go (AO.len rfl rfl (fun hl144 => ?_) (enc := eTy) (lst := fewT l 60) (hm := (by repeat (first | exact mem0 | assumption | refine memS ?_))))
        refine AL.go (AO.rem rfl rfl (by omega) rfl ?_)
        rw [mod_nat]
        refine AL.go (AO.call rfl rfl (ptext2_c g m hokm ho.right _ hTm _ (by omega) (by omega) (by repeat (first | exact mem0 | assumption | refine memS ?_)) (fun c146 => absurd c146 (by omega)) (fun c146 => ?_)))
        refine AL.go (AO.move rfl rfl (AL.go (AO.extract rfl rfl rfl (AL.go (AO.extract rfl rfl rfl (AL.go (AO.assign rfl rfl (AL.go (AO.assign rfl rfl (AL.nil ?_))))))))))
        refine AK.seqN (AC.seq (AC.region (AL.go (AO.move rfl rfl ?_))))
        refine AL.go (AO.eql rfl rfl rfl (fun _ => ?_) (fun c150 => absurd rfl c150))
        refine AL.go (AO.move rfl rfl (AL.yes rfl rfl (AO.move rfl rfl (AL.yes rfl rfl (AO.move rfl rfl (AL.yes rfl rfl (AO.move rfl rfl ?_)))))))
        refine AL.yes rfl rfl (AO.eql rfl rfl rfl (fun c155 => ?_) (fun c155 => ?_))
        · have e156 : decide (u = v) = true := decide_eq_true (by omega)
          rw [e156]
          refine AL.yes rfl rfl (AO.eqlB rfl rfl rfl ?_)
          refine AL.go (AO.pickT rfl rfl rfl (AL.go (AO.move rfl rfl (AL.yes rfl rfl (AO.move rfl rfl ?_)))))
          refine AL.yes rfl rfl (AO.eql rfl rfl rfl (fun _ => ?_) (fun c160 => absurd rfl c160))
          refine AL.yes rfl rfl (AO.move rfl rfl (AL.no rfl rfl rfl rfl (AL.no rfl rfl rfl rfl (AL.yes rfl rfl (AO.pickT rfl rfl rfl (AL.go (AO.pickT rfl rfl rfl (AL.go (AO.move rfl rfl ?_)))))))))
          refine AL.yes rfl rfl (AO.move rfl rfl (AL.yes rfl rfl (AO.move rfl rfl ?_)))
          refine AL.yes rfl rfl (AO.eql rfl rfl rfl (fun _ => ?_) (fun c169 => absurd rfl c169))
          refine AL.go (AO.pickT rfl rfl rfl (AL.go (AO.move rfl rfl (AL.yes rfl rfl (AO.move rfl rfl (AL.yes rfl rfl (AO.move rfl rfl ?_)))))))
          refine AL.yes rfl rfl (AO.eqlS rfl rfl rfl (fun _ => ?_) (fun c174 => absurd hpe c174))
          refine AL.go (AO.pickT rfl rfl rfl (AL.go (AO.move rfl rfl (AL.yes rfl rfl (AO.move rfl rfl ?_)))))
          refine AL.yes rfl rfl (AO.neq rfl rfl rfl (fun c178 => absurd rfl c178) (fun _ => ?_))
          refine AL.yes rfl rfl (AO.move rfl rfl (AL.yes rfl rfl (AO.move rfl rfl ?_)))
          refine AL.yes rfl rfl (AO.neqS rfl rfl rfl (fun _ => ?_) (fun c181 => absurd c181 (text_full ho.right hTm (by omega))))
          refine AL.yes rfl rfl (AO.pickF rfl rfl rfl (AL.go (AO.pickT rfl rfl rfl (AL.go (AO.assign rfl rfl (AL.nil (AK.seqN (AC.ret ?_))))))))
          exact AK.ret (L' := L) (F' := F) Tryd.results5 rfl (by repeat (first | exact Sub.refl _ _ | refine Sub.trans Sub.drop ?_ | refine Sub.trans Sub.dropF ?_)) h
        · have e156 : decide (u = v) = false := decide_eq_false (by omega)
          rw [e156]
          refine AL.yes rfl rfl (AO.eqlB rfl rfl rfl ?_)
          refine AL.go (AO.pickT rfl rfl rfl (AL.go (AO.move rfl rfl (AL.yes rfl rfl (AO.move rfl rfl ?_)))))
          refine AL.yes rfl rfl (AO.eql rfl rfl rfl (fun _ => ?_) (fun c160 => absurd rfl c160))
          refine AL.yes rfl rfl (AO.move rfl rfl (AL.no rfl rfl rfl rfl (AL.no rfl rfl rfl rfl (AL.yes rfl rfl (AO.pickT rfl rfl rfl (AL.go (AO.pickT rfl rfl rfl (AL.go (AO.move rfl rfl ?_)))))))))
          refine AL.yes rfl rfl (AO.move rfl rfl (AL.yes rfl rfl (AO.move rfl rfl ?_)))
          refine AL.yes rfl rfl (AO.eql rfl rfl rfl (fun _ => ?_) (fun c169 => absurd rfl c169))
          refine AL.go (AO.pickT rfl rfl rfl (AL.go (AO.move rfl rfl (AL.yes rfl rfl (AO.move rfl rfl (AL.yes rfl rfl (AO.move rfl rfl ?_)))))))
          refine AL.yes rfl rfl (AO.eqlS rfl rfl rfl (fun _ => ?_) (fun c174 => absurd hpe c174))
          refine AL.go (AO.pickT rfl rfl rfl (AL.go (AO.move rfl rfl (AL.yes rfl rfl (AO.move rfl rfl ?_)))))
          refine AL.yes rfl rfl (AO.neq rfl rfl rfl (fun c178 => absurd rfl c178) (fun _ => ?_))
          refine AL.yes rfl rfl (AO.move rfl rfl (AL.yes rfl rfl (AO.move rfl rfl ?_)))
          refine AL.yes rfl rfl (AO.neqS rfl rfl rfl (fun _ => ?_) (fun c181 => absurd c181 (text_full ho.right hTm (by omega))))
          refine AL.yes rfl rfl (AO.pickF rfl rfl rfl (AL.go (AO.pickT rfl rfl rfl (AL.go (AO.assign rfl rfl (AL.nil (AK.seqN (AC.ret ?_))))))))
          exact AK.ret (L' := L) (F' := F) Tryd.results5 rfl (by repeat (first | exact Sub.refl _ _ | refine Sub.trans Sub.drop ?_ | refine Sub.trans Sub.dropF ?_)) h
end
end Go.Sy
