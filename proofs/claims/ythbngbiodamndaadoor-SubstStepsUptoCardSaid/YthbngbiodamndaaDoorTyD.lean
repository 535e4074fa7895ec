/- Adding a type: the walks. -/
import Derived.Test.YthbngbiodamndaaDoorTyC
import Derived.Test.YthbngbiodamndaaDoorFwQ
namespace Go.Sy
open Go Go.Proofs Go.RowKit

theorem eTy_one : ∀ (x : Ty) (d : D), d ∈ eTy x → ∀ v, d = .val v → oneC v = true := by
  intro x d hd v hv
  subst hv
  simp only [List.mem_cons, D.val.injEq, List.not_mem_nil, or_false, reduceCtorEq] at hd
  rcases hd with rfl | rfl | rfl <;> rfl
/-- A key's cells. -/
abbrev cKey (k : Key) : Array Value := #[.int .i64 k.kind, .int .i64 k.n, S k.name, S k.words, S k.kids, S k.lengths]

attribute [local irreducible] AC AT AO AK AH ACalls Sub Res.cells Res.obj Res.nix Res.own Res.map Exit.then Exit.inBlock bodyPost Code.wp Next Post Kont
section
variable {W0 : World} {L : List Res} {F : List Fact} {R : Value → List Res → List Fact → Prop}
theorem Y.eqlK {n : Nat} {ρ : Rho} {T : World → Prop} {a b : Key} {x y : Operand} {d : Option Tmp} {yt ty : TypeId} {pos : String} {af : Array Edge} {g : Option (Nat × Bool)} (hx : ev ρ x = some (vKey a)) (hy : ev ρ y = some (vKey b)) : Yd Tryd.prog n ρ T ⟨d, .binOp .eql 53 x y yt, ty, pos, af, g⟩ (.bool (keyB a b)) := ⟨fun s w st _ => by
  simp only [execOp, ev_eval st hx, ev_eval st hy, Sem.run_bind, run_eqGuard_agg w _ _ _ _ _ _ key_guard, run_eql_struct, key_equalIn, Result.andThen, Sem.run_pure]⟩
set_option maxRecDepth 100000
set_option maxHeartbeats 4000000
/-- What a function value tells of a type. -/
def TellsT (W0 : World) (L : List Res) (F : List Fact) (g : FuncId) (cs : List Value) (p : Ty → Prop) : Prop :=
  ∀ (t : Ty) (_ : TyOk t) (a1 : Option Addr) (k1 c1 : Nat) (a2 : Option Addr) (k2 c2 : Nat) (F' : List Fact) (_ : ∀ f ∈ F, f ∈ F') (_ : fW t a1 k1 c1 ∈ F') (_ : fK t a2 k2 c2 ∈ F') (R : Value → List Res → List Fact → Prop), (p t → R (.bool true) L F') → (¬ p t → R (.bool false) L F') → ACalls Tryd.prog W0 g ([vTy t a1 k1 c1 a2 k2 c2] ++ cs).toArray L F' R
theorem add1_c (g : Glob W0) (t : Ty) (ht : TyOk t) (K : Key) {ty : TypeId} {b : Nat} {a1 a2 : Option Addr} {k1 c1 k2 c2 : Nat} (m1 : fW t a1 k1 c1 ∈ F) (m2 : fK t a2 k2 c2 ∈ F) (hT : keyT t = K → R (.bool true) (Res.cells b (cKey K) ty :: L) F) (hF : keyT t ≠ K → R (.bool false) (Res.cells b (cKey K) ty :: L) F) :
    ACalls Tryd.prog W0 30 #[vTy t a1 k1 c1 a2 k2 c2, .pointer (some ⟨b, 0, none⟩)] (Res.cells b (cKey K) ty :: L) F R := by
  refine ACalls.body Tryd.func30 rfl Tryd.ntmps30 rfl ?_
  refine AC.seq (AC.region (AL.go (AO.box rfl rfl (fun b2 => ?_))))
  refine AL.go (AO.assign rfl rfl (AL.nil (AK.seqN (AC.seq ?_))))
  refine AC.draw (fun _ => false) [(b2, _, _), (b, _, _)] (by repeat (first | exact BxIn.nil | refine BxIn.cons (by repeat (first | exact has0 | assumption | apply hasS)) ?_)) rfl (fun hx hX => ?_)
  refine AH.takeS (i := 0) rfl (Y.loadBA rfl (by repeat (first | exact List.Mem.head _ | refine List.Mem.tail _ ?_)) (by rfl)) (by kernel_rfl) (by kernel_rfl) rfl rfl rfl ?_
  refine AH.takeS (i := 2) rfl (Y.loadBA rfl (by repeat (first | exact List.Mem.head _ | refine List.Mem.tail _ ?_)) (by rfl)) (by kernel_rfl) (by kernel_rfl) rfl rfl rfl ?_
  refine AH.one (i := 1) (by kernel_rfl) rfl rfl (fun _ => ?_)
  refine AO.call rfl rfl (keyOf_c g t ht (by repeat (first | exact mem0 | assumption | refine memS ?_)) (by repeat (first | exact mem0 | assumption | refine memS ?_)) ?_)
  refine AT.held (by repeat (first | exact BxIn.nil | refine BxIn.cons (by repeat (first | exact has0 | assumption | apply hasS)) ?_)) (by repeat (first | exact mem0 | refine memS ?_)) ?_
  refine AH.takeB (i := 3) rfl (Y.eqlK (b := K) rfl rfl) (by kernel_rfl) rfl rfl (fun c7 => ?_) (fun c7 => ?_)
  · refine AH.takeW (i := 4) rfl (Y.assign rfl) (by kernel_rfl) rfl rfl ?_
    refine AH.done (by kernel_rfl) ?_
    refine AK.seqN (AC.ret ?_)
    first | exact AK.ret (L' := Res.cells b (cKey K) ty :: L) (F' := F) Tryd.results30 rfl (Sub.drop.trans (by repeat (first | exact Sub.refl _ _ | refine Sub.trans Sub.dropF ?_))) (hT ((keyB_iff _ _).1 c7)) | exact AK.ret (L' := Res.cells b (cKey K) ty :: L) (F' := F) Tryd.results30 rfl (Sub.drop.trans (by repeat (first | exact Sub.refl _ _ | refine Sub.trans Sub.dropF ?_))) (hF (fun e => by rw [(keyB_iff _ _).2 e] at c7; exact absurd c7 (by decide)))
  · refine AH.takeW (i := 4) rfl (Y.assign rfl) (by kernel_rfl) rfl rfl ?_
    refine AH.done (by kernel_rfl) ?_
    refine AK.seqN (AC.ret ?_)
    first | exact AK.ret (L' := Res.cells b (cKey K) ty :: L) (F' := F) Tryd.results30 rfl (Sub.drop.trans (by repeat (first | exact Sub.refl _ _ | refine Sub.trans Sub.dropF ?_))) (hT ((keyB_iff _ _).1 c7)) | exact AK.ret (L' := Res.cells b (cKey K) ty :: L) (F' := F) Tryd.results30 rfl (Sub.drop.trans (by repeat (first | exact Sub.refl _ _ | refine Sub.trans Sub.dropF ?_))) (hF (fun e => by rw [(keyB_iff _ _).2 e] at c7; exact absurd c7 (by decide)))
theorem indexFuncT_c (l : List Ty) (hok0 : ∀ t ∈ l, TyOk t) {a : Option Addr} {k c : Nat} (m1 : fL l a k c ∈ F) (g : FuncId) [FnT Tryd.prog g] (cs : List Value) (p : Ty → Prop) (hg : TellsT W0 L F g cs p)
    (hT : ∀ (j : Nat) (hj : j < l.length), p l[j] → R (.int .i64 (j : Int)) L F) (hF : (∀ j (hj : j < l.length), ¬ p l[j]) → R (.int .i64 (-1)) L F) : ACalls Tryd.prog W0 29 #[.slice a k c, .func (.func g) #[] cs.toArray] L F R := by
  refine ACalls.body Tryd.func29 rfl Tryd.ntmps29 rfl ?_
  refine AC.seq (AC.region (AL.go (AO.assign rfl rfl (AL.nil (AK.seqN (AC.seq ?_))))))
  refine AC.seq (AC.region (AL.go (AO.move rfl rfl ?_)))
  refine AL.go (AO.len rfl rfl (fun hl7 => ?_) (hm := by repeat (first | exact mem0 | assumption | refine memS ?_)))
  refine AL.go (AO.move rfl rfl (AL.nil (AK.seqN (AC.block ?_))))
  refine AC.loopC (fun (q : Nat) => q ≤ l.length ∧ ∀ j (hj : j < l.length), j < q → ¬ p l[j]) (fun q => [(0, .slice a k c), (1, .func (.func g) #[] cs.toArray), (7, .int .i64 l.length), (8, .int .i64 (q : Int))]) (fun q => l.length - q) 0 ⟨by omega, by omega⟩ (by repeat (first | exact SubR.nil | refine SubR.cons rfl ?_)) ?_
  rintro q ⟨hq, hok⟩
  refine AC.seq (AC.region ?_)
  refine AL.go (AO.lss rfl rfl rfl (fun c9 => ?_) (fun c9 => ?_))
  · refine AL.nil (AK.seqN (AC.seq (AC.condT rfl (AC.skip (AK.seqN ?_)))))
    refine AC.seq (AC.block (AC.seq (AC.region (AL.go (AO.move rfl rfl (AL.go (AO.assign rfl rfl ?_)))))))
    refine AL.nil (AK.seqN (AC.seq (AC.region (AL.go (AO.move rfl rfl (AL.go (AO.move rfl rfl ?_)))))))
    refine AL.go (AO.move rfl rfl ?_)
    have hql : q < l.length := by omega
    refine AL.go (AO.indexAddr rfl rfl rfl rfl (by repeat (first | exact mem0 | assumption | refine memS ?_)) hql (fun _ _ => ?_))
    refine AL.go (AO.loadFA rfl rfl ?_)
    intro a15 k15 z15 d15 e15 f15
    refine AL.go (AO.callC rfl rfl rfl (hg l[q] (hok0 _ (List.getElem_mem hql)) _ _ _ _ _ _ _ (fun f hf => List.mem_cons_of_mem _ (List.mem_cons_of_mem _ (List.mem_cons_of_mem _ hf))) (by repeat (first | exact mem0 | assumption | refine memS ?_)) (by repeat (first | exact mem0 | assumption | refine memS ?_)) _ (fun c16 => ?_) (fun c16 => ?_)))
    · refine AL.nil (AK.seqN (AC.condT rfl (AC.seq (AC.region (AL.go (AO.move rfl rfl ?_))))))
      refine AL.go (AO.assign rfl rfl (AL.nil (AK.seqN (AC.ret (AK.blkR (AK.seqR ?_))))))
      refine AK.seqR (AK.blkR (AK.seqR ?_))
      first | exact AK.ret (L' := L) (F' := F) Tryd.results29 rfl (by repeat (first | exact Sub.refl _ _ | refine Sub.trans Sub.dropF ?_)) (hT q hql c16) | exact AK.ret (L' := L) (F' := F) Tryd.results29 rfl (by repeat (first | exact Sub.refl _ _ | refine Sub.trans Sub.dropF ?_)) (hF (fun j hj => hok j hj (by omega)))
    · refine AL.nil (AK.seqN (AC.condF rfl (AC.skip (AK.blkN (AK.seqN ?_)))))
      refine AC.region (AL.go (AO.add rfl rfl rfl (by omega) (by omega) (AL.go (AO.move rfl rfl (AL.nil ?_)))))
      refine AK.next (q + 1) ⟨by omega, fun j hj hjq => ?_⟩ (by omega) (by repeat (first | exact SubR.nil | refine SubR.cons rfl ?_)) (by repeat (first | exact Sub.refl _ _ | refine Sub.trans Sub.dropF ?_))
      rcases Nat.lt_succ_iff_lt_or_eq.1 hjq with k9 | rfl
      · exact hok j hj k9
      · exact c16
  · refine AL.nil (AK.seqN (AC.seq (AC.condF rfl (AC.exit (AK.seqX ?_)))))
    refine AK.seqX (AK.blkX (AK.seqN (AC.seq (AC.region (AL.go (AO.assign rfl rfl ?_))))))
    refine AL.nil (AK.seqN (AC.ret ?_))
    first | exact AK.ret (L' := L) (F' := F) Tryd.results29 rfl (by repeat (first | exact Sub.refl _ _ | refine Sub.trans Sub.dropF ?_)) (hT q hql c16) | exact AK.ret (L' := L) (F' := F) Tryd.results29 rfl (by repeat (first | exact Sub.refl _ _ | refine Sub.trans Sub.dropF ?_)) (hF (fun j hj => hok j hj (by omega)))
theorem clipT_c (l : List Ty) (h0 : 0 < l.length) {a : Option Addr} {k c : Nat} (m1 : fL l a k c ∈ F) (h : ∀ ad, R (.slice (some ad) l.length l.length) L (fL l (some ad) l.length l.length :: F)) : ACalls Tryd.prog W0 31 #[.slice a k c] L F R := by
  refine ACalls.body Tryd.func31 rfl Tryd.ntmps31 rfl ?_
  refine AC.seq (AC.region (AL.go (AO.assign rfl rfl (AL.nil (AK.seqN (AC.seq ?_))))))
  refine AC.region (AL.go (AO.move rfl rfl (AL.go (AO.move rfl rfl ?_))))
  refine AL.go (AO.len rfl rfl (fun hl5 => ?_) (hm := by repeat (first | exact mem0 | assumption | refine memS ?_)))
  refine AL.go (AO.move rfl rfl ?_)
  refine AL.go (AO.len rfl rfl (fun hl7 => ?_) (hm := by repeat (first | exact mem0 | assumption | refine memS ?_)))
  refine AL.go (AO.sliceHM (j' := l.length) (m' := l.length) rfl rfl rfl rfl rfl rfl (enc := eTy) (lst := l) (by repeat (first | exact mem0 | assumption | refine memS ?_)) (by omega) (by omega) h0 (fun ad => ?_))
  rw [List.take_length]
  refine AL.go (AO.assign rfl rfl (AL.nil (AK.seqN (AC.ret ?_))))
  exact AK.ret Tryd.results31 rfl (Sub.refl _ _) (h _)
theorem add_c (g : Glob W0) (l : List Ty) (hok : ∀ t ∈ l, TyOk t) (t : Ty) (ht : TyOk t) {a a1 a2 : Option Addr} {k c k1 c1 k2 c2 : Nat} (m : fL l a k c ∈ F) (m1 : fW t a1 k1 c1 ∈ F) (m2 : fK t a2 k2 c2 ∈ F)
    (h1 : ¬ rightP l → R (.tuple #[.slice none 0 0, .int .i64 0, .int .i64 1]) L F)
    (h2 : rightP l → ∀ q (hq : q < l.length), l[q] = t → R (.tuple #[.slice a k c, .int .i64 (q : Int), .int .i64 0]) L F)
    (h3 : rightP l → t ∉ l → ¬ madeP l t → R (.tuple #[.slice none 0 0, .int .i64 0, .int .i64 1]) L F)
    (h4 : rightP l → t ∉ l → madeP l t → l.length = 400 → R (.tuple #[.slice none 0 0, .int .i64 0, .int .i64 7]) L F)
    (h5 : rightP l → t ∉ l → madeP l t → l.length < 400 → ∀ a k c, R (.tuple #[.slice a k c, .int .i64 (l.length : Int), .int .i64 0]) L (fL (l ++ [t]) a k c :: F)) :
    ACalls Tryd.prog W0 15 #[.slice a k c, vTy t a1 k1 c1 a2 k2 c2] L F R := by
  refine ACalls.body Tryd.func15 rfl Tryd.ntmps15 rfl ?_
  refine AC.seq (AC.region (AL.go (AO.box rfl rfl (fun b3 => ?_))))
  refine AL.go (AO.assign rfl rfl (AL.go (AO.assign rfl rfl (AL.go (AO.assign rfl rfl (AL.nil (AK.seqN (AC.seq ?_))))))))
  refine AC.seq (AC.region (AL.go (AO.move rfl rfl ?_)))
  refine AL.go (AO.call rfl rfl (right_c g l hok (by repeat (first | exact mem0 | assumption | refine memS ?_)) (fun c10 => ?_) (fun c10 => ?_)))
  · refine AL.go (AO.not rfl rfl (AL.nil (AK.seqN (AC.condF rfl (AC.skip (AK.seqN ?_))))))
    refine AC.seq (AC.region ?_)
    refine AL.go (AO.loadBA rfl rfl ?_)
    refine AL.go (AO.call rfl rfl (keyOf_c g t ht (by repeat (first | exact mem0 | assumption | refine memS ?_)) (by repeat (first | exact mem0 | assumption | refine memS ?_)) ?_))
    refine AL.go (AO.alloc rfl (fun b7 => ?_))
    refine AL.go (AO.storeBA rfl rfl rfl rfl ?_)
    refine AL.nil (AK.seqN (AC.seq (AC.region (AL.go (AO.move rfl rfl ?_)))))
    refine AL.go (AO.makeFunc rfl rfl ?_)
    refine AL.go (AO.call rfl rfl (indexFuncT_c l hok m _ [.pointer (some ⟨b7, 0, none⟩)] (fun x => keyT x = keyT t) (fun x hx y1 y2 y3 y4 y5 y6 F' hF' n1 n2 R hT hF => add1_c g x hx (keyT t) n1 n2 hT hF) (fun j16 hj16 c16 => ?_) (fun c16 => ?_)))
    · refine AL.go (AO.assign rfl rfl (AL.nil (AK.seqN (AC.seq (AC.block (AC.seq ?_))))))
      refine AC.region (AL.go (AO.move rfl rfl ?_))
      refine AL.go (AO.geq rfl rfl rfl (fun c19 => ?_) (fun c19 => absurd c19 (by omega)))
      refine AL.go (AO.assign rfl rfl (AL.nil (AK.seqN (AC.condT rfl (AC.seq (AC.region ?_))))))
      refine AL.go (AO.move rfl rfl (AL.go (AO.move rfl rfl (AL.go (AO.assign rfl rfl (AL.go (AO.assign rfl rfl (AL.go (AO.assign rfl rfl (AL.nil ?_))))))))))
      refine AK.seqN (AC.ret (AK.blkR (AK.seqR ?_)))
      first
      | exact AK.ret3 (L' := L) (F' := F) Tryd.results15 rfl rfl rfl (by repeat (first | exact Sub.refl _ _ | refine Sub.trans Sub.drop ?_ | refine Sub.trans Sub.dropF ?_)) (h1 c10)
      | exact AK.ret3 (L' := L) (F' := F) Tryd.results15 rfl rfl rfl (by repeat (first | exact Sub.refl _ _ | refine Sub.trans Sub.drop ?_ | refine Sub.trans Sub.dropF ?_)) (h2 c10 j16 hj16 (key_inj c16))
      | exact AK.ret3 (L' := L) (F' := F) Tryd.results15 rfl rfl rfl (by repeat (first | exact Sub.refl _ _ | refine Sub.trans Sub.drop ?_ | refine Sub.trans Sub.dropF ?_)) (h3 c10 hno c25)
      | exact AK.ret3 (L' := L) (F' := F) Tryd.results15 rfl rfl rfl (by repeat (first | exact Sub.refl _ _ | refine Sub.trans Sub.drop ?_ | refine Sub.trans Sub.dropF ?_)) (h4 c10 hno c25 (by omega))
      | exact AK.ret3 (L' := L) (F' := fL (l ++ [t]) a35 k35 z35 :: F) Tryd.results15 rfl rfl rfl ((Sub.commit (i := 0) rfl).trans (Sub.drop.trans (Sub.drop.trans (Sub.drop.trans (Sub.headF (fun x hx => by repeat (first | exact hx | refine List.mem_cons_of_mem _ ?_))))))) (h5 c10 hno c25 (by have := c10.2.1; omega) _ _ _)
    · refine AL.go (AO.assign rfl rfl (AL.nil (AK.seqN (AC.seq (AC.block (AC.seq ?_))))))
      refine AC.region (AL.go (AO.move rfl rfl ?_))
      have hno : t ∉ l := fun hm => by
       obtain ⟨j, hj, e⟩ := List.getElem_of_mem hm
       exact c16 j hj (by rw [e])
      refine AL.go (AO.geq rfl rfl rfl (fun c19 => absurd c19 (by omega)) (fun c19 => ?_))
      refine AL.go (AO.assign rfl rfl (AL.nil (AK.seqN (AC.condF rfl (AC.seq (AC.region ?_))))))
      refine AL.go (AO.move rfl rfl ?_)
      refine AL.go (AO.loadBA rfl rfl ?_)
      refine AL.go (AO.call rfl rfl (made_c g l t ht (by repeat (first | exact mem0 | assumption | refine memS ?_)) (by repeat (first | exact mem0 | assumption | refine memS ?_)) (by repeat (first | exact mem0 | assumption | refine memS ?_)) (fun c25 => ?_) (fun c25 => ?_)))
      · refine AL.go (AO.not rfl rfl (AL.go (AO.assign rfl rfl (AL.nil (AK.seqN (AC.condF rfl (AC.seq ?_)))))))
        refine AC.region (AL.go (AO.move rfl rfl ?_))
        refine AL.go (AO.len rfl rfl (fun hl29 => ?_) (hm := by repeat (first | exact mem0 | assumption | refine memS ?_)))
        refine AL.go (AO.eql rfl rfl rfl (fun c30 => ?_) (fun c30 => ?_))
        · refine AL.go (AO.assign rfl rfl (AL.nil (AK.seqN (AC.condT rfl (AC.seq (AC.region ?_))))))
          refine AL.go (AO.assign rfl rfl (AL.go (AO.assign rfl rfl (AL.go (AO.assign rfl rfl (AL.nil (AK.seqN (AC.ret ?_))))))))
          refine AK.blkR (AK.seqR ?_)
          first
          | exact AK.ret3 (L' := L) (F' := F) Tryd.results15 rfl rfl rfl (by repeat (first | exact Sub.refl _ _ | refine Sub.trans Sub.drop ?_ | refine Sub.trans Sub.dropF ?_)) (h1 c10)
          | exact AK.ret3 (L' := L) (F' := F) Tryd.results15 rfl rfl rfl (by repeat (first | exact Sub.refl _ _ | refine Sub.trans Sub.drop ?_ | refine Sub.trans Sub.dropF ?_)) (h2 c10 j16 hj16 (key_inj c16))
          | exact AK.ret3 (L' := L) (F' := F) Tryd.results15 rfl rfl rfl (by repeat (first | exact Sub.refl _ _ | refine Sub.trans Sub.drop ?_ | refine Sub.trans Sub.dropF ?_)) (h3 c10 hno c25)
          | exact AK.ret3 (L' := L) (F' := F) Tryd.results15 rfl rfl rfl (by repeat (first | exact Sub.refl _ _ | refine Sub.trans Sub.drop ?_ | refine Sub.trans Sub.dropF ?_)) (h4 c10 hno c25 (by omega))
          | exact AK.ret3 (L' := L) (F' := fL (l ++ [t]) a35 k35 z35 :: F) Tryd.results15 rfl rfl rfl ((Sub.commit (i := 0) rfl).trans (Sub.drop.trans (Sub.drop.trans (Sub.drop.trans (Sub.headF (fun x hx => by repeat (first | exact hx | refine List.mem_cons_of_mem _ ?_))))))) (h5 c10 hno c25 (by have := c10.2.1; omega) _ _ _)
        · refine AL.go (AO.assign rfl rfl (AL.nil (AK.seqN (AC.condF rfl (AC.skip (AK.blkN ?_))))))
          refine AK.seqN (AC.seq ?_)
          refine AC.draw (fun _ => false) [(b3, _, _)] (by repeat (first | exact BxIn.nil | refine BxIn.cons (by repeat (first | exact has0 | assumption | apply hasS)) ?_)) rfl (fun hx hX => ?_)
          have hk9 := (len_of_fact (hX (fL l a k c) (by repeat (first | exact mem0 | assumption | refine memS ?_)))).1
          subst hk9
          refine AH.takeW (i := 0) rfl (Y.move rfl) (by kernel_rfl) rfl rfl ?_
          refine AH.takeS (i := 2) rfl (Y.loadBA rfl (by repeat (first | exact List.Mem.head _ | refine List.Mem.tail _ ?_)) (by rfl)) (by kernel_rfl) (by kernel_rfl) rfl rfl rfl ?_
          refine AH.takeW (i := 5) rfl (Y.move rfl) (by kernel_rfl) rfl rfl ?_
          refine AH.takeW (i := 6) rfl (Y.lenV rfl) (by kernel_rfl) rfl rfl ?_
          refine AH.two (i := 1) (j := 3) (by kernel_rfl) rfl rfl rfl rfl (fun _ => ?_) (fun _ => ?_)
          · refine AO.call rfl rfl (clipT_c l (by have := c10.1; omega) (by repeat (first | exact mem0 | assumption | refine memS ?_)) (fun ad32 => ?_))
            refine AT.held (by repeat (first | exact BxIn.nil | refine BxIn.cons (by repeat (first | exact has0 | assumption | apply hasS)) ?_)) (by repeat (first | exact mem0 | refine memS ?_)) ?_
            refine AH.one (i := 3) (by kernel_rfl) rfl rfl (fun _ => ?_)
            refine AO.buildSlice rfl rfl rfl rfl rfl (fun b34 => ?_)
            refine AT.held (by repeat (first | exact BxIn.nil | refine BxIn.cons (by repeat (first | exact has0 | assumption | apply hasS)) ?_)) (by repeat (first | exact mem0 | refine memS ?_)) ?_
            refine AH.one (i := 4) (by kernel_rfl) rfl rfl (fun _ => ?_)
            refine AO.appendFull (enc := eTy) (lst := l) [t] rfl rfl rfl (show fL l _ _ _ ∈ _ from (by repeat (first | exact mem0 | assumption | refine memS ?_))) eTy_one (.val (.val (.val (.slc (.slc .nil (by repeat (first | exact mem0 | assumption | refine memS ?_))) (by repeat (first | exact mem0 | assumption | refine memS ?_)))))) rfl (by decide) (fun _ => rfl) (by have := c10.2.1; simp only [maxLen]; omega) (by have := c10.2.1; omega) (fun a35 k35 z35 => ?_)
            refine AT.held (by repeat (first | exact BxIn.nil | refine BxIn.cons (by repeat (first | exact has0 | assumption | apply hasS)) ?_)) (by repeat (first | exact mem0 | refine memS ?_)) ?_
            refine AH.takeW (i := 7) rfl (Y.assign rfl) (by kernel_rfl) rfl rfl ?_
            refine AH.takeW (i := 8) rfl (Y.assign rfl) (by kernel_rfl) rfl rfl ?_
            refine AH.takeW (i := 9) rfl (Y.assign rfl) (by kernel_rfl) rfl rfl ?_
            refine AH.done (by kernel_rfl) ?_
            refine AK.seqN (AC.ret ?_)
            first
            | exact AK.ret3 (L' := L) (F' := F) Tryd.results15 rfl rfl rfl (by repeat (first | exact Sub.refl _ _ | refine Sub.trans Sub.drop ?_ | refine Sub.trans Sub.dropF ?_)) (h1 c10)
            | exact AK.ret3 (L' := L) (F' := F) Tryd.results15 rfl rfl rfl (by repeat (first | exact Sub.refl _ _ | refine Sub.trans Sub.drop ?_ | refine Sub.trans Sub.dropF ?_)) (h2 c10 j16 hj16 (key_inj c16))
            | exact AK.ret3 (L' := L) (F' := F) Tryd.results15 rfl rfl rfl (by repeat (first | exact Sub.refl _ _ | refine Sub.trans Sub.drop ?_ | refine Sub.trans Sub.dropF ?_)) (h3 c10 hno c25)
            | exact AK.ret3 (L' := L) (F' := F) Tryd.results15 rfl rfl rfl (by repeat (first | exact Sub.refl _ _ | refine Sub.trans Sub.drop ?_ | refine Sub.trans Sub.dropF ?_)) (h4 c10 hno c25 (by omega))
            | exact AK.ret3 (L' := L) (F' := fL (l ++ [t]) a35 k35 z35 :: F) Tryd.results15 rfl rfl rfl ((Sub.commit (i := 0) rfl).trans (Sub.drop.trans (Sub.drop.trans (Sub.drop.trans (Sub.headF (fun x hx => by repeat (first | exact hx | refine List.mem_cons_of_mem _ ?_))))))) (h5 c10 hno c25 (by have := c10.2.1; omega) _ _ _)
          · refine AO.buildSlice rfl rfl rfl rfl rfl (fun b34 => ?_)
            refine AT.held (by repeat (first | exact BxIn.nil | refine BxIn.cons (by repeat (first | exact has0 | assumption | apply hasS)) ?_)) (by repeat (first | exact mem0 | refine memS ?_)) ?_
            refine AH.one (i := 1) (by kernel_rfl) rfl rfl (fun _ => ?_)
            refine AO.call rfl rfl (clipT_c l (by have := c10.1; omega) (by repeat (first | exact mem0 | assumption | refine memS ?_)) (fun ad32 => ?_))
            refine AT.held (by repeat (first | exact BxIn.nil | refine BxIn.cons (by repeat (first | exact has0 | assumption | apply hasS)) ?_)) (by repeat (first | exact mem0 | refine memS ?_)) ?_
            refine AH.one (i := 4) (by kernel_rfl) rfl rfl (fun _ => ?_)
            refine AO.appendFull (enc := eTy) (lst := l) [t] rfl rfl rfl (show fL l _ _ _ ∈ _ from (by repeat (first | exact mem0 | assumption | refine memS ?_))) eTy_one (.val (.val (.val (.slc (.slc .nil (by repeat (first | exact mem0 | assumption | refine memS ?_))) (by repeat (first | exact mem0 | assumption | refine memS ?_)))))) rfl (by decide) (fun _ => rfl) (by have := c10.2.1; simp only [maxLen]; omega) (by have := c10.2.1; omega) (fun a35 k35 z35 => ?_)
            refine AT.held (by repeat (first | exact BxIn.nil | refine BxIn.cons (by repeat (first | exact has0 | assumption | apply hasS)) ?_)) (by repeat (first | exact mem0 | refine memS ?_)) ?_
            refine AH.takeW (i := 7) rfl (Y.assign rfl) (by kernel_rfl) rfl rfl ?_
            refine AH.takeW (i := 8) rfl (Y.assign rfl) (by kernel_rfl) rfl rfl ?_
            refine AH.takeW (i := 9) rfl (Y.assign rfl) (by kernel_rfl) rfl rfl ?_
            refine AH.done (by kernel_rfl) ?_
            refine AK.seqN (AC.ret ?_)
            first
            | exact AK.ret3 (L' := L) (F' := F) Tryd.results15 rfl rfl rfl (by repeat (first | exact Sub.refl _ _ | refine Sub.trans Sub.drop ?_ | refine Sub.trans Sub.dropF ?_)) (h1 c10)
            | exact AK.ret3 (L' := L) (F' := F) Tryd.results15 rfl rfl rfl (by repeat (first | exact Sub.refl _ _ | refine Sub.trans Sub.drop ?_ | refine Sub.trans Sub.dropF ?_)) (h2 c10 j16 hj16 (key_inj c16))
            | exact AK.ret3 (L' := L) (F' := F) Tryd.results15 rfl rfl rfl (by repeat (first | exact Sub.refl _ _ | refine Sub.trans Sub.drop ?_ | refine Sub.trans Sub.dropF ?_)) (h3 c10 hno c25)
            | exact AK.ret3 (L' := L) (F' := F) Tryd.results15 rfl rfl rfl (by repeat (first | exact Sub.refl _ _ | refine Sub.trans Sub.drop ?_ | refine Sub.trans Sub.dropF ?_)) (h4 c10 hno c25 (by omega))
            | exact AK.ret3 (L' := L) (F' := fL (l ++ [t]) a35 k35 z35 :: F) Tryd.results15 rfl rfl rfl ((Sub.commit (i := 0) rfl).trans (Sub.drop.trans (Sub.drop.trans (Sub.drop.trans (Sub.headF (fun x hx => by repeat (first | exact hx | refine List.mem_cons_of_mem _ ?_))))))) (h5 c10 hno c25 (by have := c10.2.1; omega) _ _ _)
      · refine AL.go (AO.not rfl rfl (AL.go (AO.assign rfl rfl (AL.nil (AK.seqN (AC.condT rfl (AC.seq ?_)))))))
        refine AC.region (AL.go (AO.assign rfl rfl (AL.go (AO.assign rfl rfl (AL.go (AO.assign rfl rfl (AL.nil (AK.seqN ?_))))))))
        refine AC.ret (AK.blkR (AK.seqR ?_))
        first
        | exact AK.ret3 (L' := L) (F' := F) Tryd.results15 rfl rfl rfl (by repeat (first | exact Sub.refl _ _ | refine Sub.trans Sub.drop ?_ | refine Sub.trans Sub.dropF ?_)) (h1 c10)
        | exact AK.ret3 (L' := L) (F' := F) Tryd.results15 rfl rfl rfl (by repeat (first | exact Sub.refl _ _ | refine Sub.trans Sub.drop ?_ | refine Sub.trans Sub.dropF ?_)) (h2 c10 j16 hj16 (key_inj c16))
        | exact AK.ret3 (L' := L) (F' := F) Tryd.results15 rfl rfl rfl (by repeat (first | exact Sub.refl _ _ | refine Sub.trans Sub.drop ?_ | refine Sub.trans Sub.dropF ?_)) (h3 c10 hno c25)
        | exact AK.ret3 (L' := L) (F' := F) Tryd.results15 rfl rfl rfl (by repeat (first | exact Sub.refl _ _ | refine Sub.trans Sub.drop ?_ | refine Sub.trans Sub.dropF ?_)) (h4 c10 hno c25 (by omega))
        | exact AK.ret3 (L' := L) (F' := fL (l ++ [t]) a35 k35 z35 :: F) Tryd.results15 rfl rfl rfl ((Sub.commit (i := 0) rfl).trans (Sub.drop.trans (Sub.drop.trans (Sub.drop.trans (Sub.headF (fun x hx => by repeat (first | exact hx | refine List.mem_cons_of_mem _ ?_))))))) (h5 c10 hno c25 (by have := c10.2.1; omega) _ _ _)
  · refine AL.go (AO.not rfl rfl (AL.nil (AK.seqN (AC.condT rfl (AC.seq (AC.region ?_))))))
    refine AL.go (AO.assign rfl rfl (AL.go (AO.assign rfl rfl (AL.go (AO.assign rfl rfl (AL.nil (AK.seqN (AC.ret ?_))))))))
    refine AK.seqR ?_
    first
    | exact AK.ret3 (L' := L) (F' := F) Tryd.results15 rfl rfl rfl (by repeat (first | exact Sub.refl _ _ | refine Sub.trans Sub.drop ?_ | refine Sub.trans Sub.dropF ?_)) (h1 c10)
    | exact AK.ret3 (L' := L) (F' := F) Tryd.results15 rfl rfl rfl (by repeat (first | exact Sub.refl _ _ | refine Sub.trans Sub.drop ?_ | refine Sub.trans Sub.dropF ?_)) (h2 c10 j16 hj16 (key_inj c16))
    | exact AK.ret3 (L' := L) (F' := F) Tryd.results15 rfl rfl rfl (by repeat (first | exact Sub.refl _ _ | refine Sub.trans Sub.drop ?_ | refine Sub.trans Sub.dropF ?_)) (h3 c10 hno c25)
    | exact AK.ret3 (L' := L) (F' := F) Tryd.results15 rfl rfl rfl (by repeat (first | exact Sub.refl _ _ | refine Sub.trans Sub.drop ?_ | refine Sub.trans Sub.dropF ?_)) (h4 c10 hno c25 (by omega))
    | exact AK.ret3 (L' := L) (F' := fL (l ++ [t]) a35 k35 z35 :: F) Tryd.results15 rfl rfl rfl ((Sub.commit (i := 0) rfl).trans (Sub.drop.trans (Sub.drop.trans (Sub.drop.trans (Sub.headF (fun x hx => by repeat (first | exact hx | refine List.mem_cons_of_mem _ ?_))))))) (h5 c10 hno c25 (by have := c10.2.1; omega) _ _ _)
end
end Go.Sy
