/- Text and Same of an arena: the walks. -/
import Derived.Test.YthbngbiodamndaaDoorTyW
namespace Go.Sy
open Go Go.Proofs Go.RowKit

/-- The places that were met so far. -/
def ToOk (q : Nat) (m : Int → Option Int) : Prop := ∀ k : Int, m k = if 0 ≤ k ∧ k < q then some k else none
theorem ToOk.zero : ToOk 0 (fun _ => none) := fun k => by rw [if_neg (by omega)]
theorem ToOk.step {q : Nat} {m : Int → Option Int} (h : ToOk q m) : ToOk (q + 1) (upd m (q : Int) (q : Int)) := by
  intro k
  by_cases e : k = q
  · subst e; rw [upd_self, if_pos (by omega)]
  · rw [upd_ne _ e, h k]
    by_cases c : 0 ≤ k ∧ k < q
    · rw [if_pos c, if_pos (by omega)]
    · rw [if_neg c, if_neg (by omega)]
def AllOk (l : List Ty) (q : Nat) (m : Key → Option Int) : Prop := ∀ i (hi : i < l.length), i < q → m (keyT l[i]) = some (i : Int)
theorem AllOk.step {l : List Ty} (hr : rightP l) {q : Nat} {m : Key → Option Int} (h : AllOk l q m) (hq : q < l.length) : AllOk l (q + 1) (upd m (keyT l[q]) (q : Int)) := by
  intro i hi hiq
  by_cases e : i = q
  · subst e; exact upd_self ..
  · rw [upd_ne _ (fun k => e (right_inj hr hi hq (key_inj k)))]
    exact h i hi (by omega)
theorem eI_set (ks : List Int) {q : Nat} (hq : q < ks.length) : (ks.map eI).set q [.val (.int .i64 ks[q])] = ks.map eI := by
  have : [D.val (.int .i64 ks[q])] = (ks.map eI)[q]'(by simpa using hq) := by simp
  rw [this]; exact List.set_getElem_self _

theorem Sub.ownNone {L : List Res} {F : List Fact} {e : TypeId} {sz k c : Nat} {rows : List (List D)} (hm : Fact.slc (.slice none k c) sz rows ∈ F) : Sub L F (Res.own (.slice none 0 0) e sz rows :: L) F := by
  intro W0 w s
  have hk : rows = [] := by
    obtain ⟨hh, hf, _⟩ := s.fact hm
    have hf' : CR hh (.slice none k c) (.slc sz rows) := hf
    generalize hd : D.slc sz rows = dd at hf'
    cases hf' with
    | val => simp at hd
    | nil => simp at hd; exact hd.2
  subst hk
  exact Sub.ownNil W0 w s

attribute [local irreducible] AC AT AO AK AH ACalls Sub Res.cells Res.obj Res.nix Res.own Res.map Exit.then Exit.inBlock bodyPost Code.wp Next Post Kont
section
variable {W0 : World} {L : List Res} {F : List Fact} {R : Value → List Res → List Fact → Prop}
set_option maxRecDepth 100000
set_option maxHeartbeats 8000000
theorem text_c (g : Glob W0) (l : List Ty) (hok : ∀ t ∈ l, TyOk t) (hright : rightP l) (T : Int → List UInt8) (hT : Texts l T) {a : Option Addr} {k c bw bm : Nat} : ∀ n, n ≤ l.length → TextC W0 l T a k c bw bm n
  | 0, _ => fun x h0 hx => absurd hx (by omega)
  | n + 1, hn => fun x h0 hx L F R i j m mL hi hj hij hm h => by
    by_cases c : x < n
    · exact text_c g l hok hright T hT n (by omega) x h0 c L F R i j m mL hi hj hij hm h
    · have e : x = (n : Int) := by omega
      subst e
      exact textStep_c g l hok hright T hT (by omega) (text_c g l hok hright T hT n (by omega)) mL hi hj hij hm h
/-- What Text answers. -/
def textR (s : List UInt8) : Value := if 4000 < s.length then .tuple #[S [], .int .i64 7] else .tuple #[S s, .int .i64 0]
theorem ptext_c (g : Glob W0) (l : List Ty) (hok : ∀ t ∈ l, TyOk t) (hright : rightP l) (T : Int → List UInt8) (hT : Texts l T) (x : Int) (h0 : 0 ≤ x) (hx : x < l.length) {a : Option Addr} {k c : Nat} (mL : fL l a k c ∈ F)
    (h : R (textR (T x)) L F) : ACalls Tryd.prog W0 19 #[.slice a k c, .int .i64 x] L F R := by
  refine ACalls.body Tryd.func19 rfl Tryd.ntmps19 rfl ?_
  refine AC.seq (AC.region (AL.go (AO.assign rfl rfl (AL.go (AO.assign rfl rfl (AL.nil (AK.seqN ?_)))))))
  refine AC.seq (AC.block (AC.seq (AC.region (AL.go (AO.move rfl rfl ?_)))))
  refine AL.go (AO.call rfl rfl (right_c g l hok (by repeat (first | exact mem0 | assumption | refine memS ?_)) (fun c10 => ?_) (fun c10 => absurd hright c10)))
  refine AL.go (AO.not rfl rfl (AL.go (AO.assign rfl rfl (AL.nil (AK.seqN (AC.condF rfl (AC.seq ?_)))))))
  refine AC.region (AL.go (AO.move rfl rfl ?_))
  refine AL.go (AO.lss rfl rfl rfl (fun c14 => absurd c14 (by omega)) (fun c14 => ?_))
  refine AL.go (AO.move rfl rfl (AL.yes rfl rfl (AO.move rfl rfl (AL.yes rfl rfl (AO.move rfl rfl ?_)))))
  refine AL.yes rfl rfl (AO.len rfl rfl (fun hl18 => ?_) (hm := by repeat (first | exact mem0 | assumption | refine memS ?_)))
  refine AL.yes rfl rfl (AO.geq rfl rfl rfl (fun c19 => absurd c19 (by omega)) (fun c19 => ?_))
  refine AL.go (AO.pickF rfl rfl rfl (AL.go (AO.assign rfl rfl (AL.nil (AK.seqN (AC.condF rfl (AC.skip ?_)))))))
  refine AK.blkN (AK.seqN (AC.seq (AC.region (AL.go (AO.move rfl rfl ?_)))))
  refine AL.go (AO.makeMap vI S rfl (fun b22 => ?_))
  refine AL.go (AO.build rfl rfl rfl ?_)
  refine AL.go (AO.box rfl rfl (fun b24 => ?_))
  refine AL.go (AO.assign rfl rfl (AL.nil (AK.seqN (AC.seq (AC.region (AL.go (AO.move rfl rfl ?_)))))))
  refine AL.go (AO.move rfl rfl ?_)
  refine AL.go (AO.call rfl rfl (text_c g l hok hright T hT l.length (Nat.le_refl _) x h0 hx _ _ _ 0 1 (fun _ => none) (by repeat (first | exact mem0 | assumption | refine memS ?_)) rfl rfl (by decide) (fun k s e => by cases e) (fun m27 hm27 => ?_)))
  refine AL.go (AO.assign rfl rfl (AL.nil (AK.seqN (AC.seq (AC.seq (AC.region ?_))))))
  refine AL.go (AO.move rfl rfl (AL.go (AO.lenS rfl rfl ?_)))
  refine AL.go (AO.gtr rfl rfl rfl (fun c30 => ?_) (fun c30 => ?_))
  · refine AL.nil (AK.seqN (AC.condT rfl (AC.seq (AC.region (AL.go (AO.assign rfl rfl ?_))))))
    refine AL.go (AO.assign rfl rfl (AL.nil (AK.seqN (AC.ret (AK.seqR ?_)))))
    first
    | (have e : textR (T x) = .tuple #[S [], .int .i64 7] := by unfold textR; rw [if_pos (by omega)]
       rw [e] at h
       exact AK.ret2 (L' := L) (F' := F) Tryd.results19 rfl rfl (by repeat (first | exact Sub.refl _ _ | refine Sub.trans Sub.drop ?_ | refine Sub.trans Sub.dropF ?_)) h)
    | (have e : textR (T x) = .tuple #[S (T x), .int .i64 0] := by unfold textR; rw [if_neg (by omega)]
       rw [e] at h
       exact AK.ret2 (L' := L) (F' := F) Tryd.results19 rfl rfl (by repeat (first | exact Sub.refl _ _ | refine Sub.trans Sub.drop ?_ | refine Sub.trans Sub.dropF ?_)) h)
  · refine AL.nil (AK.seqN (AC.condF rfl (AC.skip (AK.seqN (AC.seq ?_)))))
    refine AC.region (AL.go (AO.move rfl rfl (AL.go (AO.assign rfl rfl (AL.go (AO.assign rfl rfl (AL.nil (AK.seqN ?_))))))))
    refine AC.ret ?_
    first
    | (have e : textR (T x) = .tuple #[S [], .int .i64 7] := by unfold textR; rw [if_pos (by omega)]
       rw [e] at h
       exact AK.ret2 (L' := L) (F' := F) Tryd.results19 rfl rfl (by repeat (first | exact Sub.refl _ _ | refine Sub.trans Sub.drop ?_ | refine Sub.trans Sub.dropF ?_)) h)
    | (have e : textR (T x) = .tuple #[S (T x), .int .i64 0] := by unfold textR; rw [if_neg (by omega)]
       rw [e] at h
       exact AK.ret2 (L' := L) (F' := F) Tryd.results19 rfl rfl (by repeat (first | exact Sub.refl _ _ | refine Sub.trans Sub.drop ?_ | refine Sub.trans Sub.dropF ?_)) h)
theorem clone_c (ks : List Int) (hl : ks.length ≤ 1000) {a : Option Addr} {k c : Nat} (m1 : Fact.slc (.slice a k c) 1 (ks.map eI) ∈ F) (h : ∀ a k c, R (.slice a k c) (Res.own (.slice a k c) 3 1 (ks.map eI) :: L) F) : ACalls Tryd.prog W0 32 #[.slice a k c] L F R := by
  refine ACalls.body Tryd.func32 rfl Tryd.ntmps32 rfl ?_
  refine AC.seq (AC.region (AL.go (AO.assign rfl rfl (AL.nil (AK.seqN (AC.seq ?_))))))
  refine AC.seq (AC.region (AL.go (AO.move rfl rfl ?_)))
  refine AL.go (AO.eqlSN Tryd.underlying29 rfl rfl rfl (fun c4 => ?_) (fun b4 c4 => ?_))
  · refine AL.nil (AK.seqN (AC.condT rfl (AC.seq (AC.region (AL.go (AO.assign rfl rfl ?_))))))
    refine AL.nil (AK.seqN (AC.ret (AK.seqR ?_)))
    first
    | exact AK.ret Tryd.results32 rfl (Sub.refl _ _) (h a7 k7 z7)
    | (subst c4; exact AK.ret (F' := F) Tryd.results32 rfl (Sub.ownNone m1) (h none 0 0))
  · refine AL.nil (AK.seqN (AC.condF rfl (AC.skip (AK.seqN (AC.seq ?_)))))
    refine AC.region ?_
    refine AL.go (AO.buildSlice0 rfl (fun b5 => ?_))
    refine AT.sub (Sub.toOwn (i := 0) (k := 0) (sz := 1) (enc := eI) [] rfl .nil (fun _ => rfl) rfl (by decide)) ?_
    refine AL.go (AO.move rfl rfl ?_)
    refine AL.go (AO.appendF (i := 0) (enc := eI) (lst := []) (lst2 := ks) rfl rfl rfl rfl (by repeat (first | exact mem0 | assumption | refine memS ?_)) (fun x d hd v hv => by subst hv; simp at hd; subst hd; rfl) (fun _ => rfl) (by simp only [maxLen, List.length_nil]; omega) (by simp only [List.length_nil]; omega) (fun a7 k7 z7 => ?_))
    refine AL.go (AO.assign rfl rfl (AL.nil (AK.seqN (AC.ret ?_))))
    first
    | exact AK.ret Tryd.results32 rfl (Sub.refl _ _) (h a7 k7 z7)
    | (subst c4; exact AK.ret (F' := F) Tryd.results32 rfl (Sub.ownNone m1) (h none 0 0))
theorem psame_c (g : Glob W0) (l : List Ty) (hok : ∀ t ∈ l, TyOk t) (hright : rightP l) (x y : Nat) (hx : x < l.length) (hy : y < l.length) {a : Option Addr} {k c : Nat} (mL : fL l a k c ∈ F)
    (h : R (.tuple #[.bool (decide (x = y)), .int .i64 0]) L F) : ACalls Tryd.prog W0 18 #[.slice a k c, .int .i64 (x : Int), .slice a k c, .int .i64 (y : Int)] L F R := by
  have hlen := hright.2.1
  refine ACalls.body Tryd.func18 rfl Tryd.ntmps18 rfl ?_
  refine AC.seq (AC.region (AL.go (AO.assign rfl rfl (AL.go (AO.assign rfl rfl (AL.nil (AK.seqN ?_)))))))
  refine AC.seq (AC.block (AC.seq (AC.region (AL.go (AO.move rfl rfl ?_)))))
  refine AL.go (AO.call rfl rfl (right_c g l hok (by repeat (first | exact mem0 | assumption | refine memS ?_)) (fun c27 => ?_) (fun c27 => absurd hright c27)))
  refine AL.go (AO.not rfl rfl (AL.go (AO.move rfl rfl (AL.yes rfl rfl (AO.move rfl rfl ?_)))))
  refine AL.yes rfl rfl (AO.call rfl rfl (right_c g l hok (by repeat (first | exact mem0 | assumption | refine memS ?_)) (fun c31 => ?_) (fun c31 => absurd hright c31)))
  refine AL.yes rfl rfl (AO.not rfl rfl (AL.go (AO.pickF rfl rfl rfl (AL.go (AO.assign rfl rfl (AL.nil (AK.seqN (AC.condF rfl ?_))))))))
  refine AC.seq (AC.region (AL.go (AO.move rfl rfl ?_)))
  refine AL.go (AO.lss rfl rfl rfl (fun c36 => absurd c36 (by omega)) (fun c36 => ?_))
  refine AL.go (AO.move rfl rfl (AL.yes rfl rfl (AO.move rfl rfl (AL.yes rfl rfl (AO.move rfl rfl ?_)))))
  refine AL.yes rfl rfl (AO.len rfl rfl (fun hl40 => ?_) (hm := by repeat (first | exact mem0 | assumption | refine memS ?_)))
  refine AL.yes rfl rfl (AO.geq rfl rfl rfl (fun c41 => absurd c41 (by omega)) (fun c41 => ?_))
  refine AL.go (AO.pickF rfl rfl rfl (AL.go (AO.move rfl rfl (AL.yes rfl rfl (AO.move rfl rfl ?_)))))
  refine AL.yes rfl rfl (AO.lss rfl rfl rfl (fun c45 => absurd c45 (by omega)) (fun c45 => ?_))
  refine AL.go (AO.pickF rfl rfl rfl (AL.go (AO.move rfl rfl (AL.yes rfl rfl (AO.move rfl rfl (AL.yes rfl rfl (AO.move rfl rfl ?_)))))))
  refine AL.yes rfl rfl (AO.len rfl rfl (fun hl50 => ?_) (hm := by repeat (first | exact mem0 | assumption | refine memS ?_)))
  refine AL.yes rfl rfl (AO.geq rfl rfl rfl (fun c51 => absurd c51 (by omega)) (fun c51 => ?_))
  refine AL.go (AO.pickF rfl rfl rfl (AL.go (AO.assign rfl rfl (AL.nil (AK.seqN (AC.condF rfl (AC.skip ?_)))))))
  refine AK.blkN (AK.seqN (AC.seq (AC.region ?_)))
  refine AL.go (AO.makeMap vI vI rfl (fun b53 => ?_))
  refine AL.go (AO.assign rfl rfl (AL.nil (AK.seqN (AC.seq (AC.region ?_)))))
  refine AL.go (AO.makeMap vKey vI rfl (fun b54 => ?_))
  refine AL.go (AO.assign rfl rfl (AL.nil (AK.seqN (AC.seq (AC.seq (AC.region ?_))))))
  refine AL.go (AO.move rfl rfl ?_)
  refine AL.go (AO.len rfl rfl (fun hl56 => ?_) (hm := by repeat (first | exact mem0 | assumption | refine memS ?_)))
  refine AL.go (AO.move rfl rfl (AL.nil (AK.seqN (AC.block ?_))))
  refine AC.loop (fun (q : Nat × (Key → Option Int)) => q.1 ≤ l.length ∧ AllOk l q.1 q.2) (fun q => [(0, .slice a k c), (1, .int .i64 (x : Int)), (3, .int .i64 (y : Int)), (10, .map (some b53)), (11, .map (some b54)), (55, .slice a k c), (56, .int .i64 l.length), (57, .int .i64 (q.1 : Int))]) (fun q => Res.map b54 vKey vI q.2 :: Res.map b53 vI vI (fun _ => none) :: L) (fun _ => F) (fun q => l.length - q.1) (0, fun _ => none) ⟨Nat.zero_le _, fun i _ h => absurd h (by omega)⟩ (by repeat (first | exact SubR.nil | refine SubR.cons rfl ?_)) (Sub.refl _ _) ?_
  rintro ⟨q, m⟩ ⟨hq, hall⟩
  simp only at hq hall ⊢
  refine AC.seq (AC.region ?_)
  refine AL.go (AO.lss rfl rfl rfl (fun c58 => ?_) (fun c58 => ?_))
  · refine AL.nil (AK.seqN (AC.seq (AC.condT rfl (AC.skip (AK.seqN ?_)))))
    refine AC.seq (AC.block (AC.seq (AC.region (AL.go (AO.move rfl rfl ?_)))))
    have hql : q < l.length := by omega
    refine AL.go (AO.indexAddr rfl rfl rfl rfl (by repeat (first | exact mem0 | assumption | refine memS ?_)) hql (fun _ _ => ?_))
    refine AL.go (AO.loadFA rfl rfl ?_)
    intro a61 k61 z61 d61 e61 f61
    refine AL.go (AO.alloc rfl (fun b13 => ?_))
    refine AL.go (AO.assign rfl rfl ?_)
    refine AL.go (AO.storeBA rfl rfl rfl rfl ?_)
    refine AL.nil (AK.seqN (AC.region (AL.go (AO.move rfl rfl ?_))))
    refine AL.go (AO.loadBA rfl rfl ?_)
    refine AL.go (AO.call rfl rfl (keyOf_c g l[q] (hok _ (List.getElem_mem hql)) (by repeat (first | exact mem0 | assumption | refine memS ?_)) (by repeat (first | exact mem0 | assumption | refine memS ?_)) ?_))
    refine AL.go (AO.move rfl rfl ?_)
    refine AL.go (AO.mapUpdate (kenc := vKey) (venc := vI) (m := m) (i := 1) (keyT l[q]) (q : Int) rfl rfl rfl (by rfl) ?_)
    refine AL.nil (AK.blkN (AK.seqN (AC.region (AL.go (AO.add rfl rfl rfl (by omega) (by omega) (AL.go (AO.move rfl rfl ?_)))))))
    refine AL.nil ?_
    refine AK.next (q + 1, upd m (keyT l[q]) (q : Int)) ⟨by simp only; omega, hall.step hright hql⟩ (by simp only; omega) (by repeat (first | exact SubR.nil | refine SubR.cons rfl ?_)) (Sub.drop.trans (by repeat (first | exact Sub.refl _ _ | refine Sub.trans Sub.dropF ?_)))
  · refine AL.nil (AK.seqN (AC.seq (AC.condF rfl (AC.exit (AK.seqX ?_)))))
    refine AK.seqX (AK.blkX (AK.seqN (AC.seq (AC.seq (AC.region ?_)))))
    refine AL.go (AO.move rfl rfl (AL.go (AO.move rfl rfl (AL.go (AO.add rfl rfl rfl (by omega) (by omega) ?_)))))
    refine AL.go (AO.sliceH (j' := x + 1) rfl rfl rfl (by omega) (enc := eTy) (lst := l) (by repeat (first | exact mem0 | assumption | refine memS ?_)) (by omega) (fun a70 k70 c70 => ?_))
    have htl : (l.take (x + 1)).length = x + 1 := by rw [List.length_take]; omega
    refine AL.go (AO.len rfl rfl (fun hl71 => ?_) (hm := by repeat (first | exact mem0 | assumption | refine memS ?_)))
    refine AL.go (AO.move rfl rfl (AL.nil (AK.seqN (AC.block ?_))))
    refine AC.loop (fun (q : Nat × (Int → Option Int)) => q.1 ≤ x + 1 ∧ ToOk q.1 q.2) (fun q => [(1, .int .i64 (x : Int)), (3, .int .i64 (y : Int)), (10, .map (some b53)), (11, .map (some b54)), (70, .slice a70 k70 c70), (71, .int .i64 (l.take (x + 1)).length), (72, .int .i64 (q.1 : Int))]) (fun q => Res.map b54 vKey vI m :: Res.map b53 vI vI q.2 :: L) (fun _ => _) (fun q => x + 1 - q.1) (0, fun _ => none) ⟨Nat.zero_le _, ToOk.zero⟩ (by repeat (first | exact SubR.nil | refine SubR.cons rfl ?_)) (Sub.refl _ _) ?_
    rintro ⟨u, mt⟩ ⟨hu, hto⟩
    simp only at hu hto ⊢
    refine AC.seq (AC.region ?_)
    refine AL.go (AO.lss rfl rfl rfl (fun c73 => ?_) (fun c73 => ?_))
    · refine AL.nil (AK.seqN (AC.seq (AC.condT rfl (AC.skip (AK.seqN ?_)))))
      refine AC.seq (AC.block (AC.seq (AC.region (AL.go (AO.move rfl rfl ?_)))))
      have hul : u < (l.take (x + 1)).length := by omega
      have hu2 : u < l.length := by omega
      have hget : (l.take (x + 1))[u] = l[u] := List.getElem_take
      have htx := tx_of_right hright hu2
      have hfew := htx.few
      refine AL.go (AO.indexAddr rfl rfl rfl rfl (enc := eTy) (lst := l.take (x + 1)) (by repeat (first | exact mem0 | assumption | refine memS ?_)) hul (fun _ _ => ?_))
      rw [hget]
      refine AL.go (AO.loadFA rfl rfl ?_)
      intro a76 k76 z76 d76 e76 f76
      refine AL.go (AO.alloc rfl (fun b15 => ?_))
      refine AL.go (AO.assign rfl rfl ?_)
      refine AL.go (AO.storeBA rfl rfl rfl rfl ?_)
      refine AL.nil (AK.seqN (AC.seq (AC.region (AL.go (AO.field rfl rfl ?_)))))
      refine AL.go (AO.loadB rfl rfl ?_)
      refine AL.go (AO.call rfl rfl (clone_c l[u].kids (by have := htx.few; omega) (show fK l[u] _ _ _ ∈ _ from (by repeat (first | exact mem0 | assumption | refine memS ?_))) (fun a79 k79 z79 => ?_)))
      refine AL.go (AO.field rfl rfl ?_)
      refine AL.go (AO.storeB rfl rfl rfl ?_)
      refine AL.nil (AK.seqN (AC.seq (AC.region (AL.go (AO.assign rfl rfl (AL.nil ?_))))))
      refine AK.seqN (AC.seq (AC.seq (AC.region (AL.go (AO.field rfl rfl ?_)))))
      refine AL.go (AO.loadB rfl rfl ?_)
      refine AL.go (AO.lenO (i := 0) rfl rfl rfl (fun hk83 => ?_))
      rw [List.length_map]
      refine AL.go (AO.move rfl rfl (AL.nil (AK.seqN (AC.block ?_))))
      refine AC.loop (fun (v : Nat) => v ≤ l[u].kids.length) (fun v => [(1, .int .i64 (x : Int)), (3, .int .i64 (y : Int)), (10, .map (some b53)), (11, .map (some b54)), (14, .int .i64 (u : Int)), (15, .pointer (some ⟨b15, 0, none⟩)), (16, .bool true), (70, .slice a70 k70 c70), (71, .int .i64 (l.take (x + 1)).length), (72, .int .i64 (u : Int)), (82, .slice a79 k79 z79), (83, .int .i64 l[u].kids.length), (84, .int .i64 (v : Int))]) (fun _ => _) (fun _ => _) (fun v => l[u].kids.length - v) 0 (Nat.zero_le _) (by repeat (first | exact SubR.nil | refine SubR.cons rfl ?_)) (Sub.refl _ _) ?_
      rintro v hv
      refine AC.seq (AC.region ?_)
      refine AL.go (AO.lss rfl rfl rfl (fun c85 => ?_) (fun c85 => ?_))
      · refine AL.nil (AK.seqN (AC.seq (AC.condT rfl (AC.skip (AK.seqN ?_)))))
        refine AC.seq (AC.block (AC.seq (AC.region (AL.go (AO.move rfl rfl ?_)))))
        have hvl : v < l[u].kids.length := by omega
        have hb := htx.kids _ (List.getElem_mem hvl)
        refine AL.go (AO.indexAddrO (i := 0) (q := v) rfl rfl rfl rfl rfl (by rw [List.length_map]; omega) (fun bo ho => ?_))
        subst ho
        refine AL.go (AO.loadO (i := 0) (q := v) (v := .int .i64 l[u].kids[v]) rfl rfl rfl rfl (by rw [List.getElem?_map, List.getElem?_eq_getElem hvl]; rfl) ?_)
        refine AL.go (AO.assign rfl rfl (AL.go (AO.assign rfl rfl (AL.nil (AK.seqN (AC.seq (AC.region ?_)))))))
        refine AL.go (AO.move rfl rfl (AL.go (AO.move rfl rfl ?_)))
        refine AL.go (AO.lookupOk (kenc := vI) (venc := vI) (m := mt) (i := 3) l[u].kids[v] rfl rfl rfl rfl (fun y92 hy92 => ?_) (fun hn92 => absurd hn92 (by rw [hto, if_pos hb]; simp)))
        have ey : y92 = l[u].kids[v] := by rw [hto, if_pos hb] at hy92; exact (Option.some.inj hy92).symm
        subst ey
        refine AL.go (AO.move rfl rfl (AL.go (AO.extract rfl rfl rfl ?_)))
        refine AL.go (AO.extract rfl rfl rfl ?_)
        refine AL.go (AO.assign rfl rfl (AL.go (AO.assign rfl rfl (AL.nil (AK.seqN (AC.region (AL.go (AO.field rfl rfl ?_))))))))
        refine AL.go (AO.loadB rfl rfl ?_)
        refine AL.go (AO.move rfl rfl (AL.go (AO.move rfl rfl ?_)))
        refine AL.go (AO.move rfl rfl ?_)
        refine AL.go (AO.move rfl rfl (AL.yes rfl rfl (AO.move rfl rfl (AL.go (AO.pickT rfl rfl rfl ?_)))))
        refine AL.go (AO.indexAddrO (i := 0) (q := v) rfl rfl rfl rfl rfl (by rw [List.length_map]; omega) (fun bo2 ho2 => ?_))
        cases ho2
        refine AL.go (AO.storeO (i := 0) (q := v) (v := .int .i64 l[u].kids[v]) rfl rfl rfl rfl rfl (by rw [List.length_map]; omega) ?_)
        rw [eI_set _ hvl]
        refine AL.go (AO.assign rfl rfl (AL.nil (AK.blkN (AK.seqN (AC.region (AL.go (AO.add rfl rfl rfl (by omega) (by omega) ?_)))))))
        refine AL.go (AO.move rfl rfl (AL.nil ?_))
        refine AK.next (v + 1) (by omega) (by omega) (by repeat (first | exact SubR.nil | refine SubR.cons rfl ?_)) (by repeat (first | exact Sub.refl _ _ | refine Sub.trans Sub.dropF ?_))
      · refine AL.nil (AK.seqN (AC.seq (AC.condF rfl (AC.exit (AK.seqX ?_)))))
        refine AK.seqX (AK.blkX (AK.seqN (AC.seq (AC.region ?_))))
        refine AL.go (AO.move rfl rfl ?_)
        refine AT.sub ((Sub.commit (i := 0) rfl).trans Sub.drop) ?_
        refine AL.go (AO.loadBA rfl rfl ?_)
        refine AL.go (AO.call rfl rfl (keyOf_c g l[u] (hok _ (List.getElem_mem hu2)) (by repeat (first | exact mem0 | assumption | refine memS ?_)) (by repeat (first | exact mem0 | assumption | refine memS ?_)) ?_))
        refine AL.go (AO.lookupOk (kenc := vKey) (venc := vI) (m := m) (i := 1) (keyT l[u]) rfl rfl rfl rfl (fun y109 hy109 => ?_) (fun hn109 => absurd hn109 (by rw [hall u hu2 (by omega)]; simp)))
        have ey : y109 = (u : Int) := by rw [hall u hu2 (by omega)] at hy109; exact (Option.some.inj hy109).symm
        subst ey
        refine AL.go (AO.move rfl rfl (AL.go (AO.extract rfl rfl rfl ?_)))
        refine AL.go (AO.extract rfl rfl rfl ?_)
        refine AL.go (AO.assign rfl rfl (AL.go (AO.assign rfl rfl (AL.nil (AK.seqN (AC.seq (AC.region ?_)))))))
        refine AL.go (AO.move rfl rfl (AL.go (AO.move rfl rfl ?_)))
        refine AL.yes rfl rfl (AO.move rfl rfl ?_)
        refine AL.go (AO.pickT rfl rfl rfl (AL.nil (AK.seqN (AC.condT rfl (AC.region (AL.go (AO.move rfl rfl ?_)))))))
        refine AL.go (AO.move rfl rfl (AL.go (AO.move rfl rfl ?_)))
        refine AL.go (AO.mapUpdate (kenc := vI) (venc := vI) (m := mt) (i := 2) (u : Int) (u : Int) rfl rfl rfl (by rfl) ?_)
        refine AL.nil (AK.blkN (AK.seqN (AC.region (AL.go (AO.add rfl rfl rfl (by omega) (by omega) (AL.go (AO.move rfl rfl ?_)))))))
        refine AL.nil ?_
        refine AK.next (u + 1, upd mt (u : Int) (u : Int)) ⟨by simp only; omega, hto.step⟩ (by simp only; omega) (by repeat (first | exact SubR.nil | refine SubR.cons rfl ?_)) (Sub.drop.trans (by repeat (first | exact Sub.refl _ _ | refine Sub.trans Sub.dropF ?_)))
    · refine AL.nil (AK.seqN (AC.seq (AC.condF rfl (AC.exit (AK.seqX ?_)))))
      refine AK.seqX (AK.blkX (AK.seqN (AC.seq (AC.region (AL.go (AO.move rfl rfl ?_))))))
      refine AL.go (AO.move rfl rfl ?_)
      refine AL.go (AO.lookupOk (kenc := vI) (venc := vI) (m := mt) (i := 1) (x : Int) rfl rfl rfl rfl (fun y123 hy123 => ?_) (fun hn123 => absurd hn123 (by rw [hto, if_pos (by omega)]; simp)))
      have ey : y123 = (x : Int) := by rw [hto, if_pos (by omega)] at hy123; exact (Option.some.inj hy123).symm
      subst ey
      refine AL.go (AO.move rfl rfl (AL.go (AO.extract rfl rfl rfl ?_)))
      refine AL.go (AO.extract rfl rfl rfl ?_)
      refine AL.go (AO.assign rfl rfl (AL.go (AO.assign rfl rfl (AL.nil (AK.seqN (AC.seq (AC.region ?_)))))))
      refine AL.go (AO.move rfl rfl (AL.go (AO.move rfl rfl (AL.yes rfl rfl (AO.move rfl rfl (AL.yes rfl rfl (AO.move rfl rfl ?_)))))))
      refine AL.yes rfl rfl (AO.eql rfl rfl rfl (fun c130 => ?_) (fun c130 => ?_))
      · refine AL.go (AO.pickT rfl rfl rfl (AL.go (AO.assign rfl rfl (AL.go (AO.assign rfl rfl (AL.nil (AK.seqN (AC.ret ?_))))))))
        first
        | (have e : decide (x = y) = true := by simp; omega
           rw [e] at h
           exact AK.ret2 (L' := L) (F' := F) Tryd.results18 rfl rfl (by repeat (first | exact Sub.refl _ _ | refine Sub.trans Sub.drop ?_ | refine Sub.trans Sub.dropF ?_)) h)
        | (have e : decide (x = y) = false := by simp; omega
           rw [e] at h
           exact AK.ret2 (L' := L) (F' := F) Tryd.results18 rfl rfl (by repeat (first | exact Sub.refl _ _ | refine Sub.trans Sub.drop ?_ | refine Sub.trans Sub.dropF ?_)) h)
      · refine AL.go (AO.pickT rfl rfl rfl (AL.go (AO.assign rfl rfl (AL.go (AO.assign rfl rfl (AL.nil (AK.seqN (AC.ret ?_))))))))
        first
        | (have e : decide (x = y) = true := by simp; omega
           rw [e] at h
           exact AK.ret2 (L' := L) (F' := F) Tryd.results18 rfl rfl (by repeat (first | exact Sub.refl _ _ | refine Sub.trans Sub.drop ?_ | refine Sub.trans Sub.dropF ?_)) h)
        | (have e : decide (x = y) = false := by simp; omega
           rw [e] at h
           exact AK.ret2 (L' := L) (F' := F) Tryd.results18 rfl rfl (by repeat (first | exact Sub.refl _ _ | refine Sub.trans Sub.drop ?_ | refine Sub.trans Sub.dropF ?_)) h)
end
end Go.Sy
