/- The text of a type, of any place: the walk. -/
import Derived.Test.YthbngbiodamndaaDoorTyV
namespace Go.Sy
open Go Go.Proofs Go.RowKit

section
variable {T : Int → List UInt8} {l : List Ty} {t : Ty}
theorem own_0 (h : t.kind = 0) : ownT T l t = t.name := by unfold ownT; simp only [h]; rfl
theorem own_1 (h : t.kind = 1) : ownT T l t = [42] ++ T (kidAt t 0) := by unfold ownT; simp only [h]; rfl
theorem own_2 (h : t.kind = 2) : ownT T l t = [91, 93] ++ T (kidAt t 0) := by unfold ownT; simp only [h]; rfl
theorem own_3 (h : t.kind = 3) : ownT T l t = [91] ++ Lib.itoa t.n ++ [93] ++ T (kidAt t 0) := by unfold ownT; simp only [h]; rfl
theorem own_4 (h : t.kind = 4) : ownT T l t = [109, 97, 112, 91] ++ T (kidAt t 0) ++ [93] ++ T (kidAt t 1) := by unfold ownT; simp only [h]; rfl
theorem own_5 (h : t.kind = 5) : ownT T l t = [102, 117, 110, 99] ++ sigT T t := by unfold ownT; simp only [h]; rfl
theorem own_6 (h : t.kind = 6) : ownT T l t = [115, 116, 114, 117, 99, 116, 123] ++ Lib.join ((zipT t).map (wordK T)) [59, 32] ++ [125] := by unfold ownT; simp only [h]; rfl
theorem own_7 (h : t.kind = 7) : ownT T l t = ifaceT T l t := by unfold ownT; simp only [h]; rfl
theorem own_8 (h : t.kind = 8) (hk : (0 : Int) < t.kids.length) : ownT T l t = t.name ++ ([91] ++ Lib.join (t.kids.map T) [44, 32] ++ [93]) := by
  have : ownT T l t = namedT T t := by unfold ownT; simp only [h]; rfl
  rw [this]; unfold namedT; rw [if_pos (by omega)]
theorem own_8n (h : t.kind = 8) (hk : (t.kids.length : Int) ≤ 0) : ownT T l t = t.name := by
  have : ownT T l t = namedT T t := by unfold ownT; simp only [h]; rfl
  rw [this]; unfold namedT; rw [if_neg (by omega)]
theorem own_9 (h : t.kind = 9) : ownT T l t = [35] ++ Lib.itoa t.n := by unfold ownT; simp only [h]; rfl
/-- A struct's words, so far. -/
def stepW (T : Int → List UInt8) (t : Ty) (q : Nat) : List (List UInt8) := ((zipT t).take q).map (wordK T) ++ (t.kids.drop q).map T
theorem stepW_zero : stepW T t 0 = t.kids.map T := by simp [stepW]
theorem stepW_all (hw : t.words.length = t.kids.length) {q : Nat} (hq : t.words.length ≤ q) : stepW T t q = (zipT t).map (wordK T) := by
  have hz := zip_len hw
  unfold stepW
  rw [List.take_of_length_le (by omega), List.drop_eq_nil_of_le (by omega)]; simp
theorem stepW_len (hw : t.words.length = t.kids.length) {q : Nat} (hq : q ≤ t.words.length) : (stepW T t q).length = t.kids.length := by
  have hz := zip_len hw
  unfold stepW
  rw [List.length_append, List.length_map, List.length_map, List.length_take, List.length_drop]; omega
theorem stepW_get (hw : t.words.length = t.kids.length) {q : Nat} (hq : q < t.words.length) (hk : q < t.kids.length) : (stepW T t q)[q]? = some (T t.kids[q]) := by
  have hz := zip_len hw
  unfold stepW
  rw [List.getElem?_append_right (by rw [List.length_map, List.length_take]; omega), List.length_map, List.length_take, List.getElem?_map, List.getElem?_drop]
  have : q + (q - min q (zipT t).length) = q := by omega
  rw [this, List.getElem?_eq_getElem hk]; rfl
theorem stepW_set (hw : t.words.length = t.kids.length) {q : Nat} (hq : q < t.words.length) (hk : q < t.kids.length) : (stepW T t q).set q (t.words[q] ++ [32] ++ T t.kids[q]) = stepW T t (q + 1) := by
  have hz := zip_len hw
  have hqz : q < (zipT t).length := by omega
  unfold stepW
  rw [List.set_append_right _ _ (by rw [List.length_map, List.length_take]; omega), List.length_map, List.length_take, List.drop_eq_getElem_cons hk, List.take_succ_eq_append_getElem hqz]
  have : q - min q (zipT t).length = 0 := by omega
  rw [this, List.map_cons, List.set_cons_zero, List.map_append, zip_get hq hk hqz]
  simp [wordK]
theorem eS_set (ws : List (List UInt8)) (q : Nat) (s : List UInt8) : (ws.map eS).set q [.val (S s)] = (ws.set q s).map eS := by rw [List.map_set]
end
theorem Y.cutT {P : Program} {n : Nat} {ρ : Rho} {A : World → Prop} {a : List UInt8} {x z : Operand} {d : Option Tmp} {t ty : TypeId} {pos : String} {af : Array Edge} {g : Option (Nat × Bool)} [ht : StT P t] (hx : ev ρ x = some (S a)) (hz : ev ρ z = some (.int .i64 (Min.min (a.length : Int) 4001))) : Yd P n ρ A ⟨d, .slice t x none (some z) none, ty, pos, af, g⟩ (S (cutT a)) :=
  Y.sliceSH (j' := Min.min a.length 4001) hx hz (by omega) (by omega)

attribute [local irreducible] AC AT AO AK AH ACalls Sub Res.cells Res.obj Res.nix Res.own Res.map Exit.then Exit.inBlock bodyPost Code.wp Next Post Kont
section
variable {W0 : World} {L : List Res} {F : List Fact} {R : Value → List Res → List Fact → Prop}
set_option maxRecDepth 100000
set_option maxHeartbeats 8000000
theorem textStep_c (g : Glob W0) (l : List Ty) (hok : ∀ t ∈ l, TyOk t) (hright : rightP l) (T : Int → List UInt8) (hT : Texts l T) {a : Option Addr} {k c bw bm n : Nat} (hn : n < l.length) (ih : TextC W0 l T a k c bw bm n)
    {i j : Nat} {m : Int → Option (List UInt8)} (mL : fL l a k c ∈ F) (hi : L[i]? = some (Res.cells bw #[.slice a k c, .map (some bm)] 66)) (hj : L[j]? = some (Res.map bm vI S m)) (hij : i ≠ j) (hm : MapOk T m)
    (h : ∀ m', MapOk T m' → R (S (T (n : Int))) (L.set j (Res.map bm vI S m')) F) : ACalls Tryd.prog W0 33 #[.pointer (some ⟨bw, 0, none⟩), .int .i64 (n : Int)] L F R := by
  have hml : 1000000000 ≤ maxLen := by decide
  have hjl := has_lt hj
  have hTn := hT n hn
  have hT4 : ∀ x : Int, 0 ≤ x → x < l.length → (T x).length ≤ 4001 := fun x h0 h1 => by
    obtain ⟨y, rfl⟩ : ∃ y : Nat, x = (y : Int) := ⟨x.toNat, by omega⟩
    rw [hT y (by omega)]; exact cutT_len _
  have htx := tx_of_right hright hn
  have hto := hok _ (List.getElem_mem hn)
  have hTk : ∀ x ∈ l[n].kids, (T x).length ≤ 4001 := fun x hm => hT4 x (htx.kids x hm).1 (by have := (htx.kids x hm).2; omega)
  refine ACalls.body Tryd.func33 rfl Tryd.ntmps33 rfl ?_
  refine AC.seq (AC.region (AL.go (AO.assign rfl rfl (AL.nil (AK.seqN (AC.seq ?_))))))
  refine AC.seq (AC.region (AL.go (AO.move rfl rfl ?_)))
  refine AL.go (AO.nilCheckP rfl rfl ?_)
  refine AL.go (AO.field rfl rfl ?_)
  refine AL.go (AO.loadB (cs := [.slice a k c, .map (some bm)]) rfl rfl ?_ (hi := hi) (hv := rfl))
  refine AL.go (AO.move rfl rfl ?_)
  refine AL.go (AO.lookupOk (kenc := vI) (venc := S) (m := m) (i := j) (n : Int) rfl rfl rfl hj (fun y18 hy18 => ?_) (fun hn18 => ?_))
  · refine AL.go (AO.move rfl rfl (AL.go (AO.extract rfl rfl rfl ?_)))
    refine AL.go (AO.extract rfl rfl rfl ?_)
    refine AL.go (AO.assign rfl rfl (AL.go (AO.assign rfl rfl (AL.nil (AK.seqN (AC.seq (AC.region ?_)))))))
    refine AL.go (AO.move rfl rfl (AL.nil (AK.seqN (AC.condT rfl (AC.seq (AC.region ?_))))))
    refine AL.go (AO.move rfl rfl (AL.go (AO.assign rfl rfl (AL.nil (AK.seqN (AC.ret (AK.seqR ?_)))))))
    have h := h m hm
    rw [set_same hj, ← hm _ _ hy18] at h
    exact AK.ret Tryd.results33 rfl (Sub.refl _ _) h
  · refine AL.go (AO.move rfl rfl (AL.go (AO.extract rfl rfl rfl ?_)))
    refine AL.go (AO.extract rfl rfl rfl ?_)
    refine AL.go (AO.assign rfl rfl (AL.go (AO.assign rfl rfl (AL.nil (AK.seqN (AC.seq (AC.region ?_)))))))
    refine AL.go (AO.move rfl rfl (AL.nil (AK.seqN (AC.condF rfl (AC.skip (AK.seqN ?_))))))
    refine AC.seq (AC.region (AL.go (AO.move rfl rfl ?_)))
    refine AL.go (AO.nilCheckP rfl rfl ?_)
    refine AL.go (AO.field rfl rfl ?_)
    refine AL.go (AO.loadB (cs := [.slice a k c, .map (some bm)]) rfl rfl ?_ (hi := hi) (hv := rfl))
    refine AL.go (AO.move rfl rfl ?_)
    refine AL.go (AO.indexAddr rfl rfl rfl rfl (by repeat (first | exact mem0 | assumption | refine memS ?_)) hn (fun _ _ => ?_))
    refine AL.go (AO.loadFA rfl rfl ?_)
    intro a29 k29 z29 d29 e29 f29
    have hm9 := hm
    refine AL.go (AO.alloc rfl (fun b7 => ?_))
    refine AL.go (AO.storeBA rfl rfl rfl rfl ?_)
    refine AL.nil (AK.seqN (AC.seq (AC.region (AL.go (AO.assign rfl rfl (AL.nil ?_))))))
    refine AK.seqN (AC.seq (AC.seq (AC.region (AL.go (AO.field rfl rfl ?_)))))
    refine AL.go (AO.loadB rfl rfl ?_)
    refine AL.nil (AK.seqN (AC.block (AC.seq (AC.region ?_))))
    refine AL.go (AO.eql rfl rfl rfl (fun c33 => ?_) (fun c33 => ?_))
    · refine AL.go (AO.assign rfl rfl (AL.nil (AK.seqN (AC.condT rfl (AC.region (AL.go (AO.field rfl rfl ?_)))))))
      refine AL.go (AO.loadB rfl rfl ?_)
      refine AL.go (AO.assign rfl rfl (AL.nil (AK.blkN (AK.seqN (AC.seq ?_)))))
      refine AC.draw (fun i => Nat.beq i 10) [(bw, _, _)] (by repeat (first | exact BxIn.nil | refine BxIn.cons (by repeat (first | exact has0 | assumption | apply hasS)) ?_)) rfl (fun hx hX => ?_)
      refine AH.takeW (i := 0) rfl (Y.move rfl) (by kernel_rfl) rfl rfl ?_
      refine AH.takeW (i := 1) rfl (Y.nilCheckP rfl) (by kernel_rfl) rfl rfl ?_
      refine AH.takeW (i := 2) rfl (Y.field rfl) (by kernel_rfl) rfl rfl ?_
      refine AH.takeS (i := 3) rfl (Y.loadB rfl (by repeat (first | exact List.Mem.head _ | refine List.Mem.tail _ ?_)) (by rfl)) (by kernel_rfl) (by kernel_rfl) rfl rfl rfl ?_
      refine AH.takeW (i := 4) rfl (Y.move rfl) (by kernel_rfl) rfl rfl ?_
      refine AH.takeW (i := 5) rfl (Y.move rfl) (by kernel_rfl) rfl rfl ?_
      refine AH.takeW (i := 6) rfl (Y.move rfl) (by kernel_rfl) rfl rfl ?_
      refine AH.takeW (i := 7) rfl (Y.lenS rfl) (by kernel_rfl) rfl rfl ?_
      refine AH.takeW (i := 8) rfl (Y.min rfl rfl) (by kernel_rfl) rfl rfl ?_
      refine AH.takeW (i := 9) rfl (Y.cutT rfl rfl) (by kernel_rfl) rfl rfl ?_
      refine AH.one (i := 10) (by kernel_rfl) rfl rfl (fun _ => ?_)
      refine AO.mapUpdate (kenc := vI) (venc := S) (i := j + 1) (n : Int) _ rfl rfl rfl (by first | exact hj | exact List.getElem?_set_self hjl) ?_
      simp only [List.set_cons_zero, List.set_cons_succ, List.set_set]
      refine AT.spoilt rfl ?_
      refine AH.done (by kernel_rfl) ?_
      refine AK.seqN (AC.seq (AC.region (AL.go (AO.move rfl rfl ?_))))
      refine AL.go (AO.nilCheckP rfl rfl ?_)
      refine AL.go (AO.field rfl rfl ?_)
      refine AL.go (AO.loadB (cs := [.slice a k c, .map (some bm)]) rfl rfl ?_ (i := i + 1) (hi := (set_at hi hij : (List.set L j _)[i]? = _)) (hv := rfl))
      refine AL.go (AO.move rfl rfl ?_)
      refine AL.go (AO.lookup (kenc := vI) (venc := S) (i := j + 1) (n : Int) rfl rfl rfl (List.getElem?_set_self hjl : (List.set L j _)[j]? = _) ?_)
      rw [upd_self]
      refine AL.go (AO.assign rfl rfl (AL.nil (AK.seqN (AC.ret ?_))))
      first
      | (rw [own_0 c33] at hTn; rw [hTn] at h; exact AK.ret Tryd.results33 rfl (by repeat (first | exact Sub.refl _ _ | refine Sub.trans Sub.drop ?_ | refine Sub.trans Sub.dropF ?_)) (h _ (hm9.upd hTn.symm)))
      | (rw [own_1 c37, kid_get hk0] at hTn; rw [hTn] at h; exact AK.ret Tryd.results33 rfl (by repeat (first | exact Sub.refl _ _ | refine Sub.trans Sub.drop ?_ | refine Sub.trans Sub.dropF ?_)) (h _ (hm9.upd hTn.symm)))
      | (rw [own_2 c46, kid_get hk0] at hTn; rw [hTn] at h; exact AK.ret Tryd.results33 rfl (by repeat (first | exact Sub.refl _ _ | refine Sub.trans Sub.drop ?_ | refine Sub.trans Sub.dropF ?_)) (h _ (hm9.upd hTn.symm)))
      | (rw [own_3 c55, kid_get hk0] at hTn; rw [hTn] at h; exact AK.ret Tryd.results33 rfl (by repeat (first | exact Sub.refl _ _ | refine Sub.trans Sub.drop ?_ | refine Sub.trans Sub.dropF ?_)) (h _ (hm9.upd hTn.symm)))
      | (rw [own_4 c69, kid_get hk0, kid_get hk1] at hTn; rw [hTn] at h; exact AK.ret Tryd.results33 rfl (by repeat (first | exact Sub.refl _ _ | refine Sub.trans Sub.drop ?_ | refine Sub.trans Sub.dropF ?_)) (h _ (hm9.upd hTn.symm)))
      | (rw [own_5 c86] at hTn; rw [hTn] at h; exact AK.ret Tryd.results33 rfl (by repeat (first | exact Sub.refl _ _ | refine Sub.trans Sub.drop ?_ | refine Sub.trans Sub.dropF ?_)) (h _ (hm9.upd hTn.symm)))
      | (rw [own_6 c92] at hTn; rw [hTn] at h; exact AK.ret Tryd.results33 rfl (by repeat (first | exact Sub.refl _ _ | refine Sub.trans Sub.drop ?_ | refine Sub.trans Sub.dropF ?_)) (h _ (hm9.upd hTn.symm)))
      | (rw [own_7 c121] at hTn; rw [hTn] at h; exact AK.ret Tryd.results33 rfl (by repeat (first | exact Sub.refl _ _ | refine Sub.trans Sub.drop ?_ | refine Sub.trans Sub.dropF ?_)) (h _ (hm9.upd hTn.symm)))
      | (rw [own_8 c126 c132] at hTn; rw [hTn] at h; exact AK.ret Tryd.results33 rfl (by repeat (first | exact Sub.refl _ _ | refine Sub.trans Sub.drop ?_ | refine Sub.trans Sub.dropF ?_)) (h _ (hm9.upd hTn.symm)))
      | (rw [own_8n c126 c132] at hTn; rw [hTn] at h; exact AK.ret Tryd.results33 rfl (by repeat (first | exact Sub.refl _ _ | refine Sub.trans Sub.drop ?_ | refine Sub.trans Sub.dropF ?_)) (h _ (hm9.upd hTn.symm)))
      | (rw [own_9 c143] at hTn; rw [hTn] at h; exact AK.ret Tryd.results33 rfl (by repeat (first | exact Sub.refl _ _ | refine Sub.trans Sub.drop ?_ | refine Sub.trans Sub.dropF ?_)) (h _ (hm9.upd hTn.symm)))
    · refine AL.go (AO.assign rfl rfl (AL.nil (AK.seqN (AC.condF rfl (AC.seq (AC.region ?_))))))
      refine AL.go (AO.eql rfl rfl rfl (fun c37 => ?_) (fun c37 => ?_))
      · refine AL.go (AO.assign rfl rfl (AL.nil (AK.seqN (AC.condT rfl (AC.region (AL.go (AO.move rfl rfl ?_)))))))
        refine AL.go (AO.field rfl rfl ?_)
        refine AL.go (AO.loadB rfl rfl ?_)
        have hk0 : 0 < l[n].kids.length := by have := htx.one (.inl c37); omega
        have hb := htx.kids _ (List.getElem_mem hk0)
        have hT0 := hTk _ (List.getElem_mem hk0)
        refine AL.go (AO.indexAddr (k := 0) rfl rfl rfl rfl (show fK l[n] _ _ _ ∈ _ from (by repeat (first | exact mem0 | assumption | refine memS ?_))) hk0 (fun _ _ => ?_))
        refine AL.go (AO.loadF rfl rfl ?_)
        intros
        refine AL.go (AO.call rfl rfl (ih l[n].kids[0] hb.1 hb.2 _ _ _ (i + 1) (j + 1) m (by repeat (first | exact mem0 | assumption | refine memS ?_)) hi hj (by omega) hm (fun m9 hm9 => ?_)))
        have hi9 : (L.set j (Res.map bm vI S m9))[i]? = some (Res.cells bw #[.slice a k c, .map (some bm)] 66) := set_at hi hij
        simp only [List.set_cons_zero, List.set_cons_succ]
        refine AL.go (AO.addS rfl rfl rfl (by simp only [List.length_cons, List.length_nil]; omega) ?_)
        refine AL.go (AO.assign rfl rfl (AL.nil (AK.blkN (AK.seqN (AC.seq ?_)))))
        refine AC.draw (fun i => Nat.beq i 10) [(bw, _, _)] (by repeat (first | exact BxIn.nil | refine BxIn.cons (by repeat (first | exact has0 | assumption | apply hasS)) ?_)) rfl (fun hx hX => ?_)
        refine AH.takeW (i := 0) rfl (Y.move rfl) (by kernel_rfl) rfl rfl ?_
        refine AH.takeW (i := 1) rfl (Y.nilCheckP rfl) (by kernel_rfl) rfl rfl ?_
        refine AH.takeW (i := 2) rfl (Y.field rfl) (by kernel_rfl) rfl rfl ?_
        refine AH.takeS (i := 3) rfl (Y.loadB rfl (by repeat (first | exact List.Mem.head _ | refine List.Mem.tail _ ?_)) (by rfl)) (by kernel_rfl) (by kernel_rfl) rfl rfl rfl ?_
        refine AH.takeW (i := 4) rfl (Y.move rfl) (by kernel_rfl) rfl rfl ?_
        refine AH.takeW (i := 5) rfl (Y.move rfl) (by kernel_rfl) rfl rfl ?_
        refine AH.takeW (i := 6) rfl (Y.move rfl) (by kernel_rfl) rfl rfl ?_
        refine AH.takeW (i := 7) rfl (Y.lenS rfl) (by kernel_rfl) rfl rfl ?_
        refine AH.takeW (i := 8) rfl (Y.min rfl rfl) (by kernel_rfl) rfl rfl ?_
        refine AH.takeW (i := 9) rfl (Y.cutT rfl rfl) (by kernel_rfl) rfl rfl ?_
        refine AH.one (i := 10) (by kernel_rfl) rfl rfl (fun _ => ?_)
        refine AO.mapUpdate (kenc := vI) (venc := S) (i := j + 1) (n : Int) _ rfl rfl rfl (by first | exact hj | exact List.getElem?_set_self hjl) ?_
        simp only [List.set_cons_zero, List.set_cons_succ, List.set_set]
        refine AT.spoilt rfl ?_
        refine AH.done (by kernel_rfl) ?_
        refine AK.seqN (AC.seq (AC.region (AL.go (AO.move rfl rfl ?_))))
        refine AL.go (AO.nilCheckP rfl rfl ?_)
        refine AL.go (AO.field rfl rfl ?_)
        refine AL.go (AO.loadB (cs := [.slice a k c, .map (some bm)]) rfl rfl ?_ (i := i + 1) (hi := (set_at hi hij : (List.set L j _)[i]? = _)) (hv := rfl))
        refine AL.go (AO.move rfl rfl ?_)
        refine AL.go (AO.lookup (kenc := vI) (venc := S) (i := j + 1) (n : Int) rfl rfl rfl (List.getElem?_set_self hjl : (List.set L j _)[j]? = _) ?_)
        rw [upd_self]
        refine AL.go (AO.assign rfl rfl (AL.nil (AK.seqN (AC.ret ?_))))
        first
        | (rw [own_0 c33] at hTn; rw [hTn] at h; exact AK.ret Tryd.results33 rfl (by repeat (first | exact Sub.refl _ _ | refine Sub.trans Sub.drop ?_ | refine Sub.trans Sub.dropF ?_)) (h _ (hm9.upd hTn.symm)))
        | (rw [own_1 c37, kid_get hk0] at hTn; rw [hTn] at h; exact AK.ret Tryd.results33 rfl (by repeat (first | exact Sub.refl _ _ | refine Sub.trans Sub.drop ?_ | refine Sub.trans Sub.dropF ?_)) (h _ (hm9.upd hTn.symm)))
        | (rw [own_2 c46, kid_get hk0] at hTn; rw [hTn] at h; exact AK.ret Tryd.results33 rfl (by repeat (first | exact Sub.refl _ _ | refine Sub.trans Sub.drop ?_ | refine Sub.trans Sub.dropF ?_)) (h _ (hm9.upd hTn.symm)))
        | (rw [own_3 c55, kid_get hk0] at hTn; rw [hTn] at h; exact AK.ret Tryd.results33 rfl (by repeat (first | exact Sub.refl _ _ | refine Sub.trans Sub.drop ?_ | refine Sub.trans Sub.dropF ?_)) (h _ (hm9.upd hTn.symm)))
        | (rw [own_4 c69, kid_get hk0, kid_get hk1] at hTn; rw [hTn] at h; exact AK.ret Tryd.results33 rfl (by repeat (first | exact Sub.refl _ _ | refine Sub.trans Sub.drop ?_ | refine Sub.trans Sub.dropF ?_)) (h _ (hm9.upd hTn.symm)))
        | (rw [own_5 c86] at hTn; rw [hTn] at h; exact AK.ret Tryd.results33 rfl (by repeat (first | exact Sub.refl _ _ | refine Sub.trans Sub.drop ?_ | refine Sub.trans Sub.dropF ?_)) (h _ (hm9.upd hTn.symm)))
        | (rw [own_6 c92] at hTn; rw [hTn] at h; exact AK.ret Tryd.results33 rfl (by repeat (first | exact Sub.refl _ _ | refine Sub.trans Sub.drop ?_ | refine Sub.trans Sub.dropF ?_)) (h _ (hm9.upd hTn.symm)))
        | (rw [own_7 c121] at hTn; rw [hTn] at h; exact AK.ret Tryd.results33 rfl (by repeat (first | exact Sub.refl _ _ | refine Sub.trans Sub.drop ?_ | refine Sub.trans Sub.dropF ?_)) (h _ (hm9.upd hTn.symm)))
        | (rw [own_8 c126 c132] at hTn; rw [hTn] at h; exact AK.ret Tryd.results33 rfl (by repeat (first | exact Sub.refl _ _ | refine Sub.trans Sub.drop ?_ | refine Sub.trans Sub.dropF ?_)) (h _ (hm9.upd hTn.symm)))
        | (rw [own_8n c126 c132] at hTn; rw [hTn] at h; exact AK.ret Tryd.results33 rfl (by repeat (first | exact Sub.refl _ _ | refine Sub.trans Sub.drop ?_ | refine Sub.trans Sub.dropF ?_)) (h _ (hm9.upd hTn.symm)))
        | (rw [own_9 c143] at hTn; rw [hTn] at h; exact AK.ret Tryd.results33 rfl (by repeat (first | exact Sub.refl _ _ | refine Sub.trans Sub.drop ?_ | refine Sub.trans Sub.dropF ?_)) (h _ (hm9.upd hTn.symm)))
      · refine AL.go (AO.assign rfl rfl (AL.nil (AK.seqN (AC.condF rfl (AC.seq (AC.region ?_))))))
        refine AL.go (AO.eql rfl rfl rfl (fun c46 => ?_) (fun c46 => ?_))
        · refine AL.go (AO.assign rfl rfl (AL.nil (AK.seqN (AC.condT rfl (AC.region (AL.go (AO.move rfl rfl ?_)))))))
          refine AL.go (AO.field rfl rfl ?_)
          refine AL.go (AO.loadB rfl rfl ?_)
          have hk0 : 0 < l[n].kids.length := by have := htx.one (.inr (.inl c46)); omega
          have hb := htx.kids _ (List.getElem_mem hk0)
          have hT0 := hTk _ (List.getElem_mem hk0)
          refine AL.go (AO.indexAddr (k := 0) rfl rfl rfl rfl (show fK l[n] _ _ _ ∈ _ from (by repeat (first | exact mem0 | assumption | refine memS ?_))) hk0 (fun _ _ => ?_))
          refine AL.go (AO.loadF rfl rfl ?_)
          intros
          refine AL.go (AO.call rfl rfl (ih l[n].kids[0] hb.1 hb.2 _ _ _ (i + 1) (j + 1) m (by repeat (first | exact mem0 | assumption | refine memS ?_)) hi hj (by omega) hm (fun m9 hm9 => ?_)))
          have hi9 : (L.set j (Res.map bm vI S m9))[i]? = some (Res.cells bw #[.slice a k c, .map (some bm)] 66) := set_at hi hij
          simp only [List.set_cons_zero, List.set_cons_succ]
          refine AL.go (AO.addS rfl rfl rfl (by simp only [List.length_cons, List.length_nil]; omega) ?_)
          refine AL.go (AO.assign rfl rfl (AL.nil (AK.blkN (AK.seqN (AC.seq ?_)))))
          refine AC.draw (fun i => Nat.beq i 10) [(bw, _, _)] (by repeat (first | exact BxIn.nil | refine BxIn.cons (by repeat (first | exact has0 | assumption | apply hasS)) ?_)) rfl (fun hx hX => ?_)
          refine AH.takeW (i := 0) rfl (Y.move rfl) (by kernel_rfl) rfl rfl ?_
          refine AH.takeW (i := 1) rfl (Y.nilCheckP rfl) (by kernel_rfl) rfl rfl ?_
          refine AH.takeW (i := 2) rfl (Y.field rfl) (by kernel_rfl) rfl rfl ?_
          refine AH.takeS (i := 3) rfl (Y.loadB rfl (by repeat (first | exact List.Mem.head _ | refine List.Mem.tail _ ?_)) (by rfl)) (by kernel_rfl) (by kernel_rfl) rfl rfl rfl ?_
          refine AH.takeW (i := 4) rfl (Y.move rfl) (by kernel_rfl) rfl rfl ?_
          refine AH.takeW (i := 5) rfl (Y.move rfl) (by kernel_rfl) rfl rfl ?_
          refine AH.takeW (i := 6) rfl (Y.move rfl) (by kernel_rfl) rfl rfl ?_
          refine AH.takeW (i := 7) rfl (Y.lenS rfl) (by kernel_rfl) rfl rfl ?_
          refine AH.takeW (i := 8) rfl (Y.min rfl rfl) (by kernel_rfl) rfl rfl ?_
          refine AH.takeW (i := 9) rfl (Y.cutT rfl rfl) (by kernel_rfl) rfl rfl ?_
          refine AH.one (i := 10) (by kernel_rfl) rfl rfl (fun _ => ?_)
          refine AO.mapUpdate (kenc := vI) (venc := S) (i := j + 1) (n : Int) _ rfl rfl rfl (by first | exact hj | exact List.getElem?_set_self hjl) ?_
          simp only [List.set_cons_zero, List.set_cons_succ, List.set_set]
          refine AT.spoilt rfl ?_
          refine AH.done (by kernel_rfl) ?_
          refine AK.seqN (AC.seq (AC.region (AL.go (AO.move rfl rfl ?_))))
          refine AL.go (AO.nilCheckP rfl rfl ?_)
          refine AL.go (AO.field rfl rfl ?_)
          refine AL.go (AO.loadB (cs := [.slice a k c, .map (some bm)]) rfl rfl ?_ (i := i + 1) (hi := (set_at hi hij : (List.set L j _)[i]? = _)) (hv := rfl))
          refine AL.go (AO.move rfl rfl ?_)
          refine AL.go (AO.lookup (kenc := vI) (venc := S) (i := j + 1) (n : Int) rfl rfl rfl (List.getElem?_set_self hjl : (List.set L j _)[j]? = _) ?_)
          rw [upd_self]
          refine AL.go (AO.assign rfl rfl (AL.nil (AK.seqN (AC.ret ?_))))
          first
          | (rw [own_0 c33] at hTn; rw [hTn] at h; exact AK.ret Tryd.results33 rfl (by repeat (first | exact Sub.refl _ _ | refine Sub.trans Sub.drop ?_ | refine Sub.trans Sub.dropF ?_)) (h _ (hm9.upd hTn.symm)))
          | (rw [own_1 c37, kid_get hk0] at hTn; rw [hTn] at h; exact AK.ret Tryd.results33 rfl (by repeat (first | exact Sub.refl _ _ | refine Sub.trans Sub.drop ?_ | refine Sub.trans Sub.dropF ?_)) (h _ (hm9.upd hTn.symm)))
          | (rw [own_2 c46, kid_get hk0] at hTn; rw [hTn] at h; exact AK.ret Tryd.results33 rfl (by repeat (first | exact Sub.refl _ _ | refine Sub.trans Sub.drop ?_ | refine Sub.trans Sub.dropF ?_)) (h _ (hm9.upd hTn.symm)))
          | (rw [own_3 c55, kid_get hk0] at hTn; rw [hTn] at h; exact AK.ret Tryd.results33 rfl (by repeat (first | exact Sub.refl _ _ | refine Sub.trans Sub.drop ?_ | refine Sub.trans Sub.dropF ?_)) (h _ (hm9.upd hTn.symm)))
          | (rw [own_4 c69, kid_get hk0, kid_get hk1] at hTn; rw [hTn] at h; exact AK.ret Tryd.results33 rfl (by repeat (first | exact Sub.refl _ _ | refine Sub.trans Sub.drop ?_ | refine Sub.trans Sub.dropF ?_)) (h _ (hm9.upd hTn.symm)))
          | (rw [own_5 c86] at hTn; rw [hTn] at h; exact AK.ret Tryd.results33 rfl (by repeat (first | exact Sub.refl _ _ | refine Sub.trans Sub.drop ?_ | refine Sub.trans Sub.dropF ?_)) (h _ (hm9.upd hTn.symm)))
          | (rw [own_6 c92] at hTn; rw [hTn] at h; exact AK.ret Tryd.results33 rfl (by repeat (first | exact Sub.refl _ _ | refine Sub.trans Sub.drop ?_ | refine Sub.trans Sub.dropF ?_)) (h _ (hm9.upd hTn.symm)))
          | (rw [own_7 c121] at hTn; rw [hTn] at h; exact AK.ret Tryd.results33 rfl (by repeat (first | exact Sub.refl _ _ | refine Sub.trans Sub.drop ?_ | refine Sub.trans Sub.dropF ?_)) (h _ (hm9.upd hTn.symm)))
          | (rw [own_8 c126 c132] at hTn; rw [hTn] at h; exact AK.ret Tryd.results33 rfl (by repeat (first | exact Sub.refl _ _ | refine Sub.trans Sub.drop ?_ | refine Sub.trans Sub.dropF ?_)) (h _ (hm9.upd hTn.symm)))
          | (rw [own_8n c126 c132] at hTn; rw [hTn] at h; exact AK.ret Tryd.results33 rfl (by repeat (first | exact Sub.refl _ _ | refine Sub.trans Sub.drop ?_ | refine Sub.trans Sub.dropF ?_)) (h _ (hm9.upd hTn.symm)))
          | (rw [own_9 c143] at hTn; rw [hTn] at h; exact AK.ret Tryd.results33 rfl (by repeat (first | exact Sub.refl _ _ | refine Sub.trans Sub.drop ?_ | refine Sub.trans Sub.dropF ?_)) (h _ (hm9.upd hTn.symm)))
        · refine AL.go (AO.assign rfl rfl (AL.nil (AK.seqN (AC.condF rfl (AC.seq (AC.region ?_))))))
          refine AL.go (AO.eql rfl rfl rfl (fun c55 => ?_) (fun c55 => ?_))
          · refine AL.go (AO.assign rfl rfl (AL.nil (AK.seqN (AC.condT rfl ?_))))
            refine AC.draw (fun _ => false) [(b7, _, _)] (by repeat (first | exact BxIn.nil | refine BxIn.cons (by repeat (first | exact has0 | assumption | apply hasS)) ?_)) rfl (fun hx hX => ?_)
            have hk0 : 0 < l[n].kids.length := by have := htx.one (.inr (.inr c55)); omega
            have hb := htx.kids _ (List.getElem_mem hk0)
            have hT0 := hTk _ (List.getElem_mem hk0)
            have hil : (Lib.itoa l[n].n).length ≤ 20 := itoa_len hto.n
            have hkk := (len_of_fact (hX (fK l[n] d29 e29 f29) (by repeat (first | exact mem0 | assumption | refine memS ?_)))).1
            obtain ⟨p2, o2, e2, atq⟩ := row_of_fact (hX (fK l[n] d29 e29 f29) (by repeat (first | exact mem0 | assumption | refine memS ?_))) hk0
            subst e2
            obtain ⟨vq, hvq, hcq⟩ := atq 0 _ rfl
            cases hcq
            refine AH.takeW (i := 0) rfl (Y.field rfl) (by kernel_rfl) rfl rfl ?_
            refine AH.takeS (i := 1) rfl (Y.loadB rfl (by repeat (first | exact List.Mem.head _ | refine List.Mem.tail _ ?_)) (by rfl)) (by kernel_rfl) (by kernel_rfl) rfl rfl rfl ?_
            refine AH.takeW (i := 5) rfl (Y.move rfl) (by kernel_rfl) rfl rfl ?_
            refine AH.takeW (i := 6) rfl (Y.field rfl) (by kernel_rfl) rfl rfl ?_
            refine AH.takeS (i := 7) rfl (Y.loadB rfl (by repeat (first | exact List.Mem.head _ | refine List.Mem.tail _ ?_)) (by rfl)) (by kernel_rfl) (by kernel_rfl) rfl rfl rfl ?_
            refine AH.takeW (i := 8) rfl (Y.indexAddr (k := 0) rfl rfl rfl (by omega)) (by kernel_rfl) rfl rfl ?_
            refine AH.takeS (i := 9) rfl (Y.loadF rfl hvq) (by kernel_rfl) (by kernel_rfl) rfl rfl rfl ?_
            refine AH.one (i := 2) (by kernel_rfl) rfl rfl (fun _ => ?_)
            refine AO.call rfl rfl (itoa_c g _ hto.n ?_)
            refine AT.held (by repeat (first | exact BxIn.nil | refine BxIn.cons (by repeat (first | exact has0 | assumption | apply hasS)) ?_)) (by repeat (first | exact mem0 | refine memS ?_)) ?_
            refine AH.takeW (i := 3) rfl (Y.addS rfl rfl (by simp only [List.length_cons, List.length_nil]; omega)) (by kernel_rfl) rfl rfl ?_
            refine AH.takeW (i := 4) rfl (Y.addS rfl rfl (by simp only [List.length_append, List.length_cons, List.length_nil]; omega)) (by kernel_rfl) rfl rfl ?_
            refine AH.one (i := 10) (by kernel_rfl) rfl rfl (fun _ => ?_)
            refine AO.call rfl rfl (ih l[n].kids[0] hb.1 hb.2 _ _ _ (i + 1) (j + 1) m (by repeat (first | exact mem0 | assumption | refine memS ?_)) hi hj (by omega) hm (fun m9 hm9 => ?_))
            have hi9 : (L.set j (Res.map bm vI S m9))[i]? = some (Res.cells bw #[.slice a k c, .map (some bm)] 66) := set_at hi hij
            simp only [List.set_cons_zero, List.set_cons_succ]
            refine AT.held (by repeat (first | exact BxIn.nil | refine BxIn.cons (by repeat (first | exact has0 | assumption | apply hasS)) ?_)) (by repeat (first | exact mem0 | refine memS ?_)) ?_
            refine AH.takeW (i := 11) rfl (Y.addS rfl rfl (by simp only [List.length_append, List.length_cons, List.length_nil]; omega)) (by kernel_rfl) rfl rfl ?_
            refine AH.takeW (i := 12) rfl (Y.assign rfl) (by kernel_rfl) rfl rfl ?_
            refine AH.done (by kernel_rfl) ?_
            refine AK.blkN (AK.seqN (AC.seq ?_))
            refine AC.draw (fun i => Nat.beq i 10) [(bw, _, _)] (by repeat (first | exact BxIn.nil | refine BxIn.cons (by repeat (first | exact has0 | assumption | apply hasS)) ?_)) rfl (fun hx hX => ?_)
            refine AH.takeW (i := 0) rfl (Y.move rfl) (by kernel_rfl) rfl rfl ?_
            refine AH.takeW (i := 1) rfl (Y.nilCheckP rfl) (by kernel_rfl) rfl rfl ?_
            refine AH.takeW (i := 2) rfl (Y.field rfl) (by kernel_rfl) rfl rfl ?_
            refine AH.takeS (i := 3) rfl (Y.loadB rfl (by repeat (first | exact List.Mem.head _ | refine List.Mem.tail _ ?_)) (by rfl)) (by kernel_rfl) (by kernel_rfl) rfl rfl rfl ?_
            refine AH.takeW (i := 4) rfl (Y.move rfl) (by kernel_rfl) rfl rfl ?_
            refine AH.takeW (i := 5) rfl (Y.move rfl) (by kernel_rfl) rfl rfl ?_
            refine AH.takeW (i := 6) rfl (Y.move rfl) (by kernel_rfl) rfl rfl ?_
            refine AH.takeW (i := 7) rfl (Y.lenS rfl) (by kernel_rfl) rfl rfl ?_
            refine AH.takeW (i := 8) rfl (Y.min rfl rfl) (by kernel_rfl) rfl rfl ?_
            refine AH.takeW (i := 9) rfl (Y.cutT rfl rfl) (by kernel_rfl) rfl rfl ?_
            refine AH.one (i := 10) (by kernel_rfl) rfl rfl (fun _ => ?_)
            refine AO.mapUpdate (kenc := vI) (venc := S) (i := j + 1) (n : Int) _ rfl rfl rfl (by first | exact hj | exact List.getElem?_set_self hjl) ?_
            simp only [List.set_cons_zero, List.set_cons_succ, List.set_set]
            refine AT.spoilt rfl ?_
            refine AH.done (by kernel_rfl) ?_
            refine AK.seqN (AC.seq (AC.region (AL.go (AO.move rfl rfl ?_))))
            refine AL.go (AO.nilCheckP rfl rfl ?_)
            refine AL.go (AO.field rfl rfl ?_)
            refine AL.go (AO.loadB (cs := [.slice a k c, .map (some bm)]) rfl rfl ?_ (i := i + 1) (hi := (set_at hi hij : (List.set L j _)[i]? = _)) (hv := rfl))
            refine AL.go (AO.move rfl rfl ?_)
            refine AL.go (AO.lookup (kenc := vI) (venc := S) (i := j + 1) (n : Int) rfl rfl rfl (List.getElem?_set_self hjl : (List.set L j _)[j]? = _) ?_)
            rw [upd_self]
            refine AL.go (AO.assign rfl rfl (AL.nil (AK.seqN (AC.ret ?_))))
            first
            | (rw [own_0 c33] at hTn; rw [hTn] at h; exact AK.ret Tryd.results33 rfl (by repeat (first | exact Sub.refl _ _ | refine Sub.trans Sub.drop ?_ | refine Sub.trans Sub.dropF ?_)) (h _ (hm9.upd hTn.symm)))
            | (rw [own_1 c37, kid_get hk0] at hTn; rw [hTn] at h; exact AK.ret Tryd.results33 rfl (by repeat (first | exact Sub.refl _ _ | refine Sub.trans Sub.drop ?_ | refine Sub.trans Sub.dropF ?_)) (h _ (hm9.upd hTn.symm)))
            | (rw [own_2 c46, kid_get hk0] at hTn; rw [hTn] at h; exact AK.ret Tryd.results33 rfl (by repeat (first | exact Sub.refl _ _ | refine Sub.trans Sub.drop ?_ | refine Sub.trans Sub.dropF ?_)) (h _ (hm9.upd hTn.symm)))
            | (rw [own_3 c55, kid_get hk0] at hTn; rw [hTn] at h; exact AK.ret Tryd.results33 rfl (by repeat (first | exact Sub.refl _ _ | refine Sub.trans Sub.drop ?_ | refine Sub.trans Sub.dropF ?_)) (h _ (hm9.upd hTn.symm)))
            | (rw [own_4 c69, kid_get hk0, kid_get hk1] at hTn; rw [hTn] at h; exact AK.ret Tryd.results33 rfl (by repeat (first | exact Sub.refl _ _ | refine Sub.trans Sub.drop ?_ | refine Sub.trans Sub.dropF ?_)) (h _ (hm9.upd hTn.symm)))
            | (rw [own_5 c86] at hTn; rw [hTn] at h; exact AK.ret Tryd.results33 rfl (by repeat (first | exact Sub.refl _ _ | refine Sub.trans Sub.drop ?_ | refine Sub.trans Sub.dropF ?_)) (h _ (hm9.upd hTn.symm)))
            | (rw [own_6 c92] at hTn; rw [hTn] at h; exact AK.ret Tryd.results33 rfl (by repeat (first | exact Sub.refl _ _ | refine Sub.trans Sub.drop ?_ | refine Sub.trans Sub.dropF ?_)) (h _ (hm9.upd hTn.symm)))
            | (rw [own_7 c121] at hTn; rw [hTn] at h; exact AK.ret Tryd.results33 rfl (by repeat (first | exact Sub.refl _ _ | refine Sub.trans Sub.drop ?_ | refine Sub.trans Sub.dropF ?_)) (h _ (hm9.upd hTn.symm)))
            | (rw [own_8 c126 c132] at hTn; rw [hTn] at h; exact AK.ret Tryd.results33 rfl (by repeat (first | exact Sub.refl _ _ | refine Sub.trans Sub.drop ?_ | refine Sub.trans Sub.dropF ?_)) (h _ (hm9.upd hTn.symm)))
            | (rw [own_8n c126 c132] at hTn; rw [hTn] at h; exact AK.ret Tryd.results33 rfl (by repeat (first | exact Sub.refl _ _ | refine Sub.trans Sub.drop ?_ | refine Sub.trans Sub.dropF ?_)) (h _ (hm9.upd hTn.symm)))
            | (rw [own_9 c143] at hTn; rw [hTn] at h; exact AK.ret Tryd.results33 rfl (by repeat (first | exact Sub.refl _ _ | refine Sub.trans Sub.drop ?_ | refine Sub.trans Sub.dropF ?_)) (h _ (hm9.upd hTn.symm)))
          · refine AL.go (AO.assign rfl rfl (AL.nil (AK.seqN (AC.condF rfl (AC.seq (AC.region ?_))))))
            refine AL.go (AO.eql rfl rfl rfl (fun c69 => ?_) (fun c69 => ?_))
            · refine AL.go (AO.assign rfl rfl (AL.nil (AK.seqN (AC.condT rfl ?_))))
              refine AC.draw (fun _ => false) [(b7, _, _)] (by repeat (first | exact BxIn.nil | refine BxIn.cons (by repeat (first | exact has0 | assumption | apply hasS)) ?_)) rfl (fun hx hX => ?_)
              have hk2 := htx.two c69
              have hk0 : 0 < l[n].kids.length := by omega
              have hk1 : 1 < l[n].kids.length := by omega
              have hb := htx.kids _ (List.getElem_mem hk0)
              have hb1 := htx.kids _ (List.getElem_mem hk1)
              have hT0 := hTk _ (List.getElem_mem hk0)
              have hT1 := hTk _ (List.getElem_mem hk1)
              have hkk := (len_of_fact (hX (fK l[n] d29 e29 f29) (by repeat (first | exact mem0 | assumption | refine memS ?_)))).1
              obtain ⟨p2, o2, e2, atq⟩ := row_of_fact (hX (fK l[n] d29 e29 f29) (by repeat (first | exact mem0 | assumption | refine memS ?_))) hk0
              subst e2
              obtain ⟨vq, hvq, hcq⟩ := atq 0 _ rfl
              cases hcq
              obtain ⟨p3, o3, e3, atr⟩ := row_of_fact (hX (fK l[n] (some ⟨p2, o2, none⟩) e29 f29) (by repeat (first | exact mem0 | assumption | refine memS ?_))) hk1
              cases e3
              obtain ⟨vr, hvr, hcr⟩ := atr 0 _ rfl
              cases hcr
              refine AH.takeW (i := 0) rfl (Y.move rfl) (by kernel_rfl) rfl rfl ?_
              refine AH.takeW (i := 1) rfl (Y.field rfl) (by kernel_rfl) rfl rfl ?_
              refine AH.takeS (i := 2) rfl (Y.loadB rfl (by repeat (first | exact List.Mem.head _ | refine List.Mem.tail _ ?_)) (by rfl)) (by kernel_rfl) (by kernel_rfl) rfl rfl rfl ?_
              refine AH.takeW (i := 3) rfl (Y.indexAddr (k := 0) rfl rfl rfl (by omega)) (by kernel_rfl) rfl rfl ?_
              refine AH.takeS (i := 4) rfl (Y.loadF rfl hvq) (by kernel_rfl) (by kernel_rfl) rfl rfl rfl ?_
              refine AH.takeW (i := 8) rfl (Y.move rfl) (by kernel_rfl) rfl rfl ?_
              refine AH.takeW (i := 9) rfl (Y.field rfl) (by kernel_rfl) rfl rfl ?_
              refine AH.takeS (i := 10) rfl (Y.loadB rfl (by repeat (first | exact List.Mem.head _ | refine List.Mem.tail _ ?_)) (by rfl)) (by kernel_rfl) (by kernel_rfl) rfl rfl rfl ?_
              refine AH.takeW (i := 11) rfl (Y.indexAddr (k := 1) rfl rfl rfl (by omega)) (by kernel_rfl) rfl rfl ?_
              refine AH.takeS (i := 12) rfl (Y.loadF rfl hvr) (by kernel_rfl) (by kernel_rfl) rfl rfl rfl ?_
              refine AH.one (i := 5) (by kernel_rfl) rfl rfl (fun _ => ?_)
              refine AO.call rfl rfl (ih l[n].kids[0] hb.1 hb.2 _ _ _ (i + 1) (j + 1) m (by repeat (first | exact mem0 | assumption | refine memS ?_)) hi hj (by omega) hm (fun m8 hm8 => ?_))
              have hi8 : (L.set j (Res.map bm vI S m8))[i]? = some (Res.cells bw #[.slice a k c, .map (some bm)] 66) := set_at hi hij
              have hj8 : (L.set j (Res.map bm vI S m8))[j]? = some (Res.map bm vI S m8) := List.getElem?_set_self hjl
              simp only [List.set_cons_zero, List.set_cons_succ]
              refine AT.held (by repeat (first | exact BxIn.nil | refine BxIn.cons (by repeat (first | exact has0 | assumption | apply hasS)) ?_)) (by repeat (first | exact mem0 | refine memS ?_)) ?_
              refine AH.takeW (i := 6) rfl (Y.addS rfl rfl (by simp only [List.length_cons, List.length_nil]; omega)) (by kernel_rfl) rfl rfl ?_
              refine AH.takeW (i := 7) rfl (Y.addS rfl rfl (by simp only [List.length_append, List.length_cons, List.length_nil]; omega)) (by kernel_rfl) rfl rfl ?_
              refine AH.one (i := 13) (by kernel_rfl) rfl rfl (fun _ => ?_)
              refine AO.call rfl rfl (ih l[n].kids[1] hb1.1 hb1.2 _ _ _ (i + 1) (j + 1) m8 (by repeat (first | exact mem0 | assumption | refine memS ?_)) hi8 hj8 (by omega) hm8 (fun m9 hm9 => ?_))
              have hi9 : (L.set j (Res.map bm vI S m9))[i]? = some (Res.cells bw #[.slice a k c, .map (some bm)] 66) := set_at hi hij
              simp only [List.set_cons_zero, List.set_cons_succ, List.set_set]
              refine AT.held (by repeat (first | exact BxIn.nil | refine BxIn.cons (by repeat (first | exact has0 | assumption | apply hasS)) ?_)) (by repeat (first | exact mem0 | refine memS ?_)) ?_
              refine AH.takeW (i := 14) rfl (Y.addS rfl rfl (by simp only [List.length_append, List.length_cons, List.length_nil]; omega)) (by kernel_rfl) rfl rfl ?_
              refine AH.takeW (i := 15) rfl (Y.assign rfl) (by kernel_rfl) rfl rfl ?_
              refine AH.done (by kernel_rfl) ?_
              refine AK.blkN (AK.seqN (AC.seq ?_))
              refine AC.draw (fun i => Nat.beq i 10) [(bw, _, _)] (by repeat (first | exact BxIn.nil | refine BxIn.cons (by repeat (first | exact has0 | assumption | apply hasS)) ?_)) rfl (fun hx hX => ?_)
              refine AH.takeW (i := 0) rfl (Y.move rfl) (by kernel_rfl) rfl rfl ?_
              refine AH.takeW (i := 1) rfl (Y.nilCheckP rfl) (by kernel_rfl) rfl rfl ?_
              refine AH.takeW (i := 2) rfl (Y.field rfl) (by kernel_rfl) rfl rfl ?_
              refine AH.takeS (i := 3) rfl (Y.loadB rfl (by repeat (first | exact List.Mem.head _ | refine List.Mem.tail _ ?_)) (by rfl)) (by kernel_rfl) (by kernel_rfl) rfl rfl rfl ?_
              refine AH.takeW (i := 4) rfl (Y.move rfl) (by kernel_rfl) rfl rfl ?_
              refine AH.takeW (i := 5) rfl (Y.move rfl) (by kernel_rfl) rfl rfl ?_
              refine AH.takeW (i := 6) rfl (Y.move rfl) (by kernel_rfl) rfl rfl ?_
              refine AH.takeW (i := 7) rfl (Y.lenS rfl) (by kernel_rfl) rfl rfl ?_
              refine AH.takeW (i := 8) rfl (Y.min rfl rfl) (by kernel_rfl) rfl rfl ?_
              refine AH.takeW (i := 9) rfl (Y.cutT rfl rfl) (by kernel_rfl) rfl rfl ?_
              refine AH.one (i := 10) (by kernel_rfl) rfl rfl (fun _ => ?_)
              refine AO.mapUpdate (kenc := vI) (venc := S) (i := j + 1) (n : Int) _ rfl rfl rfl (by first | exact hj | exact List.getElem?_set_self hjl) ?_
              simp only [List.set_cons_zero, List.set_cons_succ, List.set_set]
              refine AT.spoilt rfl ?_
              refine AH.done (by kernel_rfl) ?_
              refine AK.seqN (AC.seq (AC.region (AL.go (AO.move rfl rfl ?_))))
              refine AL.go (AO.nilCheckP rfl rfl ?_)
              refine AL.go (AO.field rfl rfl ?_)
              refine AL.go (AO.loadB (cs := [.slice a k c, .map (some bm)]) rfl rfl ?_ (i := i + 1) (hi := (set_at hi hij : (List.set L j _)[i]? = _)) (hv := rfl))
              refine AL.go (AO.move rfl rfl ?_)
              refine AL.go (AO.lookup (kenc := vI) (venc := S) (i := j + 1) (n : Int) rfl rfl rfl (List.getElem?_set_self hjl : (List.set L j _)[j]? = _) ?_)
              rw [upd_self]
              refine AL.go (AO.assign rfl rfl (AL.nil (AK.seqN (AC.ret ?_))))
              first
              | (rw [own_0 c33] at hTn; rw [hTn] at h; exact AK.ret Tryd.results33 rfl (by repeat (first | exact Sub.refl _ _ | refine Sub.trans Sub.drop ?_ | refine Sub.trans Sub.dropF ?_)) (h _ (hm9.upd hTn.symm)))
              | (rw [own_1 c37, kid_get hk0] at hTn; rw [hTn] at h; exact AK.ret Tryd.results33 rfl (by repeat (first | exact Sub.refl _ _ | refine Sub.trans Sub.drop ?_ | refine Sub.trans Sub.dropF ?_)) (h _ (hm9.upd hTn.symm)))
              | (rw [own_2 c46, kid_get hk0] at hTn; rw [hTn] at h; exact AK.ret Tryd.results33 rfl (by repeat (first | exact Sub.refl _ _ | refine Sub.trans Sub.drop ?_ | refine Sub.trans Sub.dropF ?_)) (h _ (hm9.upd hTn.symm)))
              | (rw [own_3 c55, kid_get hk0] at hTn; rw [hTn] at h; exact AK.ret Tryd.results33 rfl (by repeat (first | exact Sub.refl _ _ | refine Sub.trans Sub.drop ?_ | refine Sub.trans Sub.dropF ?_)) (h _ (hm9.upd hTn.symm)))
              | (rw [own_4 c69, kid_get hk0, kid_get hk1] at hTn; rw [hTn] at h; exact AK.ret Tryd.results33 rfl (by repeat (first | exact Sub.refl _ _ | refine Sub.trans Sub.drop ?_ | refine Sub.trans Sub.dropF ?_)) (h _ (hm9.upd hTn.symm)))
              | (rw [own_5 c86] at hTn; rw [hTn] at h; exact AK.ret Tryd.results33 rfl (by repeat (first | exact Sub.refl _ _ | refine Sub.trans Sub.drop ?_ | refine Sub.trans Sub.dropF ?_)) (h _ (hm9.upd hTn.symm)))
              | (rw [own_6 c92] at hTn; rw [hTn] at h; exact AK.ret Tryd.results33 rfl (by repeat (first | exact Sub.refl _ _ | refine Sub.trans Sub.drop ?_ | refine Sub.trans Sub.dropF ?_)) (h _ (hm9.upd hTn.symm)))
              | (rw [own_7 c121] at hTn; rw [hTn] at h; exact AK.ret Tryd.results33 rfl (by repeat (first | exact Sub.refl _ _ | refine Sub.trans Sub.drop ?_ | refine Sub.trans Sub.dropF ?_)) (h _ (hm9.upd hTn.symm)))
              | (rw [own_8 c126 c132] at hTn; rw [hTn] at h; exact AK.ret Tryd.results33 rfl (by repeat (first | exact Sub.refl _ _ | refine Sub.trans Sub.drop ?_ | refine Sub.trans Sub.dropF ?_)) (h _ (hm9.upd hTn.symm)))
              | (rw [own_8n c126 c132] at hTn; rw [hTn] at h; exact AK.ret Tryd.results33 rfl (by repeat (first | exact Sub.refl _ _ | refine Sub.trans Sub.drop ?_ | refine Sub.trans Sub.dropF ?_)) (h _ (hm9.upd hTn.symm)))
              | (rw [own_9 c143] at hTn; rw [hTn] at h; exact AK.ret Tryd.results33 rfl (by repeat (first | exact Sub.refl _ _ | refine Sub.trans Sub.drop ?_ | refine Sub.trans Sub.dropF ?_)) (h _ (hm9.upd hTn.symm)))
            · refine AL.go (AO.assign rfl rfl (AL.nil (AK.seqN (AC.condF rfl (AC.seq (AC.region ?_))))))
              refine AL.go (AO.eql rfl rfl rfl (fun c86 => ?_) (fun c86 => ?_))
              · refine AL.go (AO.assign rfl rfl (AL.nil (AK.seqN (AC.condT rfl (AC.region (AL.go (AO.move rfl rfl ?_)))))))
                refine AL.go (AO.loadBA rfl rfl ?_)
                have hsl := sig_len hTk htx.few (htx.sig c86)
                refine AL.go (AO.call rfl rfl (sig_c l T hT4 (by omega) ih l[n] htx.kids htx.few (htx.sig c86) (i := i + 1) (j := j + 1) (by repeat (first | exact mem0 | assumption | refine memS ?_)) (by repeat (first | exact mem0 | assumption | refine memS ?_)) hi hj (by omega) hm (fun m9 hm9 => ?_)))
                have hi9 : (L.set j (Res.map bm vI S m9))[i]? = some (Res.cells bw #[.slice a k c, .map (some bm)] 66) := set_at hi hij
                simp only [List.set_cons_zero, List.set_cons_succ]
                refine AL.go (AO.addS rfl rfl rfl (by simp only [List.length_cons, List.length_nil]; omega) ?_)
                refine AL.go (AO.assign rfl rfl (AL.nil (AK.blkN (AK.seqN (AC.seq ?_)))))
                refine AC.draw (fun i => Nat.beq i 10) [(bw, _, _)] (by repeat (first | exact BxIn.nil | refine BxIn.cons (by repeat (first | exact has0 | assumption | apply hasS)) ?_)) rfl (fun hx hX => ?_)
                refine AH.takeW (i := 0) rfl (Y.move rfl) (by kernel_rfl) rfl rfl ?_
                refine AH.takeW (i := 1) rfl (Y.nilCheckP rfl) (by kernel_rfl) rfl rfl ?_
                refine AH.takeW (i := 2) rfl (Y.field rfl) (by kernel_rfl) rfl rfl ?_
                refine AH.takeS (i := 3) rfl (Y.loadB rfl (by repeat (first | exact List.Mem.head _ | refine List.Mem.tail _ ?_)) (by rfl)) (by kernel_rfl) (by kernel_rfl) rfl rfl rfl ?_
                refine AH.takeW (i := 4) rfl (Y.move rfl) (by kernel_rfl) rfl rfl ?_
                refine AH.takeW (i := 5) rfl (Y.move rfl) (by kernel_rfl) rfl rfl ?_
                refine AH.takeW (i := 6) rfl (Y.move rfl) (by kernel_rfl) rfl rfl ?_
                refine AH.takeW (i := 7) rfl (Y.lenS rfl) (by kernel_rfl) rfl rfl ?_
                refine AH.takeW (i := 8) rfl (Y.min rfl rfl) (by kernel_rfl) rfl rfl ?_
                refine AH.takeW (i := 9) rfl (Y.cutT rfl rfl) (by kernel_rfl) rfl rfl ?_
                refine AH.one (i := 10) (by kernel_rfl) rfl rfl (fun _ => ?_)
                refine AO.mapUpdate (kenc := vI) (venc := S) (i := j + 1) (n : Int) _ rfl rfl rfl (by first | exact hj | exact List.getElem?_set_self hjl) ?_
                simp only [List.set_cons_zero, List.set_cons_succ, List.set_set]
                refine AT.spoilt rfl ?_
                refine AH.done (by kernel_rfl) ?_
                refine AK.seqN (AC.seq (AC.region (AL.go (AO.move rfl rfl ?_))))
                refine AL.go (AO.nilCheckP rfl rfl ?_)
                refine AL.go (AO.field rfl rfl ?_)
                refine AL.go (AO.loadB (cs := [.slice a k c, .map (some bm)]) rfl rfl ?_ (i := i + 1) (hi := (set_at hi hij : (List.set L j _)[i]? = _)) (hv := rfl))
                refine AL.go (AO.move rfl rfl ?_)
                refine AL.go (AO.lookup (kenc := vI) (venc := S) (i := j + 1) (n : Int) rfl rfl rfl (List.getElem?_set_self hjl : (List.set L j _)[j]? = _) ?_)
                rw [upd_self]
                refine AL.go (AO.assign rfl rfl (AL.nil (AK.seqN (AC.ret ?_))))
                first
                | (rw [own_0 c33] at hTn; rw [hTn] at h; exact AK.ret Tryd.results33 rfl (by repeat (first | exact Sub.refl _ _ | refine Sub.trans Sub.drop ?_ | refine Sub.trans Sub.dropF ?_)) (h _ (hm9.upd hTn.symm)))
                | (rw [own_1 c37, kid_get hk0] at hTn; rw [hTn] at h; exact AK.ret Tryd.results33 rfl (by repeat (first | exact Sub.refl _ _ | refine Sub.trans Sub.drop ?_ | refine Sub.trans Sub.dropF ?_)) (h _ (hm9.upd hTn.symm)))
                | (rw [own_2 c46, kid_get hk0] at hTn; rw [hTn] at h; exact AK.ret Tryd.results33 rfl (by repeat (first | exact Sub.refl _ _ | refine Sub.trans Sub.drop ?_ | refine Sub.trans Sub.dropF ?_)) (h _ (hm9.upd hTn.symm)))
                | (rw [own_3 c55, kid_get hk0] at hTn; rw [hTn] at h; exact AK.ret Tryd.results33 rfl (by repeat (first | exact Sub.refl _ _ | refine Sub.trans Sub.drop ?_ | refine Sub.trans Sub.dropF ?_)) (h _ (hm9.upd hTn.symm)))
                | (rw [own_4 c69, kid_get hk0, kid_get hk1] at hTn; rw [hTn] at h; exact AK.ret Tryd.results33 rfl (by repeat (first | exact Sub.refl _ _ | refine Sub.trans Sub.drop ?_ | refine Sub.trans Sub.dropF ?_)) (h _ (hm9.upd hTn.symm)))
                | (rw [own_5 c86] at hTn; rw [hTn] at h; exact AK.ret Tryd.results33 rfl (by repeat (first | exact Sub.refl _ _ | refine Sub.trans Sub.drop ?_ | refine Sub.trans Sub.dropF ?_)) (h _ (hm9.upd hTn.symm)))
                | (rw [own_6 c92] at hTn; rw [hTn] at h; exact AK.ret Tryd.results33 rfl (by repeat (first | exact Sub.refl _ _ | refine Sub.trans Sub.drop ?_ | refine Sub.trans Sub.dropF ?_)) (h _ (hm9.upd hTn.symm)))
                | (rw [own_7 c121] at hTn; rw [hTn] at h; exact AK.ret Tryd.results33 rfl (by repeat (first | exact Sub.refl _ _ | refine Sub.trans Sub.drop ?_ | refine Sub.trans Sub.dropF ?_)) (h _ (hm9.upd hTn.symm)))
                | (rw [own_8 c126 c132] at hTn; rw [hTn] at h; exact AK.ret Tryd.results33 rfl (by repeat (first | exact Sub.refl _ _ | refine Sub.trans Sub.drop ?_ | refine Sub.trans Sub.dropF ?_)) (h _ (hm9.upd hTn.symm)))
                | (rw [own_8n c126 c132] at hTn; rw [hTn] at h; exact AK.ret Tryd.results33 rfl (by repeat (first | exact Sub.refl _ _ | refine Sub.trans Sub.drop ?_ | refine Sub.trans Sub.dropF ?_)) (h _ (hm9.upd hTn.symm)))
                | (rw [own_9 c143] at hTn; rw [hTn] at h; exact AK.ret Tryd.results33 rfl (by repeat (first | exact Sub.refl _ _ | refine Sub.trans Sub.drop ?_ | refine Sub.trans Sub.dropF ?_)) (h _ (hm9.upd hTn.symm)))
              · refine AL.go (AO.assign rfl rfl (AL.nil (AK.seqN (AC.condF rfl (AC.seq (AC.region ?_))))))
                refine AL.go (AO.eql rfl rfl rfl (fun c92 => ?_) (fun c92 => ?_))
                · refine AL.go (AO.assign rfl rfl (AL.nil (AK.seqN (AC.condT rfl (AC.seq (AC.region ?_))))))
                  refine AL.go (AO.move rfl rfl (AL.go (AO.field rfl rfl ?_)))
                  refine AL.go (AO.loadB rfl rfl ?_)
                  have hwk := htx.wk (.inl c92)
                  refine AL.go (AO.call rfl rfl (all_c l T ih l[n].kids htx.kids htx.few (i := i + 1) (j := j + 1) (by repeat (first | exact mem0 | assumption | refine memS ?_)) (show fK l[n] _ _ _ ∈ _ from (by repeat (first | exact mem0 | assumption | refine memS ?_))) hi hj (by omega) hm (fun m9 a96 k96 z96 hm9 => ?_)))
                  have hi9 : (L.set j (Res.map bm vI S m9))[i]? = some (Res.cells bw #[.slice a k c, .map (some bm)] 66) := set_at hi hij
                  simp only [List.set_cons_zero, List.set_cons_succ]
                  rw [← stepW_zero]
                  refine AL.go (AO.assign rfl rfl (AL.nil (AK.seqN (AC.seq (AC.seq (AC.region ?_))))))
                  refine AL.go (AO.field rfl rfl ?_)
                  refine AL.go (AO.loadB rfl rfl ?_)
                  refine AL.go (AO.len rfl rfl (fun hl99 => ?_) (hm := by repeat (first | exact mem0 | assumption | refine memS ?_)))
                  refine AL.go (AO.move rfl rfl (AL.nil (AK.seqN (AC.block ?_))))
                  refine AC.loop (fun (q : Nat) => q ≤ l[n].words.length) (fun q => [(0, .pointer (some ⟨bw, 0, none⟩)), (1, .int .i64 (n : Int)), (7, .pointer (some ⟨b7, 0, none⟩)), (9, .slice a96 k96 z96), (98, .slice a29 k29 z29), (99, .int .i64 l[n].words.length), (100, .int .i64 (q : Int))]) (fun q => Res.own (.slice a96 k96 z96) 9 1 ((stepW T l[n] q).map eS) :: _) (fun _ => _) (fun q => l[n].words.length - q) 0 (Nat.zero_le _) (by repeat (first | exact SubR.nil | refine SubR.cons rfl ?_)) (Sub.refl _ _) ?_
                  rintro q hq
                  refine AC.seq (AC.region ?_)
                  refine AL.go (AO.lss rfl rfl rfl (fun c101 => ?_) (fun c101 => ?_))
                  · refine AL.nil (AK.seqN (AC.seq (AC.condT rfl (AC.skip (AK.seqN ?_)))))
                    refine AC.seq (AC.block (AC.seq (AC.region (AL.go (AO.move rfl rfl ?_)))))
                    have hql : q < l[n].words.length := by omega
                    have hqk : q < l[n].kids.length := by omega
                    have hw4 := htx.word _ (List.getElem_mem hql)
                    have hT0 := hTk _ (List.getElem_mem hqk)
                    have hsl := stepW_len (T := T) hwk hq
                    refine AL.go (AO.indexAddr rfl rfl rfl rfl (show fW l[n] _ _ _ ∈ _ from (by repeat (first | exact mem0 | assumption | refine memS ?_))) hql (fun _ _ => ?_))
                    refine AL.go (AO.loadF rfl rfl ?_)
                    intros
                    refine AL.go (AO.assign rfl rfl (AL.go (AO.assign rfl rfl (AL.nil (AK.seqN (AC.region (AL.go (AO.move rfl rfl ?_))))))))
                    refine AL.go (AO.move rfl rfl (AL.go (AO.move rfl rfl ?_)))
                    refine AL.go (AO.addS rfl rfl rfl (by simp only [List.length_cons, List.length_nil]; omega) ?_)
                    refine AL.go (AO.move rfl rfl (AL.go (AO.move rfl rfl ?_)))
                    refine AL.go (AO.indexAddrO (i := 0) (q := q) rfl rfl rfl rfl rfl (by rw [List.length_map]; omega) (fun bo ho => ?_))
                    subst ho
                    refine AL.go (AO.loadO (i := 0) (q := q) (v := S (T l[n].kids[q])) rfl rfl rfl rfl (by rw [List.getElem?_map, stepW_get hwk hql hqk]; rfl) ?_)
                    refine AL.go (AO.addS rfl rfl rfl (by simp only [List.length_append, List.length_cons, List.length_nil]; omega) ?_)
                    refine AL.go (AO.indexAddrO (i := 0) (q := q) rfl rfl rfl rfl rfl (by rw [List.length_map]; omega) (fun bo2 ho2 => ?_))
                    cases ho2
                    refine AL.go (AO.storeO (i := 0) (q := q) (v := S (l[n].words[q] ++ [32] ++ T l[n].kids[q])) rfl rfl rfl rfl rfl (by rw [List.length_map]; omega) ?_)
                    rw [eS_set, stepW_set hwk hql hqk]
                    refine AL.nil (AK.blkN (AK.seqN (AC.region (AL.go (AO.add rfl rfl rfl (by omega) (by omega) (AL.go (AO.move rfl rfl ?_)))))))
                    refine AL.nil ?_
                    refine AK.next (q + 1) (by omega) (by omega) (by repeat (first | exact SubR.nil | refine SubR.cons rfl ?_)) (by repeat (first | exact Sub.refl _ _ | refine Sub.trans Sub.dropF ?_))
                  · refine AL.nil (AK.seqN (AC.seq (AC.condF rfl (AC.exit (AK.seqX ?_)))))
                    refine AK.seqX (AK.blkX (AK.seqN (AC.region ?_)))
                    refine AL.go (AO.move rfl rfl ?_)
                    rw [stepW_all hwk (by omega)]
                    refine AT.sub ((Sub.commit (i := 0) rfl).trans Sub.drop) ?_
                    have hpl : ∀ s ∈ (zipT l[n]).map (wordK T), s.length ≤ 4042 := fun s hs => by
                     obtain ⟨z, hz, rfl⟩ := List.mem_map.1 hs
                     have h1 := htx.word _ (List.of_mem_zip hz).1
                     have h2 := hTk _ (zip_kid hz)
                     simp only [wordK, List.length_append, List.length_cons, List.length_nil]; omega
                    have hpj := gjoin_len [59, 32] _ hpl
                    have hzl := zip_len hwk
                    have hpn : ((zipT l[n]).map (wordK T)).length ≤ 16 := by rw [List.length_map]; have := htx.few; omega
                    have hpe := Nat.mul_le_mul_left (4042 + [59, 32].length) hpn
                    simp only [List.length_cons, List.length_nil] at hpj hpe
                    refine AL.go (AO.call rfl rfl (gjoin_c ((zipT l[n]).map (wordK T)) [59, 32] (by repeat (first | exact mem0 | assumption | refine memS ?_)) (by omega) (by omega) ?_))
                    refine AL.go (AO.addS rfl rfl rfl (by simp only [List.length_cons, List.length_nil]; omega) ?_)
                    refine AL.go (AO.addS rfl rfl rfl (by simp only [List.length_append, List.length_cons, List.length_nil]; omega) ?_)
                    refine AL.go (AO.assign rfl rfl (AL.nil (AK.blkN (AK.seqN (AC.seq ?_)))))
                    refine AC.draw (fun i => Nat.beq i 10) [(bw, _, _)] (by repeat (first | exact BxIn.nil | refine BxIn.cons (by repeat (first | exact has0 | assumption | apply hasS)) ?_)) rfl (fun hx hX => ?_)
                    refine AH.takeW (i := 0) rfl (Y.move rfl) (by kernel_rfl) rfl rfl ?_
                    refine AH.takeW (i := 1) rfl (Y.nilCheckP rfl) (by kernel_rfl) rfl rfl ?_
                    refine AH.takeW (i := 2) rfl (Y.field rfl) (by kernel_rfl) rfl rfl ?_
                    refine AH.takeS (i := 3) rfl (Y.loadB rfl (by repeat (first | exact List.Mem.head _ | refine List.Mem.tail _ ?_)) (by rfl)) (by kernel_rfl) (by kernel_rfl) rfl rfl rfl ?_
                    refine AH.takeW (i := 4) rfl (Y.move rfl) (by kernel_rfl) rfl rfl ?_
                    refine AH.takeW (i := 5) rfl (Y.move rfl) (by kernel_rfl) rfl rfl ?_
                    refine AH.takeW (i := 6) rfl (Y.move rfl) (by kernel_rfl) rfl rfl ?_
                    refine AH.takeW (i := 7) rfl (Y.lenS rfl) (by kernel_rfl) rfl rfl ?_
                    refine AH.takeW (i := 8) rfl (Y.min rfl rfl) (by kernel_rfl) rfl rfl ?_
                    refine AH.takeW (i := 9) rfl (Y.cutT rfl rfl) (by kernel_rfl) rfl rfl ?_
                    refine AH.one (i := 10) (by kernel_rfl) rfl rfl (fun _ => ?_)
                    refine AO.mapUpdate (kenc := vI) (venc := S) (i := j + 1) (n : Int) _ rfl rfl rfl (by first | exact hj | exact List.getElem?_set_self hjl) ?_
                    simp only [List.set_cons_zero, List.set_cons_succ, List.set_set]
                    refine AT.spoilt rfl ?_
                    refine AH.done (by kernel_rfl) ?_
                    refine AK.seqN (AC.seq (AC.region (AL.go (AO.move rfl rfl ?_))))
                    refine AL.go (AO.nilCheckP rfl rfl ?_)
                    refine AL.go (AO.field rfl rfl ?_)
                    refine AL.go (AO.loadB (cs := [.slice a k c, .map (some bm)]) rfl rfl ?_ (i := i + 1) (hi := (set_at hi hij : (List.set L j _)[i]? = _)) (hv := rfl))
                    refine AL.go (AO.move rfl rfl ?_)
                    refine AL.go (AO.lookup (kenc := vI) (venc := S) (i := j + 1) (n : Int) rfl rfl rfl (List.getElem?_set_self hjl : (List.set L j _)[j]? = _) ?_)
                    rw [upd_self]
                    refine AL.go (AO.assign rfl rfl (AL.nil (AK.seqN (AC.ret ?_))))
                    first
                    | (rw [own_0 c33] at hTn; rw [hTn] at h; exact AK.ret Tryd.results33 rfl (by repeat (first | exact Sub.refl _ _ | refine Sub.trans Sub.drop ?_ | refine Sub.trans Sub.dropF ?_)) (h _ (hm9.upd hTn.symm)))
                    | (rw [own_1 c37, kid_get hk0] at hTn; rw [hTn] at h; exact AK.ret Tryd.results33 rfl (by repeat (first | exact Sub.refl _ _ | refine Sub.trans Sub.drop ?_ | refine Sub.trans Sub.dropF ?_)) (h _ (hm9.upd hTn.symm)))
                    | (rw [own_2 c46, kid_get hk0] at hTn; rw [hTn] at h; exact AK.ret Tryd.results33 rfl (by repeat (first | exact Sub.refl _ _ | refine Sub.trans Sub.drop ?_ | refine Sub.trans Sub.dropF ?_)) (h _ (hm9.upd hTn.symm)))
                    | (rw [own_3 c55, kid_get hk0] at hTn; rw [hTn] at h; exact AK.ret Tryd.results33 rfl (by repeat (first | exact Sub.refl _ _ | refine Sub.trans Sub.drop ?_ | refine Sub.trans Sub.dropF ?_)) (h _ (hm9.upd hTn.symm)))
                    | (rw [own_4 c69, kid_get hk0, kid_get hk1] at hTn; rw [hTn] at h; exact AK.ret Tryd.results33 rfl (by repeat (first | exact Sub.refl _ _ | refine Sub.trans Sub.drop ?_ | refine Sub.trans Sub.dropF ?_)) (h _ (hm9.upd hTn.symm)))
                    | (rw [own_5 c86] at hTn; rw [hTn] at h; exact AK.ret Tryd.results33 rfl (by repeat (first | exact Sub.refl _ _ | refine Sub.trans Sub.drop ?_ | refine Sub.trans Sub.dropF ?_)) (h _ (hm9.upd hTn.symm)))
                    | (rw [own_6 c92] at hTn; rw [hTn] at h; exact AK.ret Tryd.results33 rfl (by repeat (first | exact Sub.refl _ _ | refine Sub.trans Sub.drop ?_ | refine Sub.trans Sub.dropF ?_)) (h _ (hm9.upd hTn.symm)))
                    | (rw [own_7 c121] at hTn; rw [hTn] at h; exact AK.ret Tryd.results33 rfl (by repeat (first | exact Sub.refl _ _ | refine Sub.trans Sub.drop ?_ | refine Sub.trans Sub.dropF ?_)) (h _ (hm9.upd hTn.symm)))
                    | (rw [own_8 c126 c132] at hTn; rw [hTn] at h; exact AK.ret Tryd.results33 rfl (by repeat (first | exact Sub.refl _ _ | refine Sub.trans Sub.drop ?_ | refine Sub.trans Sub.dropF ?_)) (h _ (hm9.upd hTn.symm)))
                    | (rw [own_8n c126 c132] at hTn; rw [hTn] at h; exact AK.ret Tryd.results33 rfl (by repeat (first | exact Sub.refl _ _ | refine Sub.trans Sub.drop ?_ | refine Sub.trans Sub.dropF ?_)) (h _ (hm9.upd hTn.symm)))
                    | (rw [own_9 c143] at hTn; rw [hTn] at h; exact AK.ret Tryd.results33 rfl (by repeat (first | exact Sub.refl _ _ | refine Sub.trans Sub.drop ?_ | refine Sub.trans Sub.dropF ?_)) (h _ (hm9.upd hTn.symm)))
                · refine AL.go (AO.assign rfl rfl (AL.nil (AK.seqN (AC.condF rfl (AC.seq (AC.region ?_))))))
                  refine AL.go (AO.eql rfl rfl rfl (fun c121 => ?_) (fun c121 => ?_))
                  · refine AL.go (AO.assign rfl rfl (AL.nil (AK.seqN (AC.condT rfl (AC.region (AL.go (AO.move rfl rfl ?_)))))))
                    refine AL.go (AO.loadBA rfl rfl ?_)
                    refine AL.go (AO.call rfl rfl (welems_c l hright T hT4 hn ih l[n] htx c121 htx.word (i := i + 1) (j := j + 1) (by repeat (first | exact mem0 | assumption | refine memS ?_)) (by repeat (first | exact mem0 | assumption | refine memS ?_)) (by repeat (first | exact mem0 | assumption | refine memS ?_)) hi hj (by omega) hm (fun m9 hm9 => ?_)))
                    have hi9 : (L.set j (Res.map bm vI S m9))[i]? = some (Res.cells bw #[.slice a k c, .map (some bm)] 66) := set_at hi hij
                    simp only [List.set_cons_zero, List.set_cons_succ]
                    refine AL.go (AO.assign rfl rfl (AL.nil (AK.blkN (AK.seqN (AC.seq ?_)))))
                    refine AC.draw (fun i => Nat.beq i 10) [(bw, _, _)] (by repeat (first | exact BxIn.nil | refine BxIn.cons (by repeat (first | exact has0 | assumption | apply hasS)) ?_)) rfl (fun hx hX => ?_)
                    refine AH.takeW (i := 0) rfl (Y.move rfl) (by kernel_rfl) rfl rfl ?_
                    refine AH.takeW (i := 1) rfl (Y.nilCheckP rfl) (by kernel_rfl) rfl rfl ?_
                    refine AH.takeW (i := 2) rfl (Y.field rfl) (by kernel_rfl) rfl rfl ?_
                    refine AH.takeS (i := 3) rfl (Y.loadB rfl (by repeat (first | exact List.Mem.head _ | refine List.Mem.tail _ ?_)) (by rfl)) (by kernel_rfl) (by kernel_rfl) rfl rfl rfl ?_
                    refine AH.takeW (i := 4) rfl (Y.move rfl) (by kernel_rfl) rfl rfl ?_
                    refine AH.takeW (i := 5) rfl (Y.move rfl) (by kernel_rfl) rfl rfl ?_
                    refine AH.takeW (i := 6) rfl (Y.move rfl) (by kernel_rfl) rfl rfl ?_
                    refine AH.takeW (i := 7) rfl (Y.lenS rfl) (by kernel_rfl) rfl rfl ?_
                    refine AH.takeW (i := 8) rfl (Y.min rfl rfl) (by kernel_rfl) rfl rfl ?_
                    refine AH.takeW (i := 9) rfl (Y.cutT rfl rfl) (by kernel_rfl) rfl rfl ?_
                    refine AH.one (i := 10) (by kernel_rfl) rfl rfl (fun _ => ?_)
                    refine AO.mapUpdate (kenc := vI) (venc := S) (i := j + 1) (n : Int) _ rfl rfl rfl (by first | exact hj | exact List.getElem?_set_self hjl) ?_
                    simp only [List.set_cons_zero, List.set_cons_succ, List.set_set]
                    refine AT.spoilt rfl ?_
                    refine AH.done (by kernel_rfl) ?_
                    refine AK.seqN (AC.seq (AC.region (AL.go (AO.move rfl rfl ?_))))
                    refine AL.go (AO.nilCheckP rfl rfl ?_)
                    refine AL.go (AO.field rfl rfl ?_)
                    refine AL.go (AO.loadB (cs := [.slice a k c, .map (some bm)]) rfl rfl ?_ (i := i + 1) (hi := (set_at hi hij : (List.set L j _)[i]? = _)) (hv := rfl))
                    refine AL.go (AO.move rfl rfl ?_)
                    refine AL.go (AO.lookup (kenc := vI) (venc := S) (i := j + 1) (n : Int) rfl rfl rfl (List.getElem?_set_self hjl : (List.set L j _)[j]? = _) ?_)
                    rw [upd_self]
                    refine AL.go (AO.assign rfl rfl (AL.nil (AK.seqN (AC.ret ?_))))
                    first
                    | (rw [own_0 c33] at hTn; rw [hTn] at h; exact AK.ret Tryd.results33 rfl (by repeat (first | exact Sub.refl _ _ | refine Sub.trans Sub.drop ?_ | refine Sub.trans Sub.dropF ?_)) (h _ (hm9.upd hTn.symm)))
                    | (rw [own_1 c37, kid_get hk0] at hTn; rw [hTn] at h; exact AK.ret Tryd.results33 rfl (by repeat (first | exact Sub.refl _ _ | refine Sub.trans Sub.drop ?_ | refine Sub.trans Sub.dropF ?_)) (h _ (hm9.upd hTn.symm)))
                    | (rw [own_2 c46, kid_get hk0] at hTn; rw [hTn] at h; exact AK.ret Tryd.results33 rfl (by repeat (first | exact Sub.refl _ _ | refine Sub.trans Sub.drop ?_ | refine Sub.trans Sub.dropF ?_)) (h _ (hm9.upd hTn.symm)))
                    | (rw [own_3 c55, kid_get hk0] at hTn; rw [hTn] at h; exact AK.ret Tryd.results33 rfl (by repeat (first | exact Sub.refl _ _ | refine Sub.trans Sub.drop ?_ | refine Sub.trans Sub.dropF ?_)) (h _ (hm9.upd hTn.symm)))
                    | (rw [own_4 c69, kid_get hk0, kid_get hk1] at hTn; rw [hTn] at h; exact AK.ret Tryd.results33 rfl (by repeat (first | exact Sub.refl _ _ | refine Sub.trans Sub.drop ?_ | refine Sub.trans Sub.dropF ?_)) (h _ (hm9.upd hTn.symm)))
                    | (rw [own_5 c86] at hTn; rw [hTn] at h; exact AK.ret Tryd.results33 rfl (by repeat (first | exact Sub.refl _ _ | refine Sub.trans Sub.drop ?_ | refine Sub.trans Sub.dropF ?_)) (h _ (hm9.upd hTn.symm)))
                    | (rw [own_6 c92] at hTn; rw [hTn] at h; exact AK.ret Tryd.results33 rfl (by repeat (first | exact Sub.refl _ _ | refine Sub.trans Sub.drop ?_ | refine Sub.trans Sub.dropF ?_)) (h _ (hm9.upd hTn.symm)))
                    | (rw [own_7 c121] at hTn; rw [hTn] at h; exact AK.ret Tryd.results33 rfl (by repeat (first | exact Sub.refl _ _ | refine Sub.trans Sub.drop ?_ | refine Sub.trans Sub.dropF ?_)) (h _ (hm9.upd hTn.symm)))
                    | (rw [own_8 c126 c132] at hTn; rw [hTn] at h; exact AK.ret Tryd.results33 rfl (by repeat (first | exact Sub.refl _ _ | refine Sub.trans Sub.drop ?_ | refine Sub.trans Sub.dropF ?_)) (h _ (hm9.upd hTn.symm)))
                    | (rw [own_8n c126 c132] at hTn; rw [hTn] at h; exact AK.ret Tryd.results33 rfl (by repeat (first | exact Sub.refl _ _ | refine Sub.trans Sub.drop ?_ | refine Sub.trans Sub.dropF ?_)) (h _ (hm9.upd hTn.symm)))
                    | (rw [own_9 c143] at hTn; rw [hTn] at h; exact AK.ret Tryd.results33 rfl (by repeat (first | exact Sub.refl _ _ | refine Sub.trans Sub.drop ?_ | refine Sub.trans Sub.dropF ?_)) (h _ (hm9.upd hTn.symm)))
                  · refine AL.go (AO.assign rfl rfl (AL.nil (AK.seqN (AC.condF rfl (AC.seq (AC.region ?_))))))
                    refine AL.go (AO.eql rfl rfl rfl (fun c126 => ?_) (fun c126 => ?_))
                    · refine AL.go (AO.assign rfl rfl (AL.nil (AK.seqN (AC.condT rfl (AC.seq (AC.region ?_))))))
                      refine AL.go (AO.field rfl rfl ?_)
                      refine AL.go (AO.loadB rfl rfl ?_)
                      refine AL.go (AO.assign rfl rfl (AL.nil (AK.seqN (AC.seq (AC.region (AL.go (AO.field rfl rfl ?_)))))))
                      refine AL.go (AO.loadB rfl rfl ?_)
                      refine AL.go (AO.len rfl rfl (fun hl131 => ?_) (hm := by repeat (first | exact mem0 | assumption | refine memS ?_)))
                      refine AL.go (AO.gtr rfl rfl rfl (fun c132 => ?_) (fun c132 => ?_))
                      · refine AL.nil (AK.seqN (AC.condT rfl (AC.region (AL.go (AO.move rfl rfl (AL.go (AO.move rfl rfl ?_)))))))
                        refine AL.go (AO.field rfl rfl ?_)
                        refine AL.go (AO.loadB rfl rfl ?_)
                        refine AL.go (AO.call rfl rfl (all_c l T ih l[n].kids htx.kids htx.few (i := i + 1) (j := j + 1) (by repeat (first | exact mem0 | assumption | refine memS ?_)) (show fK l[n] _ _ _ ∈ _ from (by repeat (first | exact mem0 | assumption | refine memS ?_))) hi hj (by omega) hm (fun m9 a96 k96 z96 hm9 => ?_)))
                        have hi9 : (L.set j (Res.map bm vI S m9))[i]? = some (Res.cells bw #[.slice a k c, .map (some bm)] 66) := set_at hi hij
                        simp only [List.set_cons_zero, List.set_cons_succ]
                        refine AT.sub ((Sub.commit (i := 0) rfl).trans Sub.drop) ?_
                        have hnm := hto.name
                        have hpl : ∀ s ∈ l[n].kids.map T, s.length ≤ 4001 := fun s hs => by
                         obtain ⟨z, hz, rfl⟩ := List.mem_map.1 hs
                         exact hTk z hz
                        have hpj := gjoin_len [44, 32] _ hpl
                        have hpn : (l[n].kids.map T).length ≤ 16 := by rw [List.length_map]; exact htx.few
                        have hpe := Nat.mul_le_mul_left (4001 + [44, 32].length) hpn
                        simp only [List.length_cons, List.length_nil] at hpj hpe
                        refine AL.go (AO.call rfl rfl (gjoin_c (l[n].kids.map T) [44, 32] (by repeat (first | exact mem0 | assumption | refine memS ?_)) (by omega) (by omega) ?_))
                        refine AL.go (AO.addS rfl rfl rfl (by simp only [List.length_cons, List.length_nil]; omega) ?_)
                        refine AL.go (AO.addS rfl rfl rfl (by simp only [List.length_append, List.length_cons, List.length_nil]; omega) ?_)
                        refine AL.go (AO.addS rfl rfl rfl (by simp only [List.length_append, List.length_cons, List.length_nil]; omega) ?_)
                        refine AL.go (AO.assign rfl rfl (AL.nil (AK.blkN (AK.seqN (AC.seq ?_)))))
                        refine AC.draw (fun i => Nat.beq i 10) [(bw, _, _)] (by repeat (first | exact BxIn.nil | refine BxIn.cons (by repeat (first | exact has0 | assumption | apply hasS)) ?_)) rfl (fun hx hX => ?_)
                        refine AH.takeW (i := 0) rfl (Y.move rfl) (by kernel_rfl) rfl rfl ?_
                        refine AH.takeW (i := 1) rfl (Y.nilCheckP rfl) (by kernel_rfl) rfl rfl ?_
                        refine AH.takeW (i := 2) rfl (Y.field rfl) (by kernel_rfl) rfl rfl ?_
                        refine AH.takeS (i := 3) rfl (Y.loadB rfl (by repeat (first | exact List.Mem.head _ | refine List.Mem.tail _ ?_)) (by rfl)) (by kernel_rfl) (by kernel_rfl) rfl rfl rfl ?_
                        refine AH.takeW (i := 4) rfl (Y.move rfl) (by kernel_rfl) rfl rfl ?_
                        refine AH.takeW (i := 5) rfl (Y.move rfl) (by kernel_rfl) rfl rfl ?_
                        refine AH.takeW (i := 6) rfl (Y.move rfl) (by kernel_rfl) rfl rfl ?_
                        refine AH.takeW (i := 7) rfl (Y.lenS rfl) (by kernel_rfl) rfl rfl ?_
                        refine AH.takeW (i := 8) rfl (Y.min rfl rfl) (by kernel_rfl) rfl rfl ?_
                        refine AH.takeW (i := 9) rfl (Y.cutT rfl rfl) (by kernel_rfl) rfl rfl ?_
                        refine AH.one (i := 10) (by kernel_rfl) rfl rfl (fun _ => ?_)
                        refine AO.mapUpdate (kenc := vI) (venc := S) (i := j + 1) (n : Int) _ rfl rfl rfl (by first | exact hj | exact List.getElem?_set_self hjl) ?_
                        simp only [List.set_cons_zero, List.set_cons_succ, List.set_set]
                        refine AT.spoilt rfl ?_
                        refine AH.done (by kernel_rfl) ?_
                        refine AK.seqN (AC.seq (AC.region (AL.go (AO.move rfl rfl ?_))))
                        refine AL.go (AO.nilCheckP rfl rfl ?_)
                        refine AL.go (AO.field rfl rfl ?_)
                        refine AL.go (AO.loadB (cs := [.slice a k c, .map (some bm)]) rfl rfl ?_ (i := i + 1) (hi := (set_at hi hij : (List.set L j _)[i]? = _)) (hv := rfl))
                        refine AL.go (AO.move rfl rfl ?_)
                        refine AL.go (AO.lookup (kenc := vI) (venc := S) (i := j + 1) (n : Int) rfl rfl rfl (List.getElem?_set_self hjl : (List.set L j _)[j]? = _) ?_)
                        rw [upd_self]
                        refine AL.go (AO.assign rfl rfl (AL.nil (AK.seqN (AC.ret ?_))))
                        first
                        | (rw [own_0 c33] at hTn; rw [hTn] at h; exact AK.ret Tryd.results33 rfl (by repeat (first | exact Sub.refl _ _ | refine Sub.trans Sub.drop ?_ | refine Sub.trans Sub.dropF ?_)) (h _ (hm9.upd hTn.symm)))
                        | (rw [own_1 c37, kid_get hk0] at hTn; rw [hTn] at h; exact AK.ret Tryd.results33 rfl (by repeat (first | exact Sub.refl _ _ | refine Sub.trans Sub.drop ?_ | refine Sub.trans Sub.dropF ?_)) (h _ (hm9.upd hTn.symm)))
                        | (rw [own_2 c46, kid_get hk0] at hTn; rw [hTn] at h; exact AK.ret Tryd.results33 rfl (by repeat (first | exact Sub.refl _ _ | refine Sub.trans Sub.drop ?_ | refine Sub.trans Sub.dropF ?_)) (h _ (hm9.upd hTn.symm)))
                        | (rw [own_3 c55, kid_get hk0] at hTn; rw [hTn] at h; exact AK.ret Tryd.results33 rfl (by repeat (first | exact Sub.refl _ _ | refine Sub.trans Sub.drop ?_ | refine Sub.trans Sub.dropF ?_)) (h _ (hm9.upd hTn.symm)))
                        | (rw [own_4 c69, kid_get hk0, kid_get hk1] at hTn; rw [hTn] at h; exact AK.ret Tryd.results33 rfl (by repeat (first | exact Sub.refl _ _ | refine Sub.trans Sub.drop ?_ | refine Sub.trans Sub.dropF ?_)) (h _ (hm9.upd hTn.symm)))
                        | (rw [own_5 c86] at hTn; rw [hTn] at h; exact AK.ret Tryd.results33 rfl (by repeat (first | exact Sub.refl _ _ | refine Sub.trans Sub.drop ?_ | refine Sub.trans Sub.dropF ?_)) (h _ (hm9.upd hTn.symm)))
                        | (rw [own_6 c92] at hTn; rw [hTn] at h; exact AK.ret Tryd.results33 rfl (by repeat (first | exact Sub.refl _ _ | refine Sub.trans Sub.drop ?_ | refine Sub.trans Sub.dropF ?_)) (h _ (hm9.upd hTn.symm)))
                        | (rw [own_7 c121] at hTn; rw [hTn] at h; exact AK.ret Tryd.results33 rfl (by repeat (first | exact Sub.refl _ _ | refine Sub.trans Sub.drop ?_ | refine Sub.trans Sub.dropF ?_)) (h _ (hm9.upd hTn.symm)))
                        | (rw [own_8 c126 c132] at hTn; rw [hTn] at h; exact AK.ret Tryd.results33 rfl (by repeat (first | exact Sub.refl _ _ | refine Sub.trans Sub.drop ?_ | refine Sub.trans Sub.dropF ?_)) (h _ (hm9.upd hTn.symm)))
                        | (rw [own_8n c126 c132] at hTn; rw [hTn] at h; exact AK.ret Tryd.results33 rfl (by repeat (first | exact Sub.refl _ _ | refine Sub.trans Sub.drop ?_ | refine Sub.trans Sub.dropF ?_)) (h _ (hm9.upd hTn.symm)))
                        | (rw [own_9 c143] at hTn; rw [hTn] at h; exact AK.ret Tryd.results33 rfl (by repeat (first | exact Sub.refl _ _ | refine Sub.trans Sub.drop ?_ | refine Sub.trans Sub.dropF ?_)) (h _ (hm9.upd hTn.symm)))
                      · refine AL.nil (AK.seqN (AC.condF rfl (AC.skip (AK.blkN (AK.seqN ?_)))))
                        refine AC.seq ?_
                        refine AC.draw (fun i => Nat.beq i 10) [(bw, _, _)] (by repeat (first | exact BxIn.nil | refine BxIn.cons (by repeat (first | exact has0 | assumption | apply hasS)) ?_)) rfl (fun hx hX => ?_)
                        refine AH.takeW (i := 0) rfl (Y.move rfl) (by kernel_rfl) rfl rfl ?_
                        refine AH.takeW (i := 1) rfl (Y.nilCheckP rfl) (by kernel_rfl) rfl rfl ?_
                        refine AH.takeW (i := 2) rfl (Y.field rfl) (by kernel_rfl) rfl rfl ?_
                        refine AH.takeS (i := 3) rfl (Y.loadB rfl (by repeat (first | exact List.Mem.head _ | refine List.Mem.tail _ ?_)) (by rfl)) (by kernel_rfl) (by kernel_rfl) rfl rfl rfl ?_
                        refine AH.takeW (i := 4) rfl (Y.move rfl) (by kernel_rfl) rfl rfl ?_
                        refine AH.takeW (i := 5) rfl (Y.move rfl) (by kernel_rfl) rfl rfl ?_
                        refine AH.takeW (i := 6) rfl (Y.move rfl) (by kernel_rfl) rfl rfl ?_
                        refine AH.takeW (i := 7) rfl (Y.lenS rfl) (by kernel_rfl) rfl rfl ?_
                        refine AH.takeW (i := 8) rfl (Y.min rfl rfl) (by kernel_rfl) rfl rfl ?_
                        refine AH.takeW (i := 9) rfl (Y.cutT rfl rfl) (by kernel_rfl) rfl rfl ?_
                        refine AH.one (i := 10) (by kernel_rfl) rfl rfl (fun _ => ?_)
                        refine AO.mapUpdate (kenc := vI) (venc := S) (i := j + 1) (n : Int) _ rfl rfl rfl (by first | exact hj | exact List.getElem?_set_self hjl) ?_
                        simp only [List.set_cons_zero, List.set_cons_succ, List.set_set]
                        refine AT.spoilt rfl ?_
                        refine AH.done (by kernel_rfl) ?_
                        refine AK.seqN (AC.seq (AC.region (AL.go (AO.move rfl rfl ?_))))
                        refine AL.go (AO.nilCheckP rfl rfl ?_)
                        refine AL.go (AO.field rfl rfl ?_)
                        refine AL.go (AO.loadB (cs := [.slice a k c, .map (some bm)]) rfl rfl ?_ (i := i + 1) (hi := (set_at hi hij : (List.set L j _)[i]? = _)) (hv := rfl))
                        refine AL.go (AO.move rfl rfl ?_)
                        refine AL.go (AO.lookup (kenc := vI) (venc := S) (i := j + 1) (n : Int) rfl rfl rfl (List.getElem?_set_self hjl : (List.set L j _)[j]? = _) ?_)
                        rw [upd_self]
                        refine AL.go (AO.assign rfl rfl (AL.nil (AK.seqN (AC.ret ?_))))
                        first
                        | (rw [own_0 c33] at hTn; rw [hTn] at h; exact AK.ret Tryd.results33 rfl (by repeat (first | exact Sub.refl _ _ | refine Sub.trans Sub.drop ?_ | refine Sub.trans Sub.dropF ?_)) (h _ (hm9.upd hTn.symm)))
                        | (rw [own_1 c37, kid_get hk0] at hTn; rw [hTn] at h; exact AK.ret Tryd.results33 rfl (by repeat (first | exact Sub.refl _ _ | refine Sub.trans Sub.drop ?_ | refine Sub.trans Sub.dropF ?_)) (h _ (hm9.upd hTn.symm)))
                        | (rw [own_2 c46, kid_get hk0] at hTn; rw [hTn] at h; exact AK.ret Tryd.results33 rfl (by repeat (first | exact Sub.refl _ _ | refine Sub.trans Sub.drop ?_ | refine Sub.trans Sub.dropF ?_)) (h _ (hm9.upd hTn.symm)))
                        | (rw [own_3 c55, kid_get hk0] at hTn; rw [hTn] at h; exact AK.ret Tryd.results33 rfl (by repeat (first | exact Sub.refl _ _ | refine Sub.trans Sub.drop ?_ | refine Sub.trans Sub.dropF ?_)) (h _ (hm9.upd hTn.symm)))
                        | (rw [own_4 c69, kid_get hk0, kid_get hk1] at hTn; rw [hTn] at h; exact AK.ret Tryd.results33 rfl (by repeat (first | exact Sub.refl _ _ | refine Sub.trans Sub.drop ?_ | refine Sub.trans Sub.dropF ?_)) (h _ (hm9.upd hTn.symm)))
                        | (rw [own_5 c86] at hTn; rw [hTn] at h; exact AK.ret Tryd.results33 rfl (by repeat (first | exact Sub.refl _ _ | refine Sub.trans Sub.drop ?_ | refine Sub.trans Sub.dropF ?_)) (h _ (hm9.upd hTn.symm)))
                        | (rw [own_6 c92] at hTn; rw [hTn] at h; exact AK.ret Tryd.results33 rfl (by repeat (first | exact Sub.refl _ _ | refine Sub.trans Sub.drop ?_ | refine Sub.trans Sub.dropF ?_)) (h _ (hm9.upd hTn.symm)))
                        | (rw [own_7 c121] at hTn; rw [hTn] at h; exact AK.ret Tryd.results33 rfl (by repeat (first | exact Sub.refl _ _ | refine Sub.trans Sub.drop ?_ | refine Sub.trans Sub.dropF ?_)) (h _ (hm9.upd hTn.symm)))
                        | (rw [own_8 c126 c132] at hTn; rw [hTn] at h; exact AK.ret Tryd.results33 rfl (by repeat (first | exact Sub.refl _ _ | refine Sub.trans Sub.drop ?_ | refine Sub.trans Sub.dropF ?_)) (h _ (hm9.upd hTn.symm)))
                        | (rw [own_8n c126 c132] at hTn; rw [hTn] at h; exact AK.ret Tryd.results33 rfl (by repeat (first | exact Sub.refl _ _ | refine Sub.trans Sub.drop ?_ | refine Sub.trans Sub.dropF ?_)) (h _ (hm9.upd hTn.symm)))
                        | (rw [own_9 c143] at hTn; rw [hTn] at h; exact AK.ret Tryd.results33 rfl (by repeat (first | exact Sub.refl _ _ | refine Sub.trans Sub.drop ?_ | refine Sub.trans Sub.dropF ?_)) (h _ (hm9.upd hTn.symm)))
                    · refine AL.go (AO.assign rfl rfl (AL.nil (AK.seqN (AC.condF rfl (AC.seq (AC.region ?_))))))
                      refine AL.go (AO.eql rfl rfl rfl (fun c143 => ?_) (fun c143 => absurd htx.kd (by omega)))
                      refine AL.go (AO.assign rfl rfl (AL.nil (AK.seqN (AC.condT rfl (AC.region (AL.go (AO.field rfl rfl ?_)))))))
                      refine AL.go (AO.loadB rfl rfl ?_)
                      have hil : (Lib.itoa l[n].n).length ≤ 20 := itoa_len hto.n
                      refine AL.go (AO.call rfl rfl (itoa_c g _ hto.n ?_))
                      refine AL.go (AO.addS rfl rfl rfl (by simp only [List.length_cons, List.length_nil]; omega) ?_)
                      refine AL.go (AO.assign rfl rfl (AL.nil (AK.blkN (AK.seqN (AC.seq ?_)))))
                      refine AC.draw (fun i => Nat.beq i 10) [(bw, _, _)] (by repeat (first | exact BxIn.nil | refine BxIn.cons (by repeat (first | exact has0 | assumption | apply hasS)) ?_)) rfl (fun hx hX => ?_)
                      refine AH.takeW (i := 0) rfl (Y.move rfl) (by kernel_rfl) rfl rfl ?_
                      refine AH.takeW (i := 1) rfl (Y.nilCheckP rfl) (by kernel_rfl) rfl rfl ?_
                      refine AH.takeW (i := 2) rfl (Y.field rfl) (by kernel_rfl) rfl rfl ?_
                      refine AH.takeS (i := 3) rfl (Y.loadB rfl (by repeat (first | exact List.Mem.head _ | refine List.Mem.tail _ ?_)) (by rfl)) (by kernel_rfl) (by kernel_rfl) rfl rfl rfl ?_
                      refine AH.takeW (i := 4) rfl (Y.move rfl) (by kernel_rfl) rfl rfl ?_
                      refine AH.takeW (i := 5) rfl (Y.move rfl) (by kernel_rfl) rfl rfl ?_
                      refine AH.takeW (i := 6) rfl (Y.move rfl) (by kernel_rfl) rfl rfl ?_
                      refine AH.takeW (i := 7) rfl (Y.lenS rfl) (by kernel_rfl) rfl rfl ?_
                      refine AH.takeW (i := 8) rfl (Y.min rfl rfl) (by kernel_rfl) rfl rfl ?_
                      refine AH.takeW (i := 9) rfl (Y.cutT rfl rfl) (by kernel_rfl) rfl rfl ?_
                      refine AH.one (i := 10) (by kernel_rfl) rfl rfl (fun _ => ?_)
                      refine AO.mapUpdate (kenc := vI) (venc := S) (i := j + 1) (n : Int) _ rfl rfl rfl (by first | exact hj | exact List.getElem?_set_self hjl) ?_
                      simp only [List.set_cons_zero, List.set_cons_succ, List.set_set]
                      refine AT.spoilt rfl ?_
                      refine AH.done (by kernel_rfl) ?_
                      refine AK.seqN (AC.seq (AC.region (AL.go (AO.move rfl rfl ?_))))
                      refine AL.go (AO.nilCheckP rfl rfl ?_)
                      refine AL.go (AO.field rfl rfl ?_)
                      refine AL.go (AO.loadB (cs := [.slice a k c, .map (some bm)]) rfl rfl ?_ (i := i + 1) (hi := (set_at hi hij : (List.set L j _)[i]? = _)) (hv := rfl))
                      refine AL.go (AO.move rfl rfl ?_)
                      refine AL.go (AO.lookup (kenc := vI) (venc := S) (i := j + 1) (n : Int) rfl rfl rfl (List.getElem?_set_self hjl : (List.set L j _)[j]? = _) ?_)
                      rw [upd_self]
                      refine AL.go (AO.assign rfl rfl (AL.nil (AK.seqN (AC.ret ?_))))
                      first
                      | (rw [own_0 c33] at hTn; rw [hTn] at h; exact AK.ret Tryd.results33 rfl (by repeat (first | exact Sub.refl _ _ | refine Sub.trans Sub.drop ?_ | refine Sub.trans Sub.dropF ?_)) (h _ (hm9.upd hTn.symm)))
                      | (rw [own_1 c37, kid_get hk0] at hTn; rw [hTn] at h; exact AK.ret Tryd.results33 rfl (by repeat (first | exact Sub.refl _ _ | refine Sub.trans Sub.drop ?_ | refine Sub.trans Sub.dropF ?_)) (h _ (hm9.upd hTn.symm)))
                      | (rw [own_2 c46, kid_get hk0] at hTn; rw [hTn] at h; exact AK.ret Tryd.results33 rfl (by repeat (first | exact Sub.refl _ _ | refine Sub.trans Sub.drop ?_ | refine Sub.trans Sub.dropF ?_)) (h _ (hm9.upd hTn.symm)))
                      | (rw [own_3 c55, kid_get hk0] at hTn; rw [hTn] at h; exact AK.ret Tryd.results33 rfl (by repeat (first | exact Sub.refl _ _ | refine Sub.trans Sub.drop ?_ | refine Sub.trans Sub.dropF ?_)) (h _ (hm9.upd hTn.symm)))
                      | (rw [own_4 c69, kid_get hk0, kid_get hk1] at hTn; rw [hTn] at h; exact AK.ret Tryd.results33 rfl (by repeat (first | exact Sub.refl _ _ | refine Sub.trans Sub.drop ?_ | refine Sub.trans Sub.dropF ?_)) (h _ (hm9.upd hTn.symm)))
                      | (rw [own_5 c86] at hTn; rw [hTn] at h; exact AK.ret Tryd.results33 rfl (by repeat (first | exact Sub.refl _ _ | refine Sub.trans Sub.drop ?_ | refine Sub.trans Sub.dropF ?_)) (h _ (hm9.upd hTn.symm)))
                      | (rw [own_6 c92] at hTn; rw [hTn] at h; exact AK.ret Tryd.results33 rfl (by repeat (first | exact Sub.refl _ _ | refine Sub.trans Sub.drop ?_ | refine Sub.trans Sub.dropF ?_)) (h _ (hm9.upd hTn.symm)))
                      | (rw [own_7 c121] at hTn; rw [hTn] at h; exact AK.ret Tryd.results33 rfl (by repeat (first | exact Sub.refl _ _ | refine Sub.trans Sub.drop ?_ | refine Sub.trans Sub.dropF ?_)) (h _ (hm9.upd hTn.symm)))
                      | (rw [own_8 c126 c132] at hTn; rw [hTn] at h; exact AK.ret Tryd.results33 rfl (by repeat (first | exact Sub.refl _ _ | refine Sub.trans Sub.drop ?_ | refine Sub.trans Sub.dropF ?_)) (h _ (hm9.upd hTn.symm)))
                      | (rw [own_8n c126 c132] at hTn; rw [hTn] at h; exact AK.ret Tryd.results33 rfl (by repeat (first | exact Sub.refl _ _ | refine Sub.trans Sub.drop ?_ | refine Sub.trans Sub.dropF ?_)) (h _ (hm9.upd hTn.symm)))
                      | (rw [own_9 c143] at hTn; rw [hTn] at h; exact AK.ret Tryd.results33 rfl (by repeat (first | exact Sub.refl _ _ | refine Sub.trans Sub.drop ?_ | refine Sub.trans Sub.dropF ?_)) (h _ (hm9.upd hTn.symm)))
end
end Go.Sy
