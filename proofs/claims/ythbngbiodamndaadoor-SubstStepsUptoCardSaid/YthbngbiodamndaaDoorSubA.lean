/- How many params each type asks for, and a type's parts: the walks, of the program and of the document. A type's parts, by the program; what the document says of both: the walks. -/
import Derived.Test.YthbngbiodamndaaDoorSubP
import Derived.Test.YthbngbiodamndaaDoorFwW
namespace Go.Sy
open Go Go.Proofs Go.RowKit

abbrev eBl (b : Bool) : List D := [.val (.bool b)]
abbrev fI (l : List Int) (a : Option Addr) (k c : Nat) : Fact := .slc (.slice a k c) 1 (l.map eI)
abbrev fB (l : List Bool) (a : Option Addr) (k c : Nat) : Fact := .slc (.slice a k c) 1 (l.map eBl)
theorem blt_of {a b : Nat} (h : a < b) : Nat.blt a b = true := by show Nat.ble (a + 1) b = true; rw [Nat.ble_eq]; exact h
theorem setA {α : Type} {f : α → Value} {A R : List α} {x v : α} {q : Nat} (hA : A.length = q) : ((A ++ x :: R).map f).set (0 + q * 1) (f v) = (A ++ v :: R).map f := by
  subst hA
  rw [Nat.zero_add, Nat.mul_one, ← List.map_set, List.set_append_right _ _ (Nat.le_refl _)]; simp
theorem getA {α : Type} {f : α → Value} {A R : List α} {x : α} {q : Nat} (hA : A.length = q) : ((A ++ x :: R).map f)[0 + q * 1]? = some (f x) := by
  subst hA; simp
theorem getB {α : Type} {f : α → Value} {A R : List α} {q : Nat} (z : α) (hq : q < A.length) : ((A ++ R).map f)[0 + q * 1]? = some (f (A.getD q z)) := by
  rw [Nat.zero_add, Nat.mul_one, List.getElem?_map, List.getElem?_append_left hq, List.getElem?_eq_getElem hq, List.getD_eq_getElem?_getD, List.getElem?_eq_getElem hq]; rfl
theorem rep_step {α : Type} (z : α) {i q : Nat} (h : q < i + 1) : List.replicate (i + 1 - q) z = z :: List.replicate (i - q) z := by
  have e : i + 1 - q = (i - q) + 1 := by omega
  rw [e, List.replicate_succ]
theorem asks_pos {l : List Ty} {q : Nat} (hq : q < l.length) {k : Int} (hk : 0 ≤ k ∧ k < q) : k.toNat < (asksL (l.take q)).length := by rw [asks_len l q (by omega)]; omega
theorem max_ask (A : List Int) {t : Ty} {v : Nat} (hv : v < t.kids.length) : max (askK A (ask0 t) (t.kids.take v)) (A.getD t.kids[v].toNat 0) = askK A (ask0 t) (t.kids.take (v + 1)) := (askK_snoc A _ _ hv).symm
theorem ask_next {l : List Ty} {i q : Nat} (hq : q < l.length) : (asksL (l.take q) ++ askK (asksL (l.take q)) (ask0 l[q]) l[q].kids :: List.replicate (i - q) 0) = asksL (l.take (q + 1)) ++ List.replicate (i + 1 - (q + 1)) 0 := by
  have e : i + 1 - (q + 1) = i - q := by omega
  rw [e, asks_step hq]; simp [ask1]

attribute [local irreducible] AC AT AO AK AH ACalls Sub Res.cells Res.obj Res.nix Res.own Res.map Exit.then Exit.inBlock bodyPost Code.wp Next Post Kont
section
variable {W0 : World} {L : List Res} {F : List Fact} {R : Value → List Res → List Fact → Prop}
set_option maxRecDepth 100000
set_option maxHeartbeats 4000000
theorem asks_c (l : List Ty) (hr : rightP l) (i : Nat) (hi : i < l.length) {a : Option Addr} {k c : Nat} (mL : fL l a k c ∈ F) (h : ∀ a k c, R (.slice a k c) L (fI (asksL (l.take (i + 1))) a k c :: F)) : ACalls Tryd.prog W0 35 #[.slice a k c, .int .i64 (i : Int)] L F R := by
  have h400 := hr.2.1
  refine ACalls.body Tryd.func35 rfl Tryd.ntmps35 rfl ?_
  refine AC.seq (AC.region (AL.go (AO.assign rfl rfl (AL.nil (AK.seqN (AC.seq ?_))))))
  refine AC.region (AL.go (AO.move rfl rfl (AL.go (AO.add rfl rfl rfl (by omega) (by omega) ?_))))
  refine AL.go (AO.makeSlice1 (m := i + 1) rfl rfl rfl (by omega) (by omega) (by omega) rfl (fun b12 => ?_))
  refine AL.go (AO.assign rfl rfl (AL.nil (AK.seqN (AC.seq (AC.seq (AC.region ?_))))))
  refine AL.go (AO.move rfl rfl (AL.go (AO.move rfl rfl (AL.go (AO.add rfl rfl rfl (by omega) (by omega) ?_)))))
  refine AL.go (AO.sliceH (j' := i + 1) rfl rfl rfl (by omega) (enc := eTy) (lst := l) (by repeat (first | exact mem0 | assumption | refine memS ?_)) (by omega) (fun a16 k16 c16 => ?_))
  have htl : (l.take (i + 1)).length = i + 1 := by rw [List.length_take]; omega
  refine AL.go (AO.len rfl rfl (fun hl17 => ?_) (hm := by repeat (first | exact mem0 | assumption | refine memS ?_)))
  refine AL.go (AO.move rfl rfl (AL.nil (AK.seqN (AC.block ?_))))
  refine AC.loop (fun (q : Nat) => q ≤ i + 1) (fun q => [(5, .slice (some ⟨b12, 0, none⟩) (i + 1) (i + 1)), (16, .slice a16 k16 c16), (17, .int .i64 (l.take (i + 1)).length), (18, .int .i64 (q : Int))]) (fun q => Res.cells b12 ((asksL (l.take q) ++ List.replicate (i + 1 - q) 0).map (Value.int .i64)).toArray 3 :: L) (fun _ => _) (fun q => i + 1 - q) 0 (Nat.zero_le _) (by repeat (first | exact SubR.nil | refine SubR.cons rfl ?_)) (Sub.ofEq (by simp [asksL])) ?_
  rintro q hq
  refine AC.seq (AC.region ?_)
  refine AL.go (AO.lss rfl rfl rfl (fun c19 => ?_) (fun c19 => ?_))
  · refine AL.nil (AK.seqN (AC.seq (AC.condT rfl (AC.skip (AK.seqN ?_)))))
    refine AC.seq (AC.block (AC.seq (AC.region (AL.go (AO.move rfl rfl ?_)))))
    have hqi : q < i + 1 := by omega
    have hql : q < l.length := by omega
    have hqt : q < (l.take (i + 1)).length := by omega
    have hget : (l.take (i + 1))[q] = l[q] := List.getElem_take
    have hAl := asks_len l q (by omega)
    have hrt := rt_of_right hr hql
    rw [rep_step 0 hqi]
    refine AL.go (AO.indexAddr rfl rfl rfl rfl (enc := eTy) (lst := l.take (i + 1)) (by repeat (first | exact mem0 | assumption | refine memS ?_)) hqt (fun _ _ => ?_))
    rw [hget]
    refine AL.go (AO.loadFA rfl rfl ?_)
    intro a22 k22 z22 d22 e22 f22
    refine AL.go (AO.alloc rfl (fun b7 => ?_))
    refine AL.go (AO.assign rfl rfl ?_)
    refine AL.go (AO.storeBA rfl rfl rfl rfl ?_)
    refine AL.nil (AK.seqN (AC.seq (AC.seq (AC.region (AL.go (AO.field rfl rfl ?_))))))
    refine AL.go (AO.loadB rfl rfl ?_)
    refine AL.go (AO.eql rfl rfl rfl (fun c25 => ?_) (fun c25 => ?_))
    · refine AL.nil (AK.seqN (AC.condT rfl (AC.region (AL.go (AO.move rfl rfl (AL.go (AO.move rfl rfl ?_)))))))
      refine AL.go (AO.field rfl rfl ?_)
      refine AL.go (AO.loadB rfl rfl ?_)
      have hp := hrt.param c25
      refine AL.go (AO.add rfl rfl rfl (by omega) (by omega) ?_)
      refine AL.go (AO.ofY (Y.indexAddr (k := q) rfl rfl rfl (by omega)) rfl ?_)
      refine AL.go (AO.storeB (v := .int .i64 (l[q].n + 1)) (cs := (asksL (l.take q) ++ 0 :: List.replicate (i - q) 0).map (Value.int .i64)) rfl rfl rfl ?_ (ho := blt_of (by simp; omega)))
      rw [setA hAl]
      refine AL.nil (AK.seqN (AC.seq (AC.region (AL.go (AO.field rfl rfl ?_)))))
      refine AL.go (AO.loadB rfl rfl ?_)
      refine AL.go (AO.len rfl rfl (fun hl34 => ?_) (enc := eI) (lst := l[q].kids) (hm := (by repeat (first | exact mem0 | assumption | refine memS ?_))))
      refine AL.go (AO.move rfl rfl (AL.nil (AK.seqN (AC.block ?_))))
      rw [show l[q].n + 1 = ask0 l[q] from (if_pos c25).symm]
      refine AC.loop (fun (v : Nat) => v ≤ l[q].kids.length) (fun v => [(5, .slice (some ⟨b12, 0, none⟩) (i + 1) (i + 1)), (16, .slice a16 k16 c16), (17, .int .i64 (l.take (i + 1)).length), (18, .int .i64 (q : Int)), (6, .int .i64 (q : Int)), (7, .pointer (some ⟨b7, 0, none⟩)), (33, .slice d22 e22 f22), (34, .int .i64 l[q].kids.length), (35, .int .i64 (v : Int))]) (fun v => _ :: Res.cells b12 ((asksL (l.take q) ++ askK (asksL (l.take q)) (ask0 l[q]) (l[q].kids.take v) :: List.replicate (i - q) 0).map (Value.int .i64)).toArray 3 :: L) (fun _ => _) (fun v => l[q].kids.length - v) 0 (Nat.zero_le _) (by repeat (first | exact SubR.nil | refine SubR.cons rfl ?_)) (Sub.refl _ _) ?_
      rintro v hv
      refine AC.seq (AC.region ?_)
      refine AL.go (AO.lss rfl rfl rfl (fun c36 => ?_) (fun c36 => ?_))
      · refine AL.nil (AK.seqN (AC.seq (AC.condT rfl (AC.skip (AK.seqN ?_)))))
        refine AC.seq (AC.block (AC.seq (AC.region ?_)))
        have hvl : v < l[q].kids.length := by omega
        have hb := hrt.kids _ (List.getElem_mem hvl)
        refine AL.go (AO.indexAddr rfl rfl rfl rfl (show fK l[q] _ _ _ ∈ _ from (by repeat (first | exact mem0 | assumption | refine memS ?_))) hvl (fun _ _ => ?_))
        refine AL.go (AO.loadF rfl rfl ?_)
        intros
        refine AL.go (AO.assign rfl rfl (AL.nil (AK.seqN ?_)))
        refine AC.draw (fun i => Nat.beq i 12) [(b12, _, _)] (by repeat (first | exact BxIn.nil | refine BxIn.cons (by repeat (first | exact has0 | assumption | apply hasS)) ?_)) rfl (fun hx hX => ?_)
        refine AH.takeW (i := 0) rfl (Y.move rfl) (by kernel_rfl) rfl rfl ?_
        refine AH.takeW (i := 1) rfl (Y.move rfl) (by kernel_rfl) rfl rfl ?_
        refine AH.takeW (i := 2) rfl (Y.move rfl) (by kernel_rfl) rfl rfl ?_
        refine AH.takeW (i := 3) rfl (Y.move rfl) (by kernel_rfl) rfl rfl ?_
        refine AH.takeW (i := 4) rfl (Y.indexAddr rfl rfl rfl (by omega)) (by kernel_rfl) rfl rfl ?_
        refine AH.takeS (i := 5) rfl (Y.loadB rfl (List.Mem.head _) (getA hAl)) (by kernel_rfl) (by kernel_rfl) rfl rfl rfl ?_
        refine AH.takeW (i := 6) rfl (Y.move rfl) (by kernel_rfl) rfl rfl ?_
        refine AH.takeW (i := 7) rfl (Y.move rfl) (by kernel_rfl) rfl rfl ?_
        refine AH.takeW (i := 8) rfl (Y.indexAddr (k := l[q].kids[v].toNat) rfl rfl (by omega) (by omega)) (by kernel_rfl) rfl rfl ?_
        refine AH.takeS (i := 9) rfl (Y.loadB rfl (List.Mem.head _) (getB 0 (asks_pos hql hb))) (by kernel_rfl) (by kernel_rfl) rfl rfl rfl ?_
        refine AH.takeW (i := 10) rfl (Y.max rfl rfl) (by kernel_rfl) rfl rfl ?_
        refine AH.takeW (i := 11) rfl (Y.indexAddr rfl rfl rfl (by omega)) (by kernel_rfl) rfl rfl ?_
        refine AH.one (i := 12) (by kernel_rfl) rfl rfl (fun _ => ?_)
        rw [max_ask _ hvl]
        refine AO.storeB (v := .int .i64 (askK (asksL (l.take q)) (ask0 l[q]) (l[q].kids.take (v + 1)))) (cs := (asksL (l.take q) ++ askK (asksL (l.take q)) (ask0 l[q]) (l[q].kids.take v) :: List.replicate (i - q) 0).map (Value.int .i64)) rfl rfl rfl ?_ (ho := blt_of (by simp; omega))
        rw [setA hAl]
        refine AT.spoilt rfl ?_
        refine AH.done (by kernel_rfl) ?_
        refine AK.blkN (AK.seqN (AC.region (AL.go (AO.add rfl rfl rfl (by omega) (by omega) (AL.go (AO.move rfl rfl (AL.nil ?_)))))))
        refine AK.next (v + 1) (by omega) (by omega) (by repeat (first | exact SubR.nil | refine SubR.cons rfl ?_)) (by repeat (first | exact Sub.refl _ _ | refine Sub.trans Sub.dropF ?_))
      · refine AL.nil (AK.seqN (AC.seq (AC.condF rfl (AC.exit (AK.seqX ?_)))))
        refine AK.seqX (AK.blkX (AK.blkN (AK.seqN (AC.region (AL.go (AO.add rfl rfl rfl (by omega) (by omega) ?_))))))
        refine AL.go (AO.move rfl rfl (AL.nil ?_))
        refine AK.next (q + 1) (by omega) (by omega) (by repeat (first | exact SubR.nil | refine SubR.cons rfl ?_)) (Sub.drop.trans ?_)
        have hkt : l[q].kids.take v = l[q].kids := List.take_of_length_le (by omega)
        rw [hkt, ask_next hql]
        exact (by repeat (first | exact Sub.refl _ _ | refine Sub.trans Sub.dropF ?_))
    · refine AL.nil (AK.seqN (AC.condF rfl (AC.skip (AK.seqN (AC.seq ?_)))))
      refine AC.region (AL.go (AO.field rfl rfl ?_))
      refine AL.go (AO.loadB rfl rfl ?_)
      refine AL.go (AO.len rfl rfl (fun hl34 => ?_) (enc := eI) (lst := l[q].kids) (hm := (by repeat (first | exact mem0 | assumption | refine memS ?_))))
      refine AL.go (AO.move rfl rfl (AL.nil (AK.seqN (AC.block ?_))))
      rw [show (0 : Int) :: List.replicate (i - q) 0 = ask0 l[q] :: List.replicate (i - q) 0 by rw [show ask0 l[q] = 0 from if_neg c25]]
      refine AC.loop (fun (v : Nat) => v ≤ l[q].kids.length) (fun v => [(5, .slice (some ⟨b12, 0, none⟩) (i + 1) (i + 1)), (16, .slice a16 k16 c16), (17, .int .i64 (l.take (i + 1)).length), (18, .int .i64 (q : Int)), (6, .int .i64 (q : Int)), (7, .pointer (some ⟨b7, 0, none⟩)), (33, .slice d22 e22 f22), (34, .int .i64 l[q].kids.length), (35, .int .i64 (v : Int))]) (fun v => _ :: Res.cells b12 ((asksL (l.take q) ++ askK (asksL (l.take q)) (ask0 l[q]) (l[q].kids.take v) :: List.replicate (i - q) 0).map (Value.int .i64)).toArray 3 :: L) (fun _ => _) (fun v => l[q].kids.length - v) 0 (Nat.zero_le _) (by repeat (first | exact SubR.nil | refine SubR.cons rfl ?_)) (Sub.refl _ _) ?_
      rintro v hv
      refine AC.seq (AC.region ?_)
      refine AL.go (AO.lss rfl rfl rfl (fun c36 => ?_) (fun c36 => ?_))
      · refine AL.nil (AK.seqN (AC.seq (AC.condT rfl (AC.skip (AK.seqN ?_)))))
        refine AC.seq (AC.block (AC.seq (AC.region ?_)))
        have hvl : v < l[q].kids.length := by omega
        have hb := hrt.kids _ (List.getElem_mem hvl)
        refine AL.go (AO.indexAddr rfl rfl rfl rfl (show fK l[q] _ _ _ ∈ _ from (by repeat (first | exact mem0 | assumption | refine memS ?_))) hvl (fun _ _ => ?_))
        refine AL.go (AO.loadF rfl rfl ?_)
        intros
        refine AL.go (AO.assign rfl rfl (AL.nil (AK.seqN ?_)))
        refine AC.draw (fun i => Nat.beq i 12) [(b12, _, _)] (by repeat (first | exact BxIn.nil | refine BxIn.cons (by repeat (first | exact has0 | assumption | apply hasS)) ?_)) rfl (fun hx hX => ?_)
        refine AH.takeW (i := 0) rfl (Y.move rfl) (by kernel_rfl) rfl rfl ?_
        refine AH.takeW (i := 1) rfl (Y.move rfl) (by kernel_rfl) rfl rfl ?_
        refine AH.takeW (i := 2) rfl (Y.move rfl) (by kernel_rfl) rfl rfl ?_
        refine AH.takeW (i := 3) rfl (Y.move rfl) (by kernel_rfl) rfl rfl ?_
        refine AH.takeW (i := 4) rfl (Y.indexAddr rfl rfl rfl (by omega)) (by kernel_rfl) rfl rfl ?_
        refine AH.takeS (i := 5) rfl (Y.loadB rfl (List.Mem.head _) (getA hAl)) (by kernel_rfl) (by kernel_rfl) rfl rfl rfl ?_
        refine AH.takeW (i := 6) rfl (Y.move rfl) (by kernel_rfl) rfl rfl ?_
        refine AH.takeW (i := 7) rfl (Y.move rfl) (by kernel_rfl) rfl rfl ?_
        refine AH.takeW (i := 8) rfl (Y.indexAddr (k := l[q].kids[v].toNat) rfl rfl (by omega) (by omega)) (by kernel_rfl) rfl rfl ?_
        refine AH.takeS (i := 9) rfl (Y.loadB rfl (List.Mem.head _) (getB 0 (asks_pos hql hb))) (by kernel_rfl) (by kernel_rfl) rfl rfl rfl ?_
        refine AH.takeW (i := 10) rfl (Y.max rfl rfl) (by kernel_rfl) rfl rfl ?_
        refine AH.takeW (i := 11) rfl (Y.indexAddr rfl rfl rfl (by omega)) (by kernel_rfl) rfl rfl ?_
        refine AH.one (i := 12) (by kernel_rfl) rfl rfl (fun _ => ?_)
        rw [max_ask _ hvl]
        refine AO.storeB (v := .int .i64 (askK (asksL (l.take q)) (ask0 l[q]) (l[q].kids.take (v + 1)))) (cs := (asksL (l.take q) ++ askK (asksL (l.take q)) (ask0 l[q]) (l[q].kids.take v) :: List.replicate (i - q) 0).map (Value.int .i64)) rfl rfl rfl ?_ (ho := blt_of (by simp; omega))
        rw [setA hAl]
        refine AT.spoilt rfl ?_
        refine AH.done (by kernel_rfl) ?_
        refine AK.blkN (AK.seqN (AC.region (AL.go (AO.add rfl rfl rfl (by omega) (by omega) (AL.go (AO.move rfl rfl (AL.nil ?_)))))))
        refine AK.next (v + 1) (by omega) (by omega) (by repeat (first | exact SubR.nil | refine SubR.cons rfl ?_)) (by repeat (first | exact Sub.refl _ _ | refine Sub.trans Sub.dropF ?_))
      · refine AL.nil (AK.seqN (AC.seq (AC.condF rfl (AC.exit (AK.seqX ?_)))))
        refine AK.seqX (AK.blkX (AK.blkN (AK.seqN (AC.region (AL.go (AO.add rfl rfl rfl (by omega) (by omega) ?_))))))
        refine AL.go (AO.move rfl rfl (AL.nil ?_))
        refine AK.next (q + 1) (by omega) (by omega) (by repeat (first | exact SubR.nil | refine SubR.cons rfl ?_)) (Sub.drop.trans ?_)
        have hkt : l[q].kids.take v = l[q].kids := List.take_of_length_le (by omega)
        rw [hkt, ask_next hql]
        exact (by repeat (first | exact Sub.refl _ _ | refine Sub.trans Sub.dropF ?_))
  · refine AL.nil (AK.seqN (AC.seq (AC.condF rfl (AC.exit (AK.seqX ?_)))))
    refine AK.seqX (AK.blkX (AK.seqN (AC.seq (AC.region ?_))))
    refine AL.go (AO.move rfl rfl ?_)
    have hq9 : q = i + 1 := by omega
    subst hq9
    rw [Nat.sub_self, List.replicate_zero, List.append_nil]
    have hAl := asks_len l (i + 1) (by omega)
    refine AT.sub ((Sub.lit (i := 0) (enc := eI) (sz := 1) (k := i + 1) (asksL (l.take (i + 1))) rfl (cells_I _) (fun _ => rfl) hAl (by simp only [maxLen]; omega)).trans Sub.drop) ?_
    refine AL.go (AO.assign rfl rfl (AL.nil (AK.seqN (AC.ret ?_))))
    exact AK.ret (L' := L) (F' := fI (asksL (l.take (i + 1))) _ _ _ :: F) Tryd.results35 rfl (Sub.headF (fun x hx => by repeat (first | exact hx | refine List.mem_cons_of_mem _ ?_))) (h _ _ _)
end
end Go.Sy

namespace Go.Sy
open Go Go.Proofs Go.RowKit

theorem setM {α : Type} {f : α → Value} {M : List α} {v : α} {q : Nat} : (M.map f).set (0 + q * 1) (f v) = (M.set q v).map f := by
  rw [Nat.zero_add, Nat.mul_one, ← List.map_set]
theorem getM {α : Type} {f : α → Value} {M : List α} {q : Nat} (z : α) (hq : q < M.length) : (M.map f)[0 + q * 1]? = some (f (M.getD q z)) := by
  have := getB (f := f) (A := M) (R := []) z hq
  rwa [List.append_nil] at this
theorem part_no {l : List Ty} {i j : Nat} (h : (partsN l i j).getD (i - j) false = false) : partsN l i j = partsN l i (j + 1) := by
  rw [partsN, partStep, if_neg (by rw [h]; simp)]
theorem part_yes {l : List Ty} {i j : Nat} (hi : i < l.length) (h : (partsN l i j).getD (i - j) false = true) : markK (partsN l i j) (l[i - j]'(by omega)).kids = partsN l i (j + 1) := by
  rw [partsN, partStep, if_pos h, row_kid hi (Nat.sub_le i j)]
theorem eI_get {A : List Int} {q : Nat} (hq : q < A.length) : (A.map eI)[q]? = some [.val (.int .i64 (A.getD q 0))] := by
  rw [List.getElem?_map, List.getElem?_eq_getElem hq, List.getD_eq_getElem?_getD, List.getElem?_eq_getElem hq]; rfl
theorem eB_get {A : List Bool} {q : Nat} (hq : q < A.length) : (A.map eBl)[q]? = some [.val (.bool (A.getD q false))] := by
  rw [List.getElem?_map, List.getElem?_eq_getElem hq, List.getD_eq_getElem?_getD, List.getElem?_eq_getElem hq]; rfl
theorem eB_set {A : List Bool} {q : Nat} {b : Bool} : (A.map eBl).set q [.val (.bool b)] = (A.set q b).map eBl := by rw [List.map_set]
theorem ask_up {A : List Int} {m : Int} {ks : List Int} {v : Nat} (hv : v < ks.length) (h : askK A m (ks.take v) < A.getD ks[v].toNat 0) : A.getD ks[v].toNat 0 = askK A m (ks.take (v + 1)) := by rw [askK_snoc _ _ _ hv]; omega
theorem ask_no {A : List Int} {m : Int} {ks : List Int} {v : Nat} (hv : v < ks.length) (h : A.getD ks[v].toNat 0 ≤ askK A m (ks.take v)) : askK A m (ks.take v) = askK A m (ks.take (v + 1)) := by rw [askK_snoc _ _ _ hv]; omega
theorem eI_snoc {A : List Int} {x : Int} : A.map eI ++ [x].map eI = (A ++ [x]).map eI := by simp

attribute [local irreducible] AC AT AO AK AH ACalls Sub Res.cells Res.obj Res.nix Res.own Res.map Exit.then Exit.inBlock bodyPost Code.wp Next Post Kont
section
variable {W0 : World} {L : List Res} {F : List Fact} {R : Value → List Res → List Fact → Prop}
set_option maxRecDepth 100000
set_option maxHeartbeats 4000000
theorem parts_c (l : List Ty) (hr : rightP l) (i : Nat) (hi : i < l.length) {a : Option Addr} {k c : Nat} (mL : fL l a k c ∈ F) (h : ∀ a k c, R (.slice a k c) L (fB (partsL l i) a k c :: F)) : ACalls Tryd.prog W0 38 #[.slice a k c, .int .i64 (i : Int)] L F R := by
  have h400 := hr.2.1
  refine ACalls.body Tryd.func38 rfl Tryd.ntmps38 rfl ?_
  refine AC.seq (AC.region (AL.go (AO.assign rfl rfl (AL.nil (AK.seqN (AC.seq ?_))))))
  refine AC.region (AL.go (AO.move rfl rfl (AL.go (AO.add rfl rfl rfl (by omega) (by omega) ?_))))
  refine AL.go (AO.makeSlice1 (m := i + 1) rfl rfl rfl (by omega) (by omega) (by omega) rfl (fun b11 => ?_))
  refine AT.sub (Sub.ofEq (L' := Res.cells b11 ((List.replicate (i + 1) false).map Value.bool).toArray 4 :: L) (by simp)) ?_
  refine AL.go (AO.assign rfl rfl (AL.nil (AK.seqN (AC.seq (AC.region (AL.go (AO.move rfl rfl ?_)))))))
  refine AL.go (AO.move rfl rfl ?_)
  refine AL.go (AO.ofY (Y.indexAddr (k := i) rfl rfl rfl (by omega)) rfl ?_)
  refine AL.go (AO.storeB (v := .bool true) (cs := (List.replicate (i + 1) false).map Value.bool) rfl rfl rfl ?_ (ho := blt_of (by simp)))
  rw [setM]
  refine AL.nil (AK.seqN (AC.seq (AC.seq (AC.region (AL.go (AO.move rfl rfl ?_))))))
  refine AL.go (AO.assign rfl rfl (AL.nil (AK.seqN (AC.block ?_))))
  refine AC.loop (fun (j : Nat) => j ≤ i + 1) (fun j => [(0, .slice a k c), (5, .slice (some ⟨b11, 0, none⟩) (i + 1) (i + 1)), (6, .int .i64 ((i : Int) - (j : Int)))]) (fun j => Res.cells b11 ((partsN l i j).map Value.bool).toArray 4 :: L) (fun _ => F) (fun j => i + 1 - j) 0 (Nat.zero_le _) (by have e0 : (i : Int) - ((0 : Nat) : Int) = (i : Int) := Int.sub_zero _; simp only [e0]; exact (by repeat (first | exact SubR.nil | refine SubR.cons rfl ?_))) (Sub.refl _ _) ?_
  rintro j hj
  have hMl := partsN_len l i j
  refine AC.seq (AC.seq (AC.region (AL.go (AO.move rfl rfl ?_))))
  refine AL.go (AO.geq rfl rfl rfl (fun c17 => ?_) (fun c17 => ?_))
  · refine AL.nil (AK.seqN (AC.condT rfl (AC.skip (AK.seqN (AC.seq ?_)))))
    refine AC.block (AC.seq (AC.seq (AC.region (AL.go (AO.move rfl rfl (AL.go (AO.move rfl rfl ?_)))))))
    refine AL.go (AO.ofY (Y.indexAddr (k := i - j) rfl rfl (by omega) (by omega)) rfl ?_)
    refine AL.go (AO.loadB (v := .bool ((partsN l i j).getD (i - j) false)) rfl rfl ?_ (hv := getM false (by omega)))
    refine AL.go (AO.not rfl rfl (AL.nil (AK.seqN ?_)))
    refine AC.cond rfl (fun c24 => ?_) (fun c24 => ?_)
    · refine AC.exit (AK.seqX (AK.blkX (AK.seqN (AC.region (AL.go (AO.move rfl rfl ?_))))))
      refine AL.go (AO.sub rfl rfl rfl (by omega) (by omega) (AL.go (AO.assign rfl rfl (AL.nil ?_))))
      rw [show (i : Int) - (j : Int) - 1 = (i : Int) - ((j + 1 : Nat) : Int) by omega]
      refine AK.next (j + 1) (by omega) (by omega) (by repeat (first | exact SubR.nil | refine SubR.cons rfl ?_)) ?_
      rw [part_no (by simpa using c24)]
      exact (by repeat (first | exact Sub.refl _ _ | refine Sub.trans Sub.dropF ?_))
    · refine AC.skip (AK.seqN (AC.seq (AC.region (AL.go (AO.move rfl rfl (AL.go (AO.move rfl rfl ?_)))))))
      have hij : i - j < l.length := by omega
      refine AL.go (AO.indexAddr (k := i - j) rfl rfl rfl (by omega) (enc := eTy) (lst := l) (by repeat (first | exact mem0 | assumption | refine memS ?_)) hij (fun _ _ => ?_))
      refine AL.go (AO.fieldAt rfl rfl (fun _ => ?_))
      refine AL.go (AO.loadF rfl rfl ?_)
      intro a29 k29 z29
      refine AL.go (AO.len rfl rfl (fun hl30 => ?_) (enc := eI) (lst := l[i - j].kids) (hm := (by repeat (first | exact mem0 | assumption | refine memS ?_))))
      refine AL.go (AO.move rfl rfl (AL.nil (AK.seqN (AC.block ?_))))
      refine AC.loop (fun (v : Nat) => v ≤ l[i - j].kids.length) (fun v => [(0, .slice a k c), (5, .slice (some ⟨b11, 0, none⟩) (i + 1) (i + 1)), (6, .int .i64 ((i : Int) - (j : Int))), (29, .slice a29 k29 z29), (30, .int .i64 l[i - j].kids.length), (31, .int .i64 (v : Int))]) (fun v => Res.cells b11 ((markK (partsN l i j) (l[i - j].kids.take v)).map Value.bool).toArray 4 :: L) (fun _ => _) (fun v => l[i - j].kids.length - v) 0 (Nat.zero_le _) (by repeat (first | exact SubR.nil | refine SubR.cons rfl ?_)) (Sub.refl _ _) ?_
      rintro v hv
      refine AC.seq (AC.region ?_)
      refine AL.go (AO.lss rfl rfl rfl (fun c32 => ?_) (fun c32 => ?_))
      · refine AL.nil (AK.seqN (AC.seq (AC.condT rfl (AC.skip (AK.seqN ?_)))))
        refine AC.seq (AC.block (AC.seq (AC.region ?_)))
        have hvl : v < l[i - j].kids.length := by omega
        have hb := (rt_of_right hr hij).kids _ (List.getElem_mem hvl)
        refine AL.go (AO.indexAddr rfl rfl rfl rfl (show fK l[i - j] _ _ _ ∈ _ from (by repeat (first | exact mem0 | assumption | refine memS ?_))) hvl (fun _ _ => ?_))
        refine AL.go (AO.loadF rfl rfl ?_)
        intros
        refine AL.go (AO.assign rfl rfl (AL.nil (AK.seqN (AC.region (AL.go (AO.move rfl rfl (AL.go (AO.move rfl rfl ?_))))))))
        refine AL.go (AO.ofY (Y.indexAddr (k := l[i - j].kids[v].toNat) rfl rfl (by omega) (by omega)) rfl ?_)
        refine AL.go (AO.storeB (v := .bool true) (cs := (markK (partsN l i j) (l[i - j].kids.take v)).map Value.bool) rfl rfl rfl ?_ (ho := blt_of (by rw [List.length_map, markK_len]; omega)))
        rw [setM, ← markK_snoc _ _ hvl]
        refine AL.nil (AK.blkN (AK.seqN (AC.region (AL.go (AO.add rfl rfl rfl (by omega) (by omega) (AL.go (AO.move rfl rfl ?_)))))))
        refine AL.nil ?_
        refine AK.next (v + 1) (by omega) (by omega) (by repeat (first | exact SubR.nil | refine SubR.cons rfl ?_)) (by repeat (first | exact Sub.refl _ _ | refine Sub.trans Sub.dropF ?_))
      · refine AL.nil (AK.seqN (AC.seq (AC.condF rfl (AC.exit (AK.seqX ?_)))))
        refine AK.seqX (AK.blkX (AK.blkN (AK.seqN (AC.region (AL.go (AO.move rfl rfl ?_))))))
        refine AL.go (AO.sub rfl rfl rfl (by omega) (by omega) (AL.go (AO.assign rfl rfl (AL.nil ?_))))
        rw [show (i : Int) - (j : Int) - 1 = (i : Int) - ((j + 1 : Nat) : Int) by omega]
        refine AK.next (j + 1) (by omega) (by omega) (by repeat (first | exact SubR.nil | refine SubR.cons rfl ?_)) ?_
        have hkt : l[i - j].kids.take v = l[i - j].kids := List.take_of_length_le (by omega)
        rw [hkt, part_yes hi (by simpa using c24)]
        exact (by repeat (first | exact Sub.refl _ _ | refine Sub.trans Sub.dropF ?_))
  · refine AL.nil (AK.seqN (AC.condF rfl (AC.exit (AK.seqX (AK.seqX ?_)))))
    refine AK.blkX (AK.seqN (AC.seq (AC.region ?_)))
    refine AL.go (AO.move rfl rfl ?_)
    have hj9 : j = i + 1 := by omega
    subst hj9
    refine AT.sub ((Sub.lit (i := 0) (enc := eBl) (sz := 1) (k := i + 1) (partsL l i) rfl (cells_B _) (fun _ => rfl) hMl (by simp only [maxLen]; omega)).trans Sub.drop) ?_
    refine AL.go (AO.assign rfl rfl (AL.nil (AK.seqN (AC.ret ?_))))
    exact AK.ret (L' := L) (F' := fB (partsL l i) _ _ _ :: F) Tryd.results38 rfl (Sub.headF (fun x hx => by repeat (first | exact hx | refine List.mem_cons_of_mem _ ?_))) (h _ _ _)
end
end Go.Sy
