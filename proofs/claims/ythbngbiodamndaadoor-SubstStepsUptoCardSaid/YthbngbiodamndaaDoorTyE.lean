/- The text of a slice of a basic type, and that the program answers at all: the walks. -/
import Derived.Test.YthbngbiodamndaaDoorTyD
namespace Go.Sy
open Go Go.Proofs Go.RowKit

abbrev vI (i : Int) : Value := .int .i64 i
def cutT (s : List UInt8) : List UInt8 := s.take (min s.length 4001)
theorem cutT_short {s : List UInt8} (h : s.length ≤ 4001) : cutT s = s := by
  unfold cutT; exact List.take_of_length_le (by omega)

attribute [local irreducible] AC AT AO AK AH ACalls Sub Res.cells Res.obj Res.nix Res.own Res.map Exit.then Exit.inBlock bodyPost Code.wp Next Post Kont
section
variable {W0 : World} {L : List Res} {F : List Fact} {R : Value → List Res → List Fact → Prop}
set_option maxRecDepth 100000
set_option maxHeartbeats 4000000
theorem text0_c (l : List Ty) (m : Int → Option (List UInt8)) (q : Nat) (hq : q < l.length) (hk : l[q].kind = 0) (hn : l[q].name.length ≤ 60) (hm : m q = none) {a : Option Addr} {k c bw bm i j : Nat} (mL : fL l a k c ∈ F)
    (hi : L[i]? = some (Res.cells bw #[.slice a k c, .map (some bm)] 66)) (hj : L[j]? = some (Res.map bm vI S m)) (hij : i ≠ j)
    (h : R (S l[q].name) (L.set j (Res.map bm vI S (upd m q l[q].name))) F) : ACalls Tryd.prog W0 33 #[.pointer (some ⟨bw, 0, none⟩), .int .i64 (q : Int)] L F R := by
  have hsh : cutT l[q].name = l[q].name := cutT_short (by omega)
  refine ACalls.body Tryd.func33 rfl Tryd.ntmps33 rfl ?_
  refine AC.seq (AC.region (AL.go (AO.assign rfl rfl (AL.nil (AK.seqN (AC.seq ?_))))))
  refine AC.seq (AC.region (AL.go (AO.move rfl rfl ?_)))
  refine AL.go (AO.nilCheckP rfl rfl ?_)
  refine AL.go (AO.field rfl rfl ?_)
  refine AL.go (AO.loadB (cs := [.slice a k c, .map (some bm)]) rfl rfl ?_ (hi := hi) (hv := rfl))
  refine AL.go (AO.move rfl rfl ?_)
  refine AL.go (AO.lookupOk (kenc := vI) (venc := S) (m := m) (i := j) (q : Int) rfl rfl rfl hj (fun y hy => absurd hy (by rw [hm]; simp)) (fun _ => ?_))
  refine AL.go (AO.move rfl rfl (AL.go (AO.extract rfl rfl rfl ?_)))
  refine AL.go (AO.extract rfl rfl rfl ?_)
  refine AL.go (AO.assign rfl rfl (AL.go (AO.assign rfl rfl (AL.nil (AK.seqN (AC.seq (AC.region ?_)))))))
  refine AL.go (AO.move rfl rfl (AL.nil (AK.seqN (AC.condF rfl (AC.skip (AK.seqN ?_))))))
  refine AC.seq (AC.region (AL.go (AO.move rfl rfl ?_)))
  refine AL.go (AO.nilCheckP rfl rfl ?_)
  refine AL.go (AO.field rfl rfl ?_)
  refine AL.go (AO.loadB (cs := [.slice a k c, .map (some bm)]) rfl rfl ?_ (hi := hi) (hv := rfl))
  refine AL.go (AO.move rfl rfl ?_)
  refine AL.go (AO.indexAddr rfl rfl rfl rfl (by repeat (first | exact mem0 | assumption | refine memS ?_)) hq (fun _ _ => ?_))
  refine AL.go (AO.loadFA rfl rfl ?_)
  intro a29 k29 z29 d29 e29 f29
  refine AL.go (AO.alloc rfl (fun b7 => ?_))
  refine AL.go (AO.storeBA rfl rfl rfl rfl ?_)
  refine AL.nil (AK.seqN (AC.seq (AC.region (AL.go (AO.assign rfl rfl (AL.nil ?_))))))
  refine AK.seqN (AC.seq (AC.seq (AC.region (AL.go (AO.field rfl rfl ?_)))))
  refine AL.go (AO.loadB rfl rfl ?_)
  refine AL.nil (AK.seqN (AC.block (AC.seq (AC.region ?_))))
  refine AL.go (AO.eql rfl rfl rfl (fun c33 => ?_) (fun c33 => absurd hk c33))
  refine AL.go (AO.assign rfl rfl (AL.nil (AK.seqN (AC.condT rfl (AC.region (AL.go (AO.field rfl rfl ?_)))))))
  refine AL.go (AO.loadB rfl rfl ?_)
  refine AL.go (AO.assign rfl rfl (AL.nil (AK.blkN (AK.seqN (AC.seq ?_)))))
  refine AC.draw (fun i => Nat.beq i 10) [(bw, _, _)] (by repeat (first | exact BxIn.nil | refine BxIn.cons (by repeat (first | exact has0 | assumption | apply hasS)) ?_)) rfl (fun hx hX => ?_)
  refine AH.takeW (i := 0) rfl (Y.move rfl) (by kernel_rfl) rfl rfl ?_
  refine AH.takeW (i := 1) rfl (Y.nilCheckP rfl) (by kernel_rfl) rfl rfl ?_
  refine AH.takeW (i := 2) rfl (Y.field rfl) (by kernel_rfl) rfl rfl ?_
  refine AH.takeS (i := 3) rfl (Y.loadB rfl (by repeat (first | exact List.Mem.head _ | refine List.Mem.tail _ ?_)) (by rfl)) (by kernel_rfl) (by kernel_rfl) rfl rfl rfl ?_
  refine AH.takeW (i := 4) rfl (Y.move rfl) (by kernel_rfl) rfl rfl ?_
  refine AH.takeW (i := 5) rfl (Y.move rfl) (by kernel_rfl) rfl rfl ?_
  refine AH.takeW (i := 6) rfl (Y.move rfl) (by kernel_rfl) rfl rfl ?_
  refine AH.takeW (i := 7) rfl (Y.lenS rfl) (by kernel_rfl) rfl rfl ?_
  refine AH.takeW (i := 8) rfl (Y.min rfl rfl) (by kernel_rfl) rfl rfl ?_
  refine AH.takeW (i := 9) rfl (Y.sliceSH (j' := min l[q].name.length 4001) rfl rfl (by omega) (by omega)) (by kernel_rfl) rfl rfl ?_
  refine AH.one (i := 10) (by kernel_rfl) rfl rfl (fun _ => ?_)
  refine AO.mapUpdate (kenc := vI) (venc := S) (m := m) (i := j + 1) (q : Int) (cutT l[q].name) rfl rfl rfl hj ?_
  refine AT.spoilt rfl ?_
  refine AH.done (by kernel_rfl) ?_
  refine AK.seqN (AC.seq (AC.region (AL.go (AO.move rfl rfl ?_))))
  refine AL.go (AO.nilCheckP rfl rfl ?_)
  refine AL.go (AO.field rfl rfl ?_)
  refine AL.go (AO.loadB (cs := [.slice a k c, .map (some bm)]) rfl rfl ?_ (i := i + 1) (hi := (List.getElem?_set_ne (Ne.symm hij)).trans hi) (hv := rfl))
  refine AL.go (AO.move rfl rfl ?_)
  refine AL.go (AO.lookup (kenc := vI) (venc := S) (m := upd m (q : Int) (cutT l[q].name)) (i := j + 1) (q : Int) rfl rfl rfl (List.getElem?_set_self (has_lt hj)) ?_)
  rw [upd_self]
  refine AL.go (AO.assign rfl rfl (AL.nil (AK.seqN (AC.ret ?_))))
  rw [hsh]
  exact AK.ret (L' := L.set j (Res.map bm vI S (upd m q l[q].name))) (F' := F) Tryd.results33 rfl (by repeat (first | exact Sub.refl _ _ | refine Sub.trans Sub.drop ?_ | refine Sub.trans Sub.dropF ?_)) h
theorem textS_c (l : List Ty) (m : Int → Option (List UInt8)) (q r : Nat) (hq : q < l.length) (hk : l[q].kind = 2) (hr : r < l.length) (hrk : l[r].kind = 0) (hn : l[r].name.length ≤ 60) (hkid : l[q].kids = [(r : Int)]) (hm : m q = none) (hmr : m r = none) {a : Option Addr} {k c bw bm i j : Nat} (mL : fL l a k c ∈ F)
    (hi : L[i]? = some (Res.cells bw #[.slice a k c, .map (some bm)] 66)) (hj : L[j]? = some (Res.map bm vI S m)) (hij : i ≠ j)
    (h : R (S (91 :: 93 :: l[r].name)) (L.set j (Res.map bm vI S (upd (upd m r l[r].name) q (91 :: 93 :: l[r].name)))) F) : ACalls Tryd.prog W0 33 #[.pointer (some ⟨bw, 0, none⟩), .int .i64 (q : Int)] L F R := by
  have hml : 1000000 ≤ maxLen := by decide
  have hle : ([91, 93] ++ l[r].name).length = (91 :: 93 :: l[r].name).length := rfl
  have hsh : cutT (91 :: 93 :: l[r].name) = 91 :: 93 :: l[r].name := cutT_short (by simp only [List.length_cons]; omega)
  refine ACalls.body Tryd.func33 rfl Tryd.ntmps33 rfl ?_
  refine AC.seq (AC.region (AL.go (AO.assign rfl rfl (AL.nil (AK.seqN (AC.seq ?_))))))
  refine AC.seq (AC.region (AL.go (AO.move rfl rfl ?_)))
  refine AL.go (AO.nilCheckP rfl rfl ?_)
  refine AL.go (AO.field rfl rfl ?_)
  refine AL.go (AO.loadB (cs := [.slice a k c, .map (some bm)]) rfl rfl ?_ (hi := hi) (hv := rfl))
  refine AL.go (AO.move rfl rfl ?_)
  refine AL.go (AO.lookupOk (kenc := vI) (venc := S) (m := m) (i := j) (q : Int) rfl rfl rfl hj (fun y hy => absurd hy (by rw [hm]; simp)) (fun _ => ?_))
  refine AL.go (AO.move rfl rfl (AL.go (AO.extract rfl rfl rfl ?_)))
  refine AL.go (AO.extract rfl rfl rfl ?_)
  refine AL.go (AO.assign rfl rfl (AL.go (AO.assign rfl rfl (AL.nil (AK.seqN (AC.seq (AC.region ?_)))))))
  refine AL.go (AO.move rfl rfl (AL.nil (AK.seqN (AC.condF rfl (AC.skip (AK.seqN ?_))))))
  refine AC.seq (AC.region (AL.go (AO.move rfl rfl ?_)))
  refine AL.go (AO.nilCheckP rfl rfl ?_)
  refine AL.go (AO.field rfl rfl ?_)
  refine AL.go (AO.loadB (cs := [.slice a k c, .map (some bm)]) rfl rfl ?_ (hi := hi) (hv := rfl))
  refine AL.go (AO.move rfl rfl ?_)
  refine AL.go (AO.indexAddr rfl rfl rfl rfl (by repeat (first | exact mem0 | assumption | refine memS ?_)) hq (fun _ _ => ?_))
  refine AL.go (AO.loadFA rfl rfl ?_)
  intro a29 k29 z29 d29 e29 f29
  refine AL.go (AO.alloc rfl (fun b7 => ?_))
  refine AL.go (AO.storeBA rfl rfl rfl rfl ?_)
  refine AL.nil (AK.seqN (AC.seq (AC.region (AL.go (AO.assign rfl rfl (AL.nil ?_))))))
  refine AK.seqN (AC.seq (AC.seq (AC.region (AL.go (AO.field rfl rfl ?_)))))
  refine AL.go (AO.loadB rfl rfl ?_)
  refine AL.nil (AK.seqN (AC.block (AC.seq (AC.region ?_))))
  refine AL.go (AO.eql rfl rfl rfl (fun c33 => absurd c33 (by omega)) (fun c33 => ?_))
  refine AL.go (AO.assign rfl rfl (AL.nil (AK.seqN (AC.condF rfl (AC.seq (AC.region ?_))))))
  refine AL.go (AO.eql rfl rfl rfl (fun c37 => absurd c37 (by omega)) (fun c37 => ?_))
  refine AL.go (AO.assign rfl rfl (AL.nil (AK.seqN (AC.condF rfl (AC.seq (AC.region ?_))))))
  refine AL.go (AO.eql rfl rfl rfl (fun c46 => ?_) (fun c46 => absurd hk c46))
  refine AL.go (AO.assign rfl rfl (AL.nil (AK.seqN (AC.condT rfl (AC.region (AL.go (AO.move rfl rfl ?_)))))))
  refine AL.go (AO.field rfl rfl ?_)
  refine AL.go (AO.loadB rfl rfl ?_)
  have hk0 : 0 < l[q].kids.length := by simp [hkid]
  have hkr : l[q].kids[0] = (r : Int) := by simp only [hkid, List.getElem_cons_zero]
  refine AL.go (AO.indexAddr (k := 0) rfl rfl rfl rfl (show fK l[q] _ _ _ ∈ _ from (by repeat (first | exact mem0 | assumption | refine memS ?_))) hk0 (fun _ _ => ?_))
  refine AL.go (AO.loadF rfl rfl ?_)
  rw [hkr]
  refine AL.go (AO.call rfl rfl (text0_c l m r hr hrk hn hmr (i := i + 1) (j := j + 1) (by repeat (first | exact mem0 | assumption | refine memS ?_)) hi hj (by omega) ?_))
  have hjj := has_lt hj
  have hi2 : (L.set j (Res.map bm vI S (upd m r l[r].name)))[i]? = some (Res.cells bw #[.slice a k c, .map (some bm)] 66) := (List.getElem?_set_ne (Ne.symm hij)).trans hi
  simp only [List.set_cons_zero, List.set_cons_succ]
  refine AL.go (AO.addS rfl rfl rfl (by first | omega | (simp; omega)) (AL.go (AO.assign rfl rfl (AL.nil (AK.blkN (AK.seqN (AC.seq ?_)))))))
  refine AC.draw (fun i => Nat.beq i 10) [(bw, _, _)] (by repeat (first | exact BxIn.nil | refine BxIn.cons (by repeat (first | exact has0 | assumption | apply hasS)) ?_)) rfl (fun hx hX => ?_)
  refine AH.takeW (i := 0) rfl (Y.move rfl) (by kernel_rfl) rfl rfl ?_
  refine AH.takeW (i := 1) rfl (Y.nilCheckP rfl) (by kernel_rfl) rfl rfl ?_
  refine AH.takeW (i := 2) rfl (Y.field rfl) (by kernel_rfl) rfl rfl ?_
  refine AH.takeS (i := 3) rfl (Y.loadB rfl (by repeat (first | exact List.Mem.head _ | refine List.Mem.tail _ ?_)) (by rfl)) (by kernel_rfl) (by kernel_rfl) rfl rfl rfl ?_
  refine AH.takeW (i := 4) rfl (Y.move rfl) (by kernel_rfl) rfl rfl ?_
  refine AH.takeW (i := 5) rfl (Y.move rfl) (by kernel_rfl) rfl rfl ?_
  refine AH.takeW (i := 6) rfl (Y.move rfl) (by kernel_rfl) rfl rfl ?_
  refine AH.takeW (i := 7) rfl (Y.lenS rfl) (by kernel_rfl) rfl rfl ?_
  refine AH.takeW (i := 8) rfl (Y.min rfl rfl) (by kernel_rfl) rfl rfl ?_
  refine AH.takeW (i := 9) rfl (Y.sliceSH (a := 91 :: 93 :: l[r].name) (j' := min (91 :: 93 :: l[r].name).length 4001) rfl rfl (by omega) (by omega)) (by kernel_rfl) rfl rfl ?_
  refine AH.one (i := 10) (by kernel_rfl) rfl rfl (fun _ => ?_)
  refine AO.mapUpdate (kenc := vI) (venc := S) (m := upd m r l[r].name) (i := j + 1) (q : Int) (cutT (91 :: 93 :: l[r].name)) rfl rfl rfl (List.getElem?_set_self hjj) ?_
  refine AT.spoilt rfl ?_
  refine AH.done (by kernel_rfl) ?_
  refine AK.seqN (AC.seq (AC.region (AL.go (AO.move rfl rfl ?_))))
  refine AL.go (AO.nilCheckP rfl rfl ?_)
  refine AL.go (AO.field rfl rfl ?_)
  refine AL.go (AO.loadB (cs := [.slice a k c, .map (some bm)]) rfl rfl ?_ (i := i + 1) (hi := by simp only [List.set_cons_succ, List.getElem?_cons_succ, List.set_set]; exact (List.getElem?_set_ne (Ne.symm hij)).trans hi) (hv := rfl))
  refine AL.go (AO.move rfl rfl ?_)
  refine AL.go (AO.lookup (kenc := vI) (venc := S) (m := upd (upd m r l[r].name) (q : Int) (cutT (91 :: 93 :: l[r].name))) (i := j + 1) (q : Int) rfl rfl rfl (List.getElem?_set_self (by simp; omega)) ?_)
  rw [upd_self]
  refine AL.go (AO.assign rfl rfl (AL.nil (AK.seqN (AC.ret ?_))))
  rw [hsh]
  simp only [List.set_cons_succ, List.set_set]
  exact AK.ret (L' := L.set j (Res.map bm vI S (upd (upd m r l[r].name) q (91 :: 93 :: l[r].name)))) (F' := F) Tryd.results33 rfl (by repeat (first | exact Sub.refl _ _ | refine Sub.trans Sub.drop ?_ | refine Sub.trans Sub.dropF ?_)) h
end
end Go.Sy
