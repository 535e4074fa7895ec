/- The builders of texts of Go's library: WriteString and String, told with the block that each writes. -/
import Derived.Test.YthbngbiodamndaaDoorFacts
import Derived.Test.YthbngbiodamndaaDoorFwP
namespace Go.Sy
open Go Go.Proofs

attribute [local irreducible] AC AT AO AK AH ACalls Sub Res.cells Res.obj Res.nix Res.own Exit.then Exit.inBlock bodyPost Code.wp Next Post Kont
section
variable {W0 : World} {L : List Res} {F : List Fact} {R : Value → List Res → List Fact → Prop}
set_option maxRecDepth 100000
set_option maxHeartbeats 4000000
theorem bcheck0_c {b i : Nat} {v : Value} (hi : L[i]? = some (Res.cells b #[.pointer none, v] 79)) (h : R (.tuple #[]) (L.set i (Res.cells b #[.pointer (some ⟨b, 0, none⟩), v] 79)) F) :
    ACalls Tryd.prog W0 61 #[.pointer (some ⟨b, 0, none⟩)] L F R := by
  refine ACalls.body Tryd.func61 rfl Tryd.ntmps61 rfl ?_
  refine AC.seq (AC.region (AL.go (AO.move rfl rfl ?_)))
  refine AL.go (AO.nilCheckP rfl rfl ?_)
  refine AL.go (AO.field rfl rfl ?_)
  refine AL.go (AO.loadB (cs := [.pointer none, v]) rfl rfl ?_ (hi := hi) (hv := rfl))
  refine AL.go (AO.eqlP Tryd.underlying76 rfl rfl rfl ?_)
  refine AL.nil (AK.seqN (AC.condT rfl (AC.region (AL.go (AO.move rfl rfl (AL.go (AO.move rfl rfl ?_)))))))
  refine AL.go (AO.toUnsafe (m := 2) Tryd.underlying76 Tryd.underlying108 (by kernel_rfl) rfl hi (Nat.zero_lt_succ 1) rfl rfl ?_)
  refine AL.go (AO.noEscape Tryd.func74 (by kernel_rfl) (by kernel_rfl) (by kernel_rfl) (by kernel_rfl) rfl rfl ?_)
  refine AL.go (AO.fromUnsafe Tryd.underlying108 Tryd.underlying76 (by kernel_rfl) hi (by kernel_rfl) rfl rfl ?_)
  refine AL.go (AO.nilCheckP rfl rfl ?_)
  refine AL.go (AO.field rfl rfl ?_)
  refine AL.go (AO.storeB (i := i) (cs := [.pointer none, v]) rfl rfl rfl ?_ (hi := hi) (ho := rfl))
  refine AL.nil ?_
  exact AK.end0 Tryd.results61 (Sub.refl _ _) h
theorem bcheck1_c {b i : Nat} {v : Value} (hi : L[i]? = some (Res.cells b #[.pointer (some ⟨b, 0, none⟩), v] 79)) (h : R (.tuple #[]) L F) :
    ACalls Tryd.prog W0 61 #[.pointer (some ⟨b, 0, none⟩)] L F R := by
  refine ACalls.body Tryd.func61 rfl Tryd.ntmps61 rfl ?_
  refine AC.seq (AC.region (AL.go (AO.move rfl rfl ?_)))
  refine AL.go (AO.nilCheckP rfl rfl ?_)
  refine AL.go (AO.field rfl rfl ?_)
  refine AL.go (AO.loadB (cs := [.pointer (some ⟨b, 0, none⟩), v]) rfl rfl ?_ (hi := hi) (hv := rfl))
  refine AL.go (AO.eqlP Tryd.underlying76 rfl rfl rfl ?_)
  refine AL.nil (AK.seqN (AC.condF rfl (AC.seq (AC.region (AL.go (AO.move rfl rfl ?_))))))
  refine AL.go (AO.nilCheckP rfl rfl ?_)
  refine AL.go (AO.field rfl rfl ?_)
  refine AL.go (AO.loadB (cs := [.pointer (some ⟨b, 0, none⟩), v]) rfl rfl ?_ (hi := hi) (hv := rfl))
  refine AL.go (AO.move rfl rfl ?_)
  refine AL.go (AO.neqPs Tryd.underlying76 (by kernel_rfl) rfl rfl rfl ?_)
  refine AL.nil (AK.seqN (AC.condF rfl (AC.skip ?_)))
  exact AK.end0 Tryd.results61 (Sub.refl _ _) h
theorem set3 {α : Type} {l : List α} {i j : Nat} {a o c : α} (hij : i ≠ j) : (((l.set i a).set j o).set i c) = (l.set j o).set i c := by
  rw [List.set_comm a o hij, List.set_set]
theorem wstr0_c {b i j : Nat} {v : Value} {lst s : List UInt8} (hij : i ≠ j) (hi : L[i]? = some (Res.cells b #[.pointer none, v] 79)) (hj : L[j]? = some (Res.own v 5 1 (lst.map eB))) (hlen : lst.length + s.length ≤ 100000000)
    (h : ∀ a k c, (Value.slice a k c = .slice none 0 0 ↔ v = .slice none 0 0 ∧ s = []) → R (.tuple #[.int .i64 s.length, .nilIface]) ((L.set j (Res.own (.slice a k c) 5 1 ((lst ++ s).map eB))).set i (Res.cells b #[.pointer (some ⟨b, 0, none⟩), .slice a k c] 79)) F) :
    ACalls Tryd.prog W0 40 #[.pointer (some ⟨b, 0, none⟩), S s] L F R := by
  have hml : 1000000000 ≤ maxLen := by decide
  have hi1 : (L.set i (Res.cells b #[.pointer (some ⟨b, 0, none⟩), v] 79))[i]? = some (Res.cells b #[.pointer (some ⟨b, 0, none⟩), v] 79) := by simp [has_lt hi]
  have hj1 : (L.set i (Res.cells b #[.pointer (some ⟨b, 0, none⟩), v] 79))[j]? = some (Res.own v 5 1 (lst.map eB)) := by rw [List.getElem?_set_ne hij]; exact hj
  refine ACalls.body Tryd.func40 rfl Tryd.ntmps40 rfl ?_
  refine AC.seq (AC.region (AL.go (AO.assign rfl rfl (AL.go (AO.assign rfl rfl (AL.nil (AK.seqN ?_)))))))
  refine AC.seq (AC.region (AL.go (AO.move rfl rfl ?_)))
  refine AL.go (AO.call rfl rfl (bcheck0_c hi ?_))
  refine AL.nil (AK.seqN (AC.seq (AC.region (AL.go (AO.move rfl rfl (AL.go (AO.move rfl rfl ?_)))))))
  refine AL.go (AO.nilCheckP rfl rfl ?_)
  refine AL.go (AO.field rfl rfl ?_)
  refine AL.go (AO.loadB (cs := [.pointer (some ⟨b, 0, none⟩), v]) rfl rfl ?_ (hi := hi1) (hv := rfl))
  refine AL.go (AO.move rfl rfl ?_)
  refine AL.go (AO.appendS (i := j) rfl rfl rfl hj1 (by omega) (by omega) (fun a14 k14 z14 n14 => ?_))
  refine AL.go (AO.nilCheckP rfl rfl ?_)
  refine AL.go (AO.field rfl rfl ?_)
  have hi2 : ((L.set i (Res.cells b #[.pointer (some ⟨b, 0, none⟩), v] 79)).set j (Res.own (.slice a14 k14 z14) 5 1 ((lst ++ s).map eB)))[i]? = some (Res.cells b #[.pointer (some ⟨b, 0, none⟩), v] 79) := by rw [List.getElem?_set_ne hij.symm]; exact hi1
  refine AL.go (AO.storeB (i := i) (cs := [.pointer (some ⟨b, 0, none⟩), v]) rfl rfl rfl ?_ (hi := hi2) (ho := rfl))
  refine AL.nil (AK.seqN (AC.seq (AC.region (AL.go (AO.move rfl rfl (AL.go (AO.lenS rfl rfl ?_)))))))
  refine AL.go (AO.assign rfl rfl (AL.go (AO.assign rfl rfl (AL.nil (AK.seqN (AC.ret ?_))))))
  refine AK.ret2 (F' := F) Tryd.results40 rfl rfl (Sub.ofEq ?_) (h a14 k14 z14 n14)
  exact set3 hij
theorem wstr1_c {b i j : Nat} {v : Value} {lst s : List UInt8} (hij : i ≠ j) (hi : L[i]? = some (Res.cells b #[.pointer (some ⟨b, 0, none⟩), v] 79)) (hj : L[j]? = some (Res.own v 5 1 (lst.map eB))) (hlen : lst.length + s.length ≤ 100000000)
    (h : ∀ a k c, (Value.slice a k c = .slice none 0 0 ↔ v = .slice none 0 0 ∧ s = []) → R (.tuple #[.int .i64 s.length, .nilIface]) ((L.set j (Res.own (.slice a k c) 5 1 ((lst ++ s).map eB))).set i (Res.cells b #[.pointer (some ⟨b, 0, none⟩), .slice a k c] 79)) F) :
    ACalls Tryd.prog W0 40 #[.pointer (some ⟨b, 0, none⟩), S s] L F R := by
  have hml : 1000000000 ≤ maxLen := by decide
  have hi1 : (L)[i]? = some (Res.cells b #[.pointer (some ⟨b, 0, none⟩), v] 79) := by exact hi
  have hj1 : (L)[j]? = some (Res.own v 5 1 (lst.map eB)) := by exact hj
  refine ACalls.body Tryd.func40 rfl Tryd.ntmps40 rfl ?_
  refine AC.seq (AC.region (AL.go (AO.assign rfl rfl (AL.go (AO.assign rfl rfl (AL.nil (AK.seqN ?_)))))))
  refine AC.seq (AC.region (AL.go (AO.move rfl rfl ?_)))
  refine AL.go (AO.call rfl rfl (bcheck1_c hi ?_))
  refine AL.nil (AK.seqN (AC.seq (AC.region (AL.go (AO.move rfl rfl (AL.go (AO.move rfl rfl ?_)))))))
  refine AL.go (AO.nilCheckP rfl rfl ?_)
  refine AL.go (AO.field rfl rfl ?_)
  refine AL.go (AO.loadB (cs := [.pointer (some ⟨b, 0, none⟩), v]) rfl rfl ?_ (hi := hi1) (hv := rfl))
  refine AL.go (AO.move rfl rfl ?_)
  refine AL.go (AO.appendS (i := j) rfl rfl rfl hj1 (by omega) (by omega) (fun a14 k14 z14 n14 => ?_))
  refine AL.go (AO.nilCheckP rfl rfl ?_)
  refine AL.go (AO.field rfl rfl ?_)
  have hi2 : ((L).set j (Res.own (.slice a14 k14 z14) 5 1 ((lst ++ s).map eB)))[i]? = some (Res.cells b #[.pointer (some ⟨b, 0, none⟩), v] 79) := by rw [List.getElem?_set_ne hij.symm]; exact hi1
  refine AL.go (AO.storeB (i := i) (cs := [.pointer (some ⟨b, 0, none⟩), v]) rfl rfl rfl ?_ (hi := hi2) (ho := rfl))
  refine AL.nil (AK.seqN (AC.seq (AC.region (AL.go (AO.move rfl rfl (AL.go (AO.lenS rfl rfl ?_)))))))
  refine AL.go (AO.assign rfl rfl (AL.go (AO.assign rfl rfl (AL.nil (AK.seqN (AC.ret ?_))))))
  refine AK.ret2 (F' := F) Tryd.results40 rfl rfl (Sub.ofEq ?_) (h a14 k14 z14 n14)
  rfl
/-- WriteString, of a builder that was written or not. -/
theorem wstr_c {b i j : Nat} {p : Option Addr} {v : Value} {lst s : List UInt8} (hp : p = none ∨ p = some ⟨b, 0, none⟩) (hij : i ≠ j) (hi : L[i]? = some (Res.cells b #[.pointer p, v] 79)) (hj : L[j]? = some (Res.own v 5 1 (lst.map eB))) (hlen : lst.length + s.length ≤ 100000000)
    (h : ∀ a k c, (Value.slice a k c = .slice none 0 0 ↔ v = .slice none 0 0 ∧ s = []) → R (.tuple #[.int .i64 s.length, .nilIface]) ((L.set j (Res.own (.slice a k c) 5 1 ((lst ++ s).map eB))).set i (Res.cells b #[.pointer (some ⟨b, 0, none⟩), .slice a k c] 79)) F) :
    ACalls Tryd.prog W0 40 #[.pointer (some ⟨b, 0, none⟩), S s] L F R := by
  rcases hp with rfl | rfl
  · exact wstr0_c hij hi hj hlen h
  · exact wstr1_c hij hi hj hlen h
theorem bstr0_c {b i : Nat} {p : Option Addr} (hi : L[i]? = some (Res.cells b #[.pointer p, .slice none 0 0] 79)) (h : R (S []) L F) :
    ACalls Tryd.prog W0 42 #[.pointer (some ⟨b, 0, none⟩)] L F R := by
  refine ACalls.body Tryd.func42 rfl Tryd.ntmps42 rfl ?_
  refine AC.seq (AC.region (AL.go (AO.assign rfl rfl (AL.nil (AK.seqN (AC.seq ?_))))))
  refine AC.draw (fun _ => false) [(b, [.pointer p, .slice none 0 0], 79)] (.cons hi .nil) rfl (fun hx hX => ?_)
  refine AH.takeW (i := 0) rfl (Y.move rfl) (by kernel_rfl) rfl rfl ?_
  refine AH.takeW (i := 1) rfl (Y.nilCheckP rfl) (by kernel_rfl) rfl rfl ?_
  refine AH.takeW (i := 2) rfl (Y.field rfl) (by kernel_rfl) rfl rfl ?_
  refine AH.takeS (i := 3) rfl (Y.loadB rfl (.head _) (by rfl)) (by kernel_rfl) (by kernel_rfl) rfl rfl rfl ?_
  refine AH.takeW (i := 5) rfl (Y.move rfl) (by kernel_rfl) rfl rfl ?_
  refine AH.takeW (i := 6) rfl (Y.nilCheckP rfl) (by kernel_rfl) rfl rfl ?_
  refine AH.takeW (i := 7) rfl (Y.field rfl) (by kernel_rfl) rfl rfl ?_
  refine AH.takeS (i := 8) rfl (Y.loadB rfl (.head _) (by rfl)) (by kernel_rfl) (by kernel_rfl) rfl rfl rfl ?_
  refine AH.takeW (i := 9) rfl (Y.lenV rfl) (by kernel_rfl) rfl rfl ?_
  refine AH.one (i := 4) (by kernel_rfl) rfl rfl (fun _ => ?_)
  refine AO.sliceData0 rfl rfl ?_
  refine AT.held (.cons hi .nil) mem0 ?_
  refine AH.one (i := 10) (by kernel_rfl) rfl rfl (fun _ => ?_)
  refine AO.unsafeStr0 rfl rfl rfl ?_
  refine AT.held (.cons hi .nil) mem0 ?_
  refine AH.takeW (i := 11) rfl (Y.assign rfl) (by kernel_rfl) rfl rfl ?_
  refine AH.done (by kernel_rfl) ?_
  refine AK.seqN (AC.ret ?_)
  exact AK.ret (L' := L) (F' := F) Tryd.results42 rfl (by repeat (first | exact Sub.refl _ _ | refine Sub.trans Sub.dropF ?_)) h
theorem bstr1_c {b i j g k : Nat} {p : Option Addr} {lst : List UInt8} (hij : i ≠ j) (hk : k ≠ 0) (hne : lst ≠ []) (hi : L[i]? = some (Res.cells b #[.pointer p, .slice (some ⟨g, 0, none⟩) lst.length k] 79)) (hj : L[j]? = some (Res.own (.slice (some ⟨g, 0, none⟩) lst.length k) 5 1 (lst.map eB)))
    (h : R (S lst) (L.set j Res.nix) F) : ACalls Tryd.prog W0 42 #[.pointer (some ⟨b, 0, none⟩)] L F R := by
  have hi2 : (L.set j Res.nix)[i]? = some (Res.cells b #[.pointer p, .slice (some ⟨g, 0, none⟩) lst.length k] 79) := by rw [List.getElem?_set_ne hij.symm]; exact hi
  refine ACalls.body Tryd.func42 rfl Tryd.ntmps42 rfl ?_
  refine AC.seq (AC.region (AL.go (AO.assign rfl rfl (AL.nil (AK.seqN (AC.seq ?_))))))
  refine AC.draw (fun _ => false) [(b, [.pointer p, .slice (some ⟨g, 0, none⟩) lst.length k], 79)] (.cons hi .nil) rfl (fun hx hX => ?_)
  refine AH.takeW (i := 0) rfl (Y.move rfl) (by kernel_rfl) rfl rfl ?_
  refine AH.takeW (i := 1) rfl (Y.nilCheckP rfl) (by kernel_rfl) rfl rfl ?_
  refine AH.takeW (i := 2) rfl (Y.field rfl) (by kernel_rfl) rfl rfl ?_
  refine AH.takeS (i := 3) rfl (Y.loadB rfl (.head _) (by rfl)) (by kernel_rfl) (by kernel_rfl) rfl rfl rfl ?_
  refine AH.takeW (i := 5) rfl (Y.move rfl) (by kernel_rfl) rfl rfl ?_
  refine AH.takeW (i := 6) rfl (Y.nilCheckP rfl) (by kernel_rfl) rfl rfl ?_
  refine AH.takeW (i := 7) rfl (Y.field rfl) (by kernel_rfl) rfl rfl ?_
  refine AH.takeS (i := 8) rfl (Y.loadB rfl (.head _) (by rfl)) (by kernel_rfl) (by kernel_rfl) rfl rfl rfl ?_
  refine AH.takeW (i := 9) rfl (Y.lenV rfl) (by kernel_rfl) rfl rfl ?_
  refine AH.one (i := 4) (by kernel_rfl) rfl rfl (fun _ => ?_)
  refine AO.sliceData1 rfl hk rfl ?_
  refine AT.held (.cons hi .nil) mem0 ?_
  refine AH.one (i := 10) (by kernel_rfl) rfl rfl (fun _ => ?_)
  refine AO.unsafeStr1 Tryd.underlying98 (by kernel_rfl) rfl rfl rfl hj hne ?_
  refine AT.held (.cons hi2 .nil) mem0 ?_
  refine AH.takeW (i := 11) rfl (Y.assign rfl) (by kernel_rfl) rfl rfl ?_
  refine AH.done (by kernel_rfl) ?_
  refine AK.seqN (AC.ret ?_)
  exact AK.ret (L' := L.set j Res.nix) (F' := F) Tryd.results42 rfl (by repeat (first | exact Sub.refl _ _ | refine Sub.trans Sub.dropF ?_)) h
/-- String: the bytes so far; the builder's own row is given away. -/
theorem bstr_c {b i j : Nat} {p : Option Addr} {v : Value} {lst : List UInt8} (hij : i ≠ j) (hi : L[i]? = some (Res.cells b #[.pointer p, v] 79)) (hj : L[j]? = some (Res.own v 5 1 (lst.map eB))) (hn : lst = [] → v = .slice none 0 0)
    (h : R (S lst) (L.set j Res.nix) F) : ACalls Tryd.prog W0 42 #[.pointer (some ⟨b, 0, none⟩)] L F R := by
  by_cases hne : lst = []
  · have hv := hn hne
    subst hne hv
    exact ACalls.weak (Sub.dropAt hj) (bstr0_c (L := L.set j Res.nix) (by rw [List.getElem?_set_ne hij.symm]; exact hi) h)
  · refine ACalls.ownForm hj hne (fun g c hv hc => ?_)
    subst hv
    exact bstr1_c hij hc hne hi hj h
end
end Go.Sy
