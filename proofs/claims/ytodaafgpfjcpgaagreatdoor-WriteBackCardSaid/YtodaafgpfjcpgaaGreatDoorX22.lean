/- Joined of my own texts: WrG, WrH, WrI, WrK, WrJ, ParM, ParB, BkA, BkB, BkV, BkC, BkD, BkE, BkF, BkG, BkH. -/
import Derived.Test.YtodaafgpfjcpgaaGreatDoorX21
import Derived.KernelRfl
namespace Go.Sy
open Go Go.Proofs Go.RowKit
noncomputable abbrev tabW : Int → Option Nat := (upd (upd (upd (upd (upd (upd (upd (upd (upd (upd (upd (upd (upd (upd (upd (upd (upd (upd (upd (upd (upd (upd (upd (upd (upd (upd (upd (upd (upd (upd (upd (upd (upd (fun _ => none) 0 36) 1 37) 2 37) 3 37) 4 37) 5 37) 6 38) 7 39) 8 40) 9 41) 10 42) 11 43) 12 44) 13 45) 14 46) 15 47) 16 48) 17 49) 18 50) 19 50) 20 51) 21 52) 22 41) 23 53) 24 54) 25 55) 26 56) 27 50) 28 57) 29 50) 30 58) 31 59) 32 60)
attribute [local irreducible] AC AT AO AK AH ACalls ACallsX ACallsD Sub Res.cells Res.obj Res.nix Res.own Res.map Exit.then Exit.inBlock Exit.noGoto bodyPost bodyPostD Code.wp Code.wpIn WL Next Post PostX Kont
section
variable {W0 : World} {L : List Res} {F : List Fact} {R : Value → List Res → List Fact → Prop}
set_option maxRecDepth 100000
set_option maxHeartbeats 4000000
def WrC (W0 : World) (l : List Nod) (T : Nat → Bs) (n : Nod) (f : Nat) : Prop :=
  ∀ {L : List Res} {F : List Fact} {R : Value → List Res → List Fact → Prop} {a a1 : Option Addr} {k c k1 c1 : Nat}, fNod l a k c ∈ F → fKs n a1 k1 c1 ∈ F → R (S (nodeB l T n)) L F → ACalls Tryz.prog W0 f #[vW a k c, vNod n a1 k1 c1] L F R
theorem disp0 (l : List Nod) (T : Nat → Bs) {i : Nat} (_ : RightN l) (_ : i ≤ l.length) (_ : TxC W0 l T i) (n : Nod) (hk : n.kind = 0) (_ : ∀ x ∈ n.kids, 0 ≤ x ∧ x < (i : Int)) (_ : n.kids.length ≤ 4000) (_ : kidsOk n.kind n.kids.length = true) (_ : n.text.length ≤ 1000000) (_ : (nodeB l T n).length ≤ 100000000) : WrC W0 l T n 36 := by
  intro L F R a a1 k c k1 c1 mL mK h
  have e : nodeB l T n = [] := by unfold nodeB; rw [hk]; rfl
  rw [e] at h
  exact wnothing_c n h
theorem disp1 (l : List Nod) (T : Nat → Bs) {i : Nat} (_ : RightN l) (_ : i ≤ l.length) (_ : TxC W0 l T i) (n : Nod) (hk : n.kind = 1) (_ : ∀ x ∈ n.kids, 0 ≤ x ∧ x < (i : Int)) (_ : n.kids.length ≤ 4000) (_ : kidsOk n.kind n.kids.length = true) (_ : n.text.length ≤ 1000000) (_ : (nodeB l T n).length ≤ 100000000) : WrC W0 l T n 37 := by
  intro L F R a a1 k c k1 c1 mL mK h
  have e : nodeB l T n = n.text := by unfold nodeB; rw [hk]; rfl
  rw [e] at h
  exact wplain_c n h
theorem disp2 (l : List Nod) (T : Nat → Bs) {i : Nat} (_ : RightN l) (_ : i ≤ l.length) (_ : TxC W0 l T i) (n : Nod) (hk : n.kind = 2) (_ : ∀ x ∈ n.kids, 0 ≤ x ∧ x < (i : Int)) (_ : n.kids.length ≤ 4000) (_ : kidsOk n.kind n.kids.length = true) (_ : n.text.length ≤ 1000000) (_ : (nodeB l T n).length ≤ 100000000) : WrC W0 l T n 37 := by
  intro L F R a a1 k c k1 c1 mL mK h
  have e : nodeB l T n = n.text := by unfold nodeB; rw [hk]; rfl
  rw [e] at h
  exact wplain_c n h
theorem disp3 (l : List Nod) (T : Nat → Bs) {i : Nat} (_ : RightN l) (_ : i ≤ l.length) (_ : TxC W0 l T i) (n : Nod) (hk : n.kind = 3) (_ : ∀ x ∈ n.kids, 0 ≤ x ∧ x < (i : Int)) (_ : n.kids.length ≤ 4000) (_ : kidsOk n.kind n.kids.length = true) (_ : n.text.length ≤ 1000000) (_ : (nodeB l T n).length ≤ 100000000) : WrC W0 l T n 37 := by
  intro L F R a a1 k c k1 c1 mL mK h
  have e : nodeB l T n = n.text := by unfold nodeB; rw [hk]; rfl
  rw [e] at h
  exact wplain_c n h
theorem disp4 (l : List Nod) (T : Nat → Bs) {i : Nat} (_ : RightN l) (_ : i ≤ l.length) (_ : TxC W0 l T i) (n : Nod) (hk : n.kind = 4) (_ : ∀ x ∈ n.kids, 0 ≤ x ∧ x < (i : Int)) (_ : n.kids.length ≤ 4000) (_ : kidsOk n.kind n.kids.length = true) (_ : n.text.length ≤ 1000000) (_ : (nodeB l T n).length ≤ 100000000) : WrC W0 l T n 37 := by
  intro L F R a a1 k c k1 c1 mL mK h
  have e : nodeB l T n = n.text := by unfold nodeB; rw [hk]; rfl
  rw [e] at h
  exact wplain_c n h
theorem disp5 (l : List Nod) (T : Nat → Bs) {i : Nat} (_ : RightN l) (_ : i ≤ l.length) (_ : TxC W0 l T i) (n : Nod) (hk : n.kind = 5) (_ : ∀ x ∈ n.kids, 0 ≤ x ∧ x < (i : Int)) (_ : n.kids.length ≤ 4000) (_ : kidsOk n.kind n.kids.length = true) (_ : n.text.length ≤ 1000000) (_ : (nodeB l T n).length ≤ 100000000) : WrC W0 l T n 37 := by
  intro L F R a a1 k c k1 c1 mL mK h
  have e : nodeB l T n = n.text := by unfold nodeB; rw [hk]; rfl
  rw [e] at h
  exact wplain_c n h
theorem disp6 (l : List Nod) (T : Nat → Bs) {i : Nat} (hr : RightN l) (hi : i ≤ l.length) (ih : TxC W0 l T i) (n : Nod) (hk : n.kind = 6) (hks : ∀ x ∈ n.kids, 0 ≤ x ∧ x < (i : Int)) (_ : n.kids.length ≤ 4000) (hko : kidsOk n.kind n.kids.length = true) (_ : n.text.length ≤ 1000000) (hlen : (nodeB l T n).length ≤ 100000000) : WrC W0 l T n 38 := by
  intro L F R a a1 k c k1 c1 mL mK h
  have e : nodeB l T n = (if kindAt l (kid n 0) = 2 ∨ kindAt l (kid n 0) = 3 then tx T (kid n 0) ++ [32] else tx T (kid n 0)) ++ [46] ++ n.text := by unfold nodeB; rw [hk]; rfl
  rw [e] at h hlen
  rw [hk] at hko
  have k1 : n.kids.length = 1 := by
    have q := hko
    simp [kidsOk] at q
    omega
  have hb : ∀ j, j < n.kids.length → 0 ≤ kid n j ∧ kid n j < (i : Int) := fun j hj => hks _ (Hu hj)
  exact wsel_c l T hr hi ih n k1 (hb 0 HS) mL mK hlen h
theorem disp7 (l : List Nod) (T : Nat → Bs) {i : Nat} (hr : RightN l) (hi : i ≤ l.length) (ih : TxC W0 l T i) (n : Nod) (hk : n.kind = 7) (hks : ∀ x ∈ n.kids, 0 ≤ x ∧ x < (i : Int)) (hfew : n.kids.length ≤ 4000) (hko : kidsOk n.kind n.kids.length = true) (_ : n.text.length ≤ 1000000) (hlen : (nodeB l T n).length ≤ 100000000) : WrC W0 l T n 39 := by
  intro L F R a a1 k c k1 c1 mL mK h
  have e : nodeB l T n = tx T (kid n 0) ++ [40] ++ allB T (n.kids.drop 1) [44, 32] ++ [41] := by unfold nodeB; rw [hk]; rfl
  rw [e] at h hlen
  rw [hk] at hko
  have k1 : 0 < n.kids.length := by
    have q := hko
    simp [kidsOk, Nat.ble_eq] at q
    omega
  have hb : ∀ j, j < n.kids.length → 0 ≤ kid n j ∧ kid n j < (i : Int) := fun j hj => hks _ (Hu hj)
  exact wcall_c l T hr hi ih n k1 hks hfew mL mK hlen h
theorem disp8 (l : List Nod) (T : Nat → Bs) {i : Nat} (hr : RightN l) (hi : i ≤ l.length) (ih : TxC W0 l T i) (n : Nod) (hk : n.kind = 8) (hks : ∀ x ∈ n.kids, 0 ≤ x ∧ x < (i : Int)) (hfew : n.kids.length ≤ 4000) (hko : kidsOk n.kind n.kids.length = true) (_ : n.text.length ≤ 1000000) (hlen : (nodeB l T n).length ≤ 100000000) : WrC W0 l T n 40 := by
  intro L F R a a1 k c k1 c1 mL mK h
  have e : nodeB l T n = tx T (kid n 0) ++ [91] ++ allB T (n.kids.drop 1) [44, 32] ++ [93] := by unfold nodeB; rw [hk]; rfl
  rw [e] at h hlen
  rw [hk] at hko
  have k1 : 2 ≤ n.kids.length := by
    have q := hko
    simp [kidsOk, Nat.ble_eq] at q
    omega
  have hb : ∀ j, j < n.kids.length → 0 ≤ kid n j ∧ kid n j < (i : Int) := fun j hj => hks _ (Hu hj)
  exact windex_c l T hr hi ih n HS hks hfew mL mK hlen h
theorem disp9 (l : List Nod) (T : Nat → Bs) {i : Nat} (_ : RightN l) (_ : i ≤ l.length) (ih : TxC W0 l T i) (n : Nod) (hk : n.kind = 9) (hks : ∀ x ∈ n.kids, 0 ≤ x ∧ x < (i : Int)) (_ : n.kids.length ≤ 4000) (hko : kidsOk n.kind n.kids.length = true) (_ : n.text.length ≤ 1000000) (hlen : (nodeB l T n).length ≤ 100000000) : WrC W0 l T n 41 := by
  intro L F R a a1 k c k1 c1 mL mK h
  have e : nodeB l T n = n.text ++ tx T (kid n 0) := by unfold nodeB; rw [hk]; rfl
  rw [e] at h hlen
  rw [hk] at hko
  have k1 : n.kids.length = 1 := by
    have q := hko
    simp [kidsOk] at q
    omega
  have hb : ∀ j, j < n.kids.length → 0 ≤ kid n j ∧ kid n j < (i : Int) := fun j hj => hks _ (Hu hj)
  exact wprefix_c l T ih n HS (hb 0 HS) (by simpa using hlen) mL mK h
theorem disp10 (l : List Nod) (T : Nat → Bs) {i : Nat} (_ : RightN l) (_ : i ≤ l.length) (ih : TxC W0 l T i) (n : Nod) (hk : n.kind = 10) (hks : ∀ x ∈ n.kids, 0 ≤ x ∧ x < (i : Int)) (hfew : n.kids.length ≤ 4000) (hko : kidsOk n.kind n.kids.length = true) (htx : n.text.length ≤ 1000000) (hlen : (nodeB l T n).length ≤ 100000000) : WrC W0 l T n 42 := by
  intro L F R a a1 k c k1 c1 mL mK h
  have e : nodeB l T n = allB T n.kids ([32] ++ n.text ++ [32]) := by unfold nodeB; rw [hk]; rfl
  rw [e] at h hlen
  rw [hk] at hko
  have k1 : n.kids.length = 2 := by
    have q := hko
    simp [kidsOk] at q
    omega
  have hb : ∀ j, j < n.kids.length → 0 ≤ kid n j ∧ kid n j < (i : Int) := fun j hj => hks _ (Hu hj)
  exact wbinary_c l T ih n hks hfew htx hlen mL mK h
theorem disp11 (l : List Nod) (T : Nat → Bs) {i : Nat} (_ : RightN l) (_ : i ≤ l.length) (ih : TxC W0 l T i) (n : Nod) (hk : n.kind = 11) (hks : ∀ x ∈ n.kids, 0 ≤ x ∧ x < (i : Int)) (_ : n.kids.length ≤ 4000) (hko : kidsOk n.kind n.kids.length = true) (_ : n.text.length ≤ 1000000) (hlen : (nodeB l T n).length ≤ 100000000) : WrC W0 l T n 43 := by
  intro L F R a a1 k c k1 c1 mL mK h
  have e : nodeB l T n = [40] ++ tx T (kid n 0) ++ [41] := by unfold nodeB; rw [hk]; rfl
  rw [e] at h hlen
  rw [hk] at hko
  have k1 : n.kids.length = 1 := by
    have q := hko
    simp [kidsOk] at q
    omega
  have hb : ∀ j, j < n.kids.length → 0 ≤ kid n j ∧ kid n j < (i : Int) := fun j hj => hks _ (Hu hj)
  exact wparen_c l T ih n HS (hb 0 HS) (by simp at hlen; omega) mL mK h
theorem disp12 (l : List Nod) (T : Nat → Bs) {i : Nat} (_ : RightN l) (_ : i ≤ l.length) (ih : TxC W0 l T i) (n : Nod) (hk : n.kind = 12) (hks : ∀ x ∈ n.kids, 0 ≤ x ∧ x < (i : Int)) (_ : n.kids.length ≤ 4000) (hko : kidsOk n.kind n.kids.length = true) (_ : n.text.length ≤ 1000000) (hlen : (nodeB l T n).length ≤ 100000000) : WrC W0 l T n 44 := by
  intro L F R a a1 k c k1 c1 mL mK h
  have e : nodeB l T n = [91, 93] ++ tx T (kid n 0) := by unfold nodeB; rw [hk]; rfl
  rw [e] at h hlen
  rw [hk] at hko
  have k1 : n.kids.length = 1 := by
    have q := hko
    simp [kidsOk] at q
    omega
  have hb : ∀ j, j < n.kids.length → 0 ≤ kid n j ∧ kid n j < (i : Int) := fun j hj => hks _ (Hu hj)
  exact wslice_c l T ih n HS (hb 0 HS) (by simp at hlen; omega) mL mK h
theorem disp13 (l : List Nod) (T : Nat → Bs) {i : Nat} (_ : RightN l) (_ : i ≤ l.length) (ih : TxC W0 l T i) (n : Nod) (hk : n.kind = 13) (hks : ∀ x ∈ n.kids, 0 ≤ x ∧ x < (i : Int)) (_ : n.kids.length ≤ 4000) (hko : kidsOk n.kind n.kids.length = true) (_ : n.text.length ≤ 1000000) (hlen : (nodeB l T n).length ≤ 100000000) : WrC W0 l T n 45 := by
  intro L F R a a1 k c k1 c1 mL mK h
  have e : nodeB l T n = [91] ++ tx T (kid n 0) ++ [93] ++ tx T (kid n 1) := by unfold nodeB; rw [hk]; rfl
  rw [e] at h hlen
  rw [hk] at hko
  have k1 : n.kids.length = 2 := by
    have q := hko
    simp [kidsOk] at q
    omega
  have hb : ∀ j, j < n.kids.length → 0 ≤ kid n j ∧ kid n j < (i : Int) := fun j hj => hks _ (Hu hj)
  exact warray_c l T ih n k1 (fun j hj => hb j HS) (by simp at hlen; omega) mL mK h
theorem disp14 (l : List Nod) (T : Nat → Bs) {i : Nat} (_ : RightN l) (_ : i ≤ l.length) (ih : TxC W0 l T i) (n : Nod) (hk : n.kind = 14) (hks : ∀ x ∈ n.kids, 0 ≤ x ∧ x < (i : Int)) (_ : n.kids.length ≤ 4000) (hko : kidsOk n.kind n.kids.length = true) (_ : n.text.length ≤ 1000000) (hlen : (nodeB l T n).length ≤ 100000000) : WrC W0 l T n 46 := by
  intro L F R a a1 k c k1 c1 mL mK h
  have e : nodeB l T n = [109, 97, 112, 91] ++ tx T (kid n 0) ++ [93] ++ tx T (kid n 1) := by unfold nodeB; rw [hk]; rfl
  rw [e] at h hlen
  rw [hk] at hko
  have k1 : n.kids.length = 2 := by
    have q := hko
    simp [kidsOk] at q
    omega
  have hb : ∀ j, j < n.kids.length → 0 ≤ kid n j ∧ kid n j < (i : Int) := fun j hj => hks _ (Hu hj)
  exact wtable_c l T ih n k1 (fun j hj => hb j HS) (by simp at hlen; omega) mL mK h
theorem disp15 (l : List Nod) (T : Nat → Bs) {i : Nat} (hr : RightN l) (hi : i ≤ l.length) (ih : TxC W0 l T i) (n : Nod) (hk : n.kind = 15) (hks : ∀ x ∈ n.kids, 0 ≤ x ∧ x < (i : Int)) (hfew : n.kids.length ≤ 4000) (hko : kidsOk n.kind n.kids.length = true) (_ : n.text.length ≤ 1000000) (hlen : (nodeB l T n).length ≤ 100000000) : WrC W0 l T n 47 := by
  intro L F R a a1 k c k1 c1 mL mK h
  have e : nodeB l T n = [102, 117, 110, 99] ++ bareB l T n := by unfold nodeB; rw [hk]; rfl
  rw [e] at h hlen
  rw [hk] at hko
  have k1 : 0 < n.kids.length := by
    have q := hko
    simp [kidsOk, Nat.ble_eq] at q
    omega
  have hb : ∀ j, j < n.kids.length → 0 ≤ kid n j ∧ kid n j < (i : Int) := fun j hj => hks _ (Hu hj)
  exact wfunction_c l T hr hi ih n k1 hks hfew mL mK hlen h
theorem disp16 (l : List Nod) (T : Nat → Bs) {i : Nat} (hr : RightN l) (hi : i ≤ l.length) (ih : TxC W0 l T i) (n : Nod) (hk : n.kind = 16) (hks : ∀ x ∈ n.kids, 0 ≤ x ∧ x < (i : Int)) (hfew : n.kids.length ≤ 4000) (_ : kidsOk n.kind n.kids.length = true) (_ : n.text.length ≤ 1000000) (hlen : (nodeB l T n).length ≤ 100000000) : WrC W0 l T n 48 := by
  intro L F R a a1 k c k1 c1 mL mK h
  have e : nodeB l T n = bracesB T [115, 116, 114, 117, 99, 116] n := by unfold nodeB; rw [hk]; rfl
  rw [e] at h hlen
  exact wfields_c l T hr hi ih n hks hfew mL mK hlen h
theorem disp17 (l : List Nod) (T : Nat → Bs) {i : Nat} (hr : RightN l) (hi : i ≤ l.length) (ih : TxC W0 l T i) (n : Nod) (hk : n.kind = 17) (hks : ∀ x ∈ n.kids, 0 ≤ x ∧ x < (i : Int)) (hfew : n.kids.length ≤ 4000) (_ : kidsOk n.kind n.kids.length = true) (_ : n.text.length ≤ 1000000) (hlen : (nodeB l T n).length ≤ 100000000) : WrC W0 l T n 49 := by
  intro L F R a a1 k c k1 c1 mL mK h
  have e : nodeB l T n = bracesB T [105, 110, 116, 101, 114, 102, 97, 99, 101] n := by unfold nodeB; rw [hk]; rfl
  rw [e] at h hlen
  exact welems_c l T hr hi ih n hks hfew mL mK hlen h
theorem disp18 (l : List Nod) (T : Nat → Bs) {i : Nat} (hr : RightN l) (hi : i ≤ l.length) (ih : TxC W0 l T i) (n : Nod) (hk : n.kind = 18) (hks : ∀ x ∈ n.kids, 0 ≤ x ∧ x < (i : Int)) (_ : n.kids.length ≤ 4000) (hko : kidsOk n.kind n.kids.length = true) (_ : n.text.length ≤ 1000000) (hlen : (nodeB l T n).length ≤ 100000000) : WrC W0 l T n 50 := by
  intro L F R a a1 k c k1 c1 mL mK h
  have e : nodeB l T n = namedB T n := by unfold nodeB; rw [hk]; rfl
  rw [e] at h hlen
  rw [hk] at hko
  have k1 : n.kids.length = 1 := by
    have q := hko
    simp [kidsOk] at q
    omega
  have hb : ∀ j, j < n.kids.length → 0 ≤ kid n j ∧ kid n j < (i : Int) := fun j hj => hks _ (Hu hj)
  exact wnamed_c l T hr hi ih n k1 (hb 0 HS) mL mK hlen h
theorem disp19 (l : List Nod) (T : Nat → Bs) {i : Nat} (hr : RightN l) (hi : i ≤ l.length) (ih : TxC W0 l T i) (n : Nod) (hk : n.kind = 19) (hks : ∀ x ∈ n.kids, 0 ≤ x ∧ x < (i : Int)) (_ : n.kids.length ≤ 4000) (hko : kidsOk n.kind n.kids.length = true) (_ : n.text.length ≤ 1000000) (hlen : (nodeB l T n).length ≤ 100000000) : WrC W0 l T n 50 := by
  intro L F R a a1 k c k1 c1 mL mK h
  have e : nodeB l T n = namedB T n := by unfold nodeB; rw [hk]; rfl
  rw [e] at h hlen
  rw [hk] at hko
  have k1 : n.kids.length = 1 := by
    have q := hko
    simp [kidsOk] at q
    omega
  have hb : ∀ j, j < n.kids.length → 0 ≤ kid n j ∧ kid n j < (i : Int) := fun j hj => hks _ (Hu hj)
  exact wnamed_c l T hr hi ih n k1 (hb 0 HS) mL mK hlen h
theorem disp20 (l : List Nod) (T : Nat → Bs) {i : Nat} (hr : RightN l) (hi : i ≤ l.length) (ih : TxC W0 l T i) (n : Nod) (hk : n.kind = 20) (hks : ∀ x ∈ n.kids, 0 ≤ x ∧ x < (i : Int)) (_ : n.kids.length ≤ 4000) (hko : kidsOk n.kind n.kids.length = true) (_ : n.text.length ≤ 1000000) (hlen : (nodeB l T n).length ≤ 100000000) : WrC W0 l T n 51 := by
  intro L F R a a1 k c k1 c1 mL mK h
  have e : nodeB l T n = n.text ++ signB l T (kid n 0) := by unfold nodeB; rw [hk]; rfl
  rw [e] at h hlen
  rw [hk] at hko
  have k1 : n.kids.length = 1 := by
    have q := hko
    simp [kidsOk] at q
    omega
  have hb : ∀ j, j < n.kids.length → 0 ≤ kid n j ∧ kid n j < (i : Int) := fun j hj => hks _ (Hu hj)
  exact wmethod_c l T hr hi ih n k1 (hb 0 HS) mL mK hlen h
theorem disp21 (l : List Nod) (T : Nat → Bs) {i : Nat} (_ : RightN l) (_ : i ≤ l.length) (ih : TxC W0 l T i) (n : Nod) (hk : n.kind = 21) (hks : ∀ x ∈ n.kids, 0 ≤ x ∧ x < (i : Int)) (hfew : n.kids.length ≤ 4000) (_ : kidsOk n.kind n.kids.length = true) (_ : n.text.length ≤ 1000000) (hlen : (nodeB l T n).length ≤ 100000000) : WrC W0 l T n 52 := by
  intro L F R a a1 k c k1 c1 mL mK h
  have e : nodeB l T n = allB T n.kids [32, 124, 32] := by unfold nodeB; rw [hk]; rfl
  rw [e] at h hlen
  exact wunion_c l T ih n hks hfew hlen mL mK h
theorem disp22 (l : List Nod) (T : Nat → Bs) {i : Nat} (_ : RightN l) (_ : i ≤ l.length) (ih : TxC W0 l T i) (n : Nod) (hk : n.kind = 22) (hks : ∀ x ∈ n.kids, 0 ≤ x ∧ x < (i : Int)) (_ : n.kids.length ≤ 4000) (hko : kidsOk n.kind n.kids.length = true) (_ : n.text.length ≤ 1000000) (hlen : (nodeB l T n).length ≤ 100000000) : WrC W0 l T n 41 := by
  intro L F R a a1 k c k1 c1 mL mK h
  have e : nodeB l T n = n.text ++ tx T (kid n 0) := by unfold nodeB; rw [hk]; rfl
  rw [e] at h hlen
  rw [hk] at hko
  have k1 : n.kids.length = 1 := by
    have q := hko
    simp [kidsOk] at q
    omega
  have hb : ∀ j, j < n.kids.length → 0 ≤ kid n j ∧ kid n j < (i : Int) := fun j hj => hks _ (Hu hj)
  exact wprefix_c l T ih n HS (hb 0 HS) (by simpa using hlen) mL mK h
theorem disp23 (l : List Nod) (T : Nat → Bs) {i : Nat} (hr : RightN l) (hi : i ≤ l.length) (ih : TxC W0 l T i) (n : Nod) (hk : n.kind = 23) (hks : ∀ x ∈ n.kids, 0 ≤ x ∧ x < (i : Int)) (_ : n.kids.length ≤ 4000) (hko : kidsOk n.kind n.kids.length = true) (_ : n.text.length ≤ 1000000) (hlen : (nodeB l T n).length ≤ 100000000) : WrC W0 l T n 53 := by
  intro L F R a a1 k c k1 c1 mL mK h
  have e : nodeB l T n = valueB l T [99, 111, 110, 115, 116] n := by unfold nodeB; rw [hk]; rfl
  rw [e] at h hlen
  rw [hk] at hko
  have k1 : n.kids.length = 2 := by
    have q := hko
    simp [kidsOk] at q
    omega
  have hb : ∀ j, j < n.kids.length → 0 ≤ kid n j ∧ kid n j < (i : Int) := fun j hj => hks _ (Hu hj)
  exact wconstant_c l T hr hi ih n k1 (hb 0 HS) (hb 1 HS) mL mK hlen h
theorem disp24 (l : List Nod) (T : Nat → Bs) {i : Nat} (hr : RightN l) (hi : i ≤ l.length) (ih : TxC W0 l T i) (n : Nod) (hk : n.kind = 24) (hks : ∀ x ∈ n.kids, 0 ≤ x ∧ x < (i : Int)) (_ : n.kids.length ≤ 4000) (hko : kidsOk n.kind n.kids.length = true) (_ : n.text.length ≤ 1000000) (hlen : (nodeB l T n).length ≤ 100000000) : WrC W0 l T n 54 := by
  intro L F R a a1 k c k1 c1 mL mK h
  have e : nodeB l T n = valueB l T [118, 97, 114] n := by unfold nodeB; rw [hk]; rfl
  rw [e] at h hlen
  rw [hk] at hko
  have k1 : n.kids.length = 2 := by
    have q := hko
    simp [kidsOk] at q
    omega
  have hb : ∀ j, j < n.kids.length → 0 ≤ kid n j ∧ kid n j < (i : Int) := fun j hj => hks _ (Hu hj)
  exact wvariable_c l T hr hi ih n k1 (hb 0 HS) (hb 1 HS) mL mK hlen h
theorem disp25 (l : List Nod) (T : Nat → Bs) {i : Nat} (hr : RightN l) (hi : i ≤ l.length) (ih : TxC W0 l T i) (n : Nod) (hk : n.kind = 25) (hks : ∀ x ∈ n.kids, 0 ≤ x ∧ x < (i : Int)) (_ : n.kids.length ≤ 4000) (hko : kidsOk n.kind n.kids.length = true) (_ : n.text.length ≤ 1000000) (hlen : (nodeB l T n).length ≤ 100000000) : WrC W0 l T n 55 := by
  intro L F R a a1 k c k1 c1 mL mK h
  have e : nodeB l T n = [116, 121, 112, 101, 32] ++ n.text ++ tx T (kid n 0) ++ [32] ++ tx T (kid n 1) := by unfold nodeB; rw [hk]; rfl
  rw [e] at h hlen
  rw [hk] at hko
  have k1 : n.kids.length = 2 := by
    have q := hko
    simp [kidsOk] at q
    omega
  have hb : ∀ j, j < n.kids.length → 0 ≤ kid n j ∧ kid n j < (i : Int) := fun j hj => hks _ (Hu hj)
  exact wtyp_c l T hr hi ih n k1 (hb 0 HS) (hb 1 HS) mL mK hlen h
theorem disp26 (l : List Nod) (T : Nat → Bs) {i : Nat} (hr : RightN l) (hi : i ≤ l.length) (ih : TxC W0 l T i) (n : Nod) (hk : n.kind = 26) (hks : ∀ x ∈ n.kids, 0 ≤ x ∧ x < (i : Int)) (hfew : n.kids.length ≤ 4000) (_ : kidsOk n.kind n.kids.length = true) (_ : n.text.length ≤ 1000000) (hlen : (nodeB l T n).length ≤ 100000000) : WrC W0 l T n 56 := by
  intro L F R a a1 k c k1 c1 mL mK h
  have e : nodeB l T n = if n.kids.length = 0 then [] else [91] ++ allB T n.kids [44, 32] ++ [93] := by unfold nodeB; rw [hk]; rfl
  rw [e] at h hlen
  exact wtypes_c l T hr hi ih n hks hfew mL mK hlen h
theorem disp27 (l : List Nod) (T : Nat → Bs) {i : Nat} (hr : RightN l) (hi : i ≤ l.length) (ih : TxC W0 l T i) (n : Nod) (hk : n.kind = 27) (hks : ∀ x ∈ n.kids, 0 ≤ x ∧ x < (i : Int)) (_ : n.kids.length ≤ 4000) (hko : kidsOk n.kind n.kids.length = true) (_ : n.text.length ≤ 1000000) (hlen : (nodeB l T n).length ≤ 100000000) : WrC W0 l T n 50 := by
  intro L F R a a1 k c k1 c1 mL mK h
  have e : nodeB l T n = namedB T n := by unfold nodeB; rw [hk]; rfl
  rw [e] at h hlen
  rw [hk] at hko
  have k1 : n.kids.length = 1 := by
    have q := hko
    simp [kidsOk] at q
    omega
  have hb : ∀ j, j < n.kids.length → 0 ≤ kid n j ∧ kid n j < (i : Int) := fun j hj => hks _ (Hu hj)
  exact wnamed_c l T hr hi ih n k1 (hb 0 HS) mL mK hlen h
theorem disp28 (l : List Nod) (T : Nat → Bs) {i : Nat} (hr : RightN l) (hi : i ≤ l.length) (ih : TxC W0 l T i) (n : Nod) (hk : n.kind = 28) (hks : ∀ x ∈ n.kids, 0 ≤ x ∧ x < (i : Int)) (_ : n.kids.length ≤ 4000) (hko : kidsOk n.kind n.kids.length = true) (_ : n.text.length ≤ 1000000) (hlen : (nodeB l T n).length ≤ 100000000) : WrC W0 l T n 57 := by
  intro L F R a a1 k c k1 c1 mL mK h
  have e : nodeB l T n = (if kindAt l (kid n 0) = 0 then [102, 117, 110, 99, 32] else [102, 117, 110, 99, 32] ++ ([40] ++ tx T (kid n 0) ++ [41, 32])) ++ n.text ++ tx T (kid n 1) ++ signB l T (kid n 2) ++ [32] ++ tx T (kid n 3) := by unfold nodeB; rw [hk]; rfl
  rw [e] at h hlen
  rw [hk] at hko
  have k1 : n.kids.length = 4 := by
    have q := hko
    simp [kidsOk] at q
    omega
  have hb : ∀ j, j < n.kids.length → 0 ≤ kid n j ∧ kid n j < (i : Int) := fun j hj => hks _ (Hu hj)
  exact wdecl_c l T hr hi ih n k1 (hb 0 HS) (hb 1 HS) (hb 2 HS) (hb 3 HS) mL mK hlen h
theorem disp29 (l : List Nod) (T : Nat → Bs) {i : Nat} (hr : RightN l) (hi : i ≤ l.length) (ih : TxC W0 l T i) (n : Nod) (hk : n.kind = 29) (hks : ∀ x ∈ n.kids, 0 ≤ x ∧ x < (i : Int)) (_ : n.kids.length ≤ 4000) (hko : kidsOk n.kind n.kids.length = true) (_ : n.text.length ≤ 1000000) (hlen : (nodeB l T n).length ≤ 100000000) : WrC W0 l T n 50 := by
  intro L F R a a1 k c k1 c1 mL mK h
  have e : nodeB l T n = namedB T n := by unfold nodeB; rw [hk]; rfl
  rw [e] at h hlen
  rw [hk] at hko
  have k1 : n.kids.length = 1 := by
    have q := hko
    simp [kidsOk] at q
    omega
  have hb : ∀ j, j < n.kids.length → 0 ≤ kid n j ∧ kid n j < (i : Int) := fun j hj => hks _ (Hu hj)
  exact wnamed_c l T hr hi ih n k1 (hb 0 HS) mL mK hlen h
theorem disp30 (l : List Nod) (T : Nat → Bs) {i : Nat} (hr : RightN l) (hi : i ≤ l.length) (ih : TxC W0 l T i) (n : Nod) (hk : n.kind = 30) (hks : ∀ x ∈ n.kids, 0 ≤ x ∧ x < (i : Int)) (_ : n.kids.length ≤ 4000) (hko : kidsOk n.kind n.kids.length = true) (_ : n.text.length ≤ 1000000) (hlen : (nodeB l T n).length ≤ 100000000) : WrC W0 l T n 58 := by
  intro L F R a a1 k c k1 c1 mL mK h
  have e : nodeB l T n = if kindAt l (kid n 0) = 0 then [123, 125] else [123, 32, 114, 101, 116, 117, 114, 110, 32] ++ tx T (kid n 0) ++ [32, 125] := by unfold nodeB; rw [hk]; rfl
  rw [e] at h hlen
  rw [hk] at hko
  have k1 : n.kids.length = 1 := by
    have q := hko
    simp [kidsOk] at q
    omega
  have hb : ∀ j, j < n.kids.length → 0 ≤ kid n j ∧ kid n j < (i : Int) := fun j hj => hks _ (Hu hj)
  exact wbody_c l T hr hi ih n k1 (hb 0 HS) mL mK hlen h
theorem disp31 (l : List Nod) (T : Nat → Bs) {i : Nat} (_ : RightN l) (_ : i ≤ l.length) (_ : TxC W0 l T i) (n : Nod) (hk : n.kind = 31) (_ : ∀ x ∈ n.kids, 0 ≤ x ∧ x < (i : Int)) (_ : n.kids.length ≤ 4000) (_ : kidsOk n.kind n.kids.length = true) (htx : n.text.length ≤ 1000000) (_ : (nodeB l T n).length ≤ 100000000) : WrC W0 l T n 59 := by
  intro L F R a a1 k c k1 c1 mL mK h
  have e : nodeB l T n = [105, 109, 112, 111, 114, 116, 32] ++ n.text := by unfold nodeB; rw [hk]; rfl
  rw [e] at h
  exact wimports_c n HS h
theorem disp32 (l : List Nod) (T : Nat → Bs) {i : Nat} (_ : RightN l) (_ : i ≤ l.length) (ih : TxC W0 l T i) (n : Nod) (hk : n.kind = 32) (hks : ∀ x ∈ n.kids, 0 ≤ x ∧ x < (i : Int)) (hfew : n.kids.length ≤ 4000) (_ : kidsOk n.kind n.kids.length = true) (_ : n.text.length ≤ 1000000) (hlen : (nodeB l T n).length ≤ 100000000) : WrC W0 l T n 60 := by
  intro L F R a a1 k c k1 c1 mL mK h
  have e : nodeB l T n = [112, 97, 99, 107, 97, 103, 101, 32] ++ n.text ++ [10] ++ lineB T n.kids := by unfold nodeB; rw [hk]; rfl
  rw [e] at h hlen
  exact wfile_c l T ih n hks hfew mL mK hlen h
end
end Go.Sy
namespace Go.Sy
open Go Go.Proofs Go.RowKit
attribute [local irreducible] AC AT AO AK AH ACalls ACallsX ACallsD Sub Res.cells Res.obj Res.nix Res.own Res.map Exit.then Exit.inBlock Exit.noGoto bodyPost bodyPostD Code.wp Code.wpIn WL Next Post PostX Kont
section
variable {W0 : World} {L : List Res} {F : List Fact} {R : Value → List Res → List Fact → Prop}
set_option maxRecDepth 100000
set_option maxHeartbeats 4000000
theorem disp_c (l : List Nod) (T : Nat → Bs) {i : Nat} (hr : RightN l) (hi : i ≤ l.length) (ih : TxC W0 l T i) (n : Nod) (hn : 0 ≤ n.kind ∧ n.kind ≤ 32) (hks : ∀ x ∈ n.kids, 0 ≤ x ∧ x < (i : Int)) (hfew : n.kids.length ≤ 4000) (hko : kidsOk n.kind n.kids.length = true) (htx : n.text.length ≤ 1000000) (hlen : (nodeB l T n).length ≤ 100000000) : ∃ f, FnT Tryz.prog f ∧ tabW n.kind = some f ∧ WrC W0 l T n f := by
  have hc : n.kind = 0 ∨ n.kind = 1 ∨ n.kind = 2 ∨ n.kind = 3 ∨ n.kind = 4 ∨ n.kind = 5 ∨ n.kind = 6 ∨ n.kind = 7 ∨ n.kind = 8 ∨ n.kind = 9 ∨ n.kind = 10 ∨ n.kind = 11 ∨ n.kind = 12 ∨ n.kind = 13 ∨ n.kind = 14 ∨ n.kind = 15 ∨ n.kind = 16 ∨ n.kind = 17 ∨ n.kind = 18 ∨ n.kind = 19 ∨ n.kind = 20 ∨ n.kind = 21 ∨ n.kind = 22 ∨ n.kind = 23 ∨ n.kind = 24 ∨ n.kind = 25 ∨ n.kind = 26 ∨ n.kind = 27 ∨ n.kind = 28 ∨ n.kind = 29 ∨ n.kind = 30 ∨ n.kind = 31 ∨ n.kind = 32 := by omega
  rcases hc with e | e | e | e | e | e | e | e | e | e | e | e | e | e | e | e | e | e | e | e | e | e | e | e | e | e | e | e | e | e | e | e | e
  · exact ⟨_, inferInstance, by rw [e]; simp [upd], disp0 l T hr hi ih n e hks hfew hko htx hlen⟩
  · exact ⟨_, inferInstance, by rw [e]; simp [upd], disp1 l T hr hi ih n e hks hfew hko htx hlen⟩
  · exact ⟨_, inferInstance, by rw [e]; simp [upd], disp2 l T hr hi ih n e hks hfew hko htx hlen⟩
  · exact ⟨_, inferInstance, by rw [e]; simp [upd], disp3 l T hr hi ih n e hks hfew hko htx hlen⟩
  · exact ⟨_, inferInstance, by rw [e]; simp [upd], disp4 l T hr hi ih n e hks hfew hko htx hlen⟩
  · exact ⟨_, inferInstance, by rw [e]; simp [upd], disp5 l T hr hi ih n e hks hfew hko htx hlen⟩
  · exact ⟨_, inferInstance, by rw [e]; simp [upd], disp6 l T hr hi ih n e hks hfew hko htx hlen⟩
  · exact ⟨_, inferInstance, by rw [e]; simp [upd], disp7 l T hr hi ih n e hks hfew hko htx hlen⟩
  · exact ⟨_, inferInstance, by rw [e]; simp [upd], disp8 l T hr hi ih n e hks hfew hko htx hlen⟩
  · exact ⟨_, inferInstance, by rw [e]; simp [upd], disp9 l T hr hi ih n e hks hfew hko htx hlen⟩
  · exact ⟨_, inferInstance, by rw [e]; simp [upd], disp10 l T hr hi ih n e hks hfew hko htx hlen⟩
  · exact ⟨_, inferInstance, by rw [e]; simp [upd], disp11 l T hr hi ih n e hks hfew hko htx hlen⟩
  · exact ⟨_, inferInstance, by rw [e]; simp [upd], disp12 l T hr hi ih n e hks hfew hko htx hlen⟩
  · exact ⟨_, inferInstance, by rw [e]; simp [upd], disp13 l T hr hi ih n e hks hfew hko htx hlen⟩
  · exact ⟨_, inferInstance, by rw [e]; simp [upd], disp14 l T hr hi ih n e hks hfew hko htx hlen⟩
  · exact ⟨_, inferInstance, by rw [e]; simp [upd], disp15 l T hr hi ih n e hks hfew hko htx hlen⟩
  · exact ⟨_, inferInstance, by rw [e]; simp [upd], disp16 l T hr hi ih n e hks hfew hko htx hlen⟩
  · exact ⟨_, inferInstance, by rw [e]; simp [upd], disp17 l T hr hi ih n e hks hfew hko htx hlen⟩
  · exact ⟨_, inferInstance, by rw [e]; simp [upd], disp18 l T hr hi ih n e hks hfew hko htx hlen⟩
  · exact ⟨_, inferInstance, by rw [e]; simp [upd], disp19 l T hr hi ih n e hks hfew hko htx hlen⟩
  · exact ⟨_, inferInstance, by rw [e]; simp [upd], disp20 l T hr hi ih n e hks hfew hko htx hlen⟩
  · exact ⟨_, inferInstance, by rw [e]; simp [upd], disp21 l T hr hi ih n e hks hfew hko htx hlen⟩
  · exact ⟨_, inferInstance, by rw [e]; simp [upd], disp22 l T hr hi ih n e hks hfew hko htx hlen⟩
  · exact ⟨_, inferInstance, by rw [e]; simp [upd], disp23 l T hr hi ih n e hks hfew hko htx hlen⟩
  · exact ⟨_, inferInstance, by rw [e]; simp [upd], disp24 l T hr hi ih n e hks hfew hko htx hlen⟩
  · exact ⟨_, inferInstance, by rw [e]; simp [upd], disp25 l T hr hi ih n e hks hfew hko htx hlen⟩
  · exact ⟨_, inferInstance, by rw [e]; simp [upd], disp26 l T hr hi ih n e hks hfew hko htx hlen⟩
  · exact ⟨_, inferInstance, by rw [e]; simp [upd], disp27 l T hr hi ih n e hks hfew hko htx hlen⟩
  · exact ⟨_, inferInstance, by rw [e]; simp [upd], disp28 l T hr hi ih n e hks hfew hko htx hlen⟩
  · exact ⟨_, inferInstance, by rw [e]; simp [upd], disp29 l T hr hi ih n e hks hfew hko htx hlen⟩
  · exact ⟨_, inferInstance, by rw [e]; simp [upd], disp30 l T hr hi ih n e hks hfew hko htx hlen⟩
  · exact ⟨_, inferInstance, by rw [e]; simp [upd], disp31 l T hr hi ih n e hks hfew hko htx hlen⟩
  exact ⟨_, inferInstance, by rw [e]; simp [upd], disp32 l T hr hi ih n e hks hfew hko htx hlen⟩
abbrev encW (a : Option Addr) (k c : Nat) (f : Nat) : Value := .func (.func f) #[vW a k c] #[]
theorem text1_c (l : List Nod) (T : Nat → Bs) {i : Nat} (hr : RightN l) (hi : i < l.length) (ih : TxC W0 l T i) (htx : l[i].text.length ≤ 1000000) (hlen : (nodeB l T l[i]).length ≤ 100000000) {a : Option Addr} {k c : Nat} (mL : fNod l a k c ∈ F) (h : R (S (nodeB l T l[i])) L F) :
    ACalls Tryz.prog W0 19 #[vW a k c, .int .i64 (i : Int)] L F R := by
  have hn := hr.node i l[i] (List.getElem?_eq_getElem hi)
  obtain ⟨f, hF, hf, hW⟩ := disp_c l T hr HS ih l[i] hn.1 hn.2.2.2 (kids_few hr hi) hn.2.2.1 htx hlen
  refine Gn Tryz.func19 HQ Tryz.ntmps19 HQ ?_
  refine qs 2 ?_
  refine Gb (GH HQ HQ (fun b2 => ?_))
  refine qs 8 ?_
  refine Gb (Hg HQ HQ HQ HQ (enc := eNod) (lst := l) memA hi (fun _ _ => ?_))
  refine Gb (AO.loadFA HQ HQ ?_)
  intro a11 k11 c11
  refine Gb (Hh HQ (fun b5 => ?_))
  refine qs 5 ?_
  refine Gb (AO.makeMap (fun i : Int => .int .i64 i) (encW a k c) HQ (fun b12 => ?_))
  refine qs 1 ?_
  refine Gb (GB (us := [vW a k c]) (vs := []) HQ HQ HQ ?_)
  refine Gb (GM (κ := Int) 0 36 HQ HQ HQ ?_)
  refine qs 1 ?_
  refine Gb (GB (us := [vW a k c]) (vs := []) HQ HQ HQ ?_)
  refine Gb (GM (κ := Int) 1 37 HQ HQ HQ ?_)
  refine qs 1 ?_
  refine Gb (GB (us := [vW a k c]) (vs := []) HQ HQ HQ ?_)
  refine Gb (GM (κ := Int) 2 37 HQ HQ HQ ?_)
  refine qs 1 ?_
  refine Gb (GB (us := [vW a k c]) (vs := []) HQ HQ HQ ?_)
  refine Gb (GM (κ := Int) 3 37 HQ HQ HQ ?_)
  refine qs 1 ?_
  refine Gb (GB (us := [vW a k c]) (vs := []) HQ HQ HQ ?_)
  refine Gb (GM (κ := Int) 4 37 HQ HQ HQ ?_)
  refine qs 1 ?_
  refine Gb (GB (us := [vW a k c]) (vs := []) HQ HQ HQ ?_)
  refine Gb (GM (κ := Int) 5 37 HQ HQ HQ ?_)
  refine qs 1 ?_
  refine Gb (GB (us := [vW a k c]) (vs := []) HQ HQ HQ ?_)
  refine Gb (GM (κ := Int) 6 38 HQ HQ HQ ?_)
  refine qs 1 ?_
  refine Gb (GB (us := [vW a k c]) (vs := []) HQ HQ HQ ?_)
  refine Gb (GM (κ := Int) 7 39 HQ HQ HQ ?_)
  refine qs 1 ?_
  refine Gb (GB (us := [vW a k c]) (vs := []) HQ HQ HQ ?_)
  refine Gb (GM (κ := Int) 8 40 HQ HQ HQ ?_)
  refine qs 1 ?_
  refine Gb (GB (us := [vW a k c]) (vs := []) HQ HQ HQ ?_)
  refine Gb (GM (κ := Int) 9 41 HQ HQ HQ ?_)
  refine qs 1 ?_
  refine Gb (GB (us := [vW a k c]) (vs := []) HQ HQ HQ ?_)
  refine Gb (GM (κ := Int) 10 42 HQ HQ HQ ?_)
  refine qs 1 ?_
  refine Gb (GB (us := [vW a k c]) (vs := []) HQ HQ HQ ?_)
  refine Gb (GM (κ := Int) 11 43 HQ HQ HQ ?_)
  refine qs 1 ?_
  refine Gb (GB (us := [vW a k c]) (vs := []) HQ HQ HQ ?_)
  refine Gb (GM (κ := Int) 12 44 HQ HQ HQ ?_)
  refine qs 1 ?_
  refine Gb (GB (us := [vW a k c]) (vs := []) HQ HQ HQ ?_)
  refine Gb (GM (κ := Int) 13 45 HQ HQ HQ ?_)
  refine qs 1 ?_
  refine Gb (GB (us := [vW a k c]) (vs := []) HQ HQ HQ ?_)
  refine Gb (GM (κ := Int) 14 46 HQ HQ HQ ?_)
  refine qs 1 ?_
  refine Gb (GB (us := [vW a k c]) (vs := []) HQ HQ HQ ?_)
  refine Gb (GM (κ := Int) 15 47 HQ HQ HQ ?_)
  refine qs 1 ?_
  refine Gb (GB (us := [vW a k c]) (vs := []) HQ HQ HQ ?_)
  refine Gb (GM (κ := Int) 16 48 HQ HQ HQ ?_)
  refine qs 1 ?_
  refine Gb (GB (us := [vW a k c]) (vs := []) HQ HQ HQ ?_)
  refine Gb (GM (κ := Int) 17 49 HQ HQ HQ ?_)
  refine qs 1 ?_
  refine Gb (GB (us := [vW a k c]) (vs := []) HQ HQ HQ ?_)
  refine Gb (GM (κ := Int) 18 50 HQ HQ HQ ?_)
  refine qs 1 ?_
  refine Gb (GB (us := [vW a k c]) (vs := []) HQ HQ HQ ?_)
  refine Gb (GM (κ := Int) 19 50 HQ HQ HQ ?_)
  refine qs 1 ?_
  refine Gb (GB (us := [vW a k c]) (vs := []) HQ HQ HQ ?_)
  refine Gb (GM (κ := Int) 20 51 HQ HQ HQ ?_)
  refine qs 1 ?_
  refine Gb (GB (us := [vW a k c]) (vs := []) HQ HQ HQ ?_)
  refine Gb (GM (κ := Int) 21 52 HQ HQ HQ ?_)
  refine qs 1 ?_
  refine Gb (GB (us := [vW a k c]) (vs := []) HQ HQ HQ ?_)
  refine Gb (GM (κ := Int) 22 41 HQ HQ HQ ?_)
  refine qs 1 ?_
  refine Gb (GB (us := [vW a k c]) (vs := []) HQ HQ HQ ?_)
  refine Gb (GM (κ := Int) 23 53 HQ HQ HQ ?_)
  refine qs 1 ?_
  refine Gb (GB (us := [vW a k c]) (vs := []) HQ HQ HQ ?_)
  refine Gb (GM (κ := Int) 24 54 HQ HQ HQ ?_)
  refine qs 1 ?_
  refine Gb (GB (us := [vW a k c]) (vs := []) HQ HQ HQ ?_)
  refine Gb (GM (κ := Int) 25 55 HQ HQ HQ ?_)
  refine qs 1 ?_
  refine Gb (GB (us := [vW a k c]) (vs := []) HQ HQ HQ ?_)
  refine Gb (GM (κ := Int) 26 56 HQ HQ HQ ?_)
  refine qs 1 ?_
  refine Gb (GB (us := [vW a k c]) (vs := []) HQ HQ HQ ?_)
  refine Gb (GM (κ := Int) 27 50 HQ HQ HQ ?_)
  refine qs 1 ?_
  refine Gb (GB (us := [vW a k c]) (vs := []) HQ HQ HQ ?_)
  refine Gb (GM (κ := Int) 28 57 HQ HQ HQ ?_)
  refine qs 1 ?_
  refine Gb (GB (us := [vW a k c]) (vs := []) HQ HQ HQ ?_)
  refine Gb (GM (κ := Int) 29 50 HQ HQ HQ ?_)
  refine qs 1 ?_
  refine Gb (GB (us := [vW a k c]) (vs := []) HQ HQ HQ ?_)
  refine Gb (GM (κ := Int) 30 58 HQ HQ HQ ?_)
  refine qs 1 ?_
  refine Gb (GB (us := [vW a k c]) (vs := []) HQ HQ HQ ?_)
  refine Gb (GM (κ := Int) 31 59 HQ HQ HQ ?_)
  refine qs 1 ?_
  refine Gb (GB (us := [vW a k c]) (vs := []) HQ HQ HQ ?_)
  refine Gb (GM (κ := Int) 32 60 HQ HQ HQ ?_)
  refine qs 9 ?_
  refine Gb (AO.lookupS (i := 0) (κ := Int) l[i].kind (v := f) hf HQ HQ HQ HQ ?_)
  refine qs 1 ?_
  refine Gb (AO.callB (fi := [vW a k c]) (cs := []) HQ HQ HQ (hW (a1 := a11) (k1 := k11) (c1 := c11) memA memA ?_))
  refine qs 4 ?_
  exact Gg (L' := L) (F' := F) Tryz.results19 rfl subA h
theorem text_all (l : List Nod) (hr : RightN l) (hl : ownAll l ≤ 100000000) (ht : ∀ n ∈ l, n.text.length ≤ 1000000) : ∀ i, i ≤ l.length → TxC W0 l (txtB l) i
  | 0, _ => fun j h0 h1 => absurd h1 HS
  | i + 1, hi => fun j h0 h1 L F R a k c mL h => by
    have ih := text_all l hr hl ht i HS
    rcases (show j < (i : Int) ∨ j = (i : Int) by omega) with q | rfl
    · exact ih j h0 q mL h
    have he := txtB_eq hr (show i < l.length by omega)
    refine text1_c l (txtB l) hr HS ih (ht _ (List.getElem_mem _)) (by rw [← he]; exact Nat.le_trans (txtB_len hr HS) HS) mL ?_
    rw [← he]
    have : tx (txtB l) (i : Int) = txtB l i := by unfold tx; rw [if_neg HS, Int.toNat_natCast]
    rw [← this]; exact h
theorem text_c (l : List Nod) (hr : RightN l) (hl : ownAll l ≤ 100000000) (ht : ∀ n ∈ l, n.text.length ≤ 1000000) {i : Nat} (hi : i < l.length) {a : Option Addr} {k c : Nat} (mL : fNod l a k c ∈ F) (h : R (S (txtB l i)) L F) : ACalls Tryz.prog W0 19 #[vW a k c, .int .i64 (i : Int)] L F R := by
  have : tx (txtB l) (i : Int) = txtB l i := by unfold tx; rw [if_neg HS, Int.toNat_natCast]
  exact text_all l hr hl ht (i + 1) hi (i : Int) HS HS mL (by rw [this]; exact h)
end
end Go.Sy
namespace Go.Sy
open Go Go.Proofs Go.RowKit
theorem take_step {α : Type} {l m : List α} {k : Nat} (h : l.take k = m.take k) (hl : k < l.length) (hm : k < m.length) (he : l[k] = m[k]) : l.take (k + 1) = m.take (k + 1) := by
  rw [List.take_succ_eq_append_getElem hl, List.take_succ_eq_append_getElem hm, h, he]
theorem ne_at {α : Type} {l m : List α} {k : Nat} (hl : k < l.length) (hm : k < m.length) (he : l[k] ≠ m[k]) : l ≠ m := fun e => he (by subst e; rfl)
theorem all_of_take {α : Type} {l m : List α} {k : Nat} (h : l.take k = m.take k) (hl : l.length ≤ k) (hm : m.length ≤ k) : l = m := by
  rwa [List.take_of_length_le hl, List.take_of_length_le hm] at h
abbrev keyN (n : Nod) : Int × Bs × List Int := (n.kind, n.text, n.kids)
theorem keyN_eq {x y : Nod} : keyN x = keyN y ↔ x.kind = y.kind ∧ x.text = y.text ∧ x.kids = y.kids := by
  unfold keyN; simp only [Prod.mk.injEq]
theorem keys_len {l m : List Nod} (he : l.map keyN = m.map keyN) : l.length = m.length := by
  have := congrArg List.length he
  simpa using this
theorem keys_at {l m : List Nod} (he : l.map keyN = m.map keyN) {q : Nat} (h1 : q < l.length) (h2 : q < m.length) : keyN l[q] = keyN m[q] := by
  have h := congrArg (fun x => x[q]?) he
  simpa only [List.getElem?_map, List.getElem?_eq_getElem h1, List.getElem?_eq_getElem h2, Option.map_some, Option.some.injEq] using h
theorem keys_step {l m : List Nod} {q : Nat} (h : (l.take q).map keyN = (m.take q).map keyN) (h1 : q < l.length) (h2 : q < m.length) (he : l[q].kind = m[q].kind ∧ l[q].text = m[q].text ∧ l[q].kids = m[q].kids) : (l.take (q + 1)).map keyN = (m.take (q + 1)).map keyN := by
  rw [List.take_succ_eq_append_getElem h1, List.take_succ_eq_append_getElem h2, List.map_append, List.map_append, h]
  simp only [List.map_cons, List.map_nil, keyN, he.1, he.2.1, he.2.2]
theorem keys_all {l m : List Nod} {q : Nat} (h : (l.take q).map keyN = (m.take q).map keyN) (h1 : l.length ≤ q) (h2 : m.length ≤ q) : l.map keyN = m.map keyN := by
  rwa [List.take_of_length_le h1, List.take_of_length_le h2] at h
attribute [local irreducible] AC AT AO AK AH ACalls ACallsX ACallsD Sub Res.cells Res.obj Res.nix Res.own Res.map Exit.then Exit.inBlock Exit.noGoto bodyPost bodyPostD Code.wp Code.wpIn WL Next Post PostX Kont
section
variable {W0 : World} {L : List Res} {F : List Fact} {R : Value → List Res → List Fact → Prop}
set_option maxRecDepth 100000
set_option maxHeartbeats 4000000
theorem eqI_c (l m : List Int) {a1 a2 : Option Addr} {k1 c1 k2 c2 : Nat} (m1 : Fact.slc (.slice a1 k1 c1) 1 (l.map eInt) ∈ F) (m2 : Fact.slc (.slice a2 k2 c2) 1 (m.map eInt) ∈ F) (hT : l = m → R (.bool true) L F) (hF : l ≠ m → R (.bool false) L F) :
    ACalls Tryz.prog W0 63 #[.slice a1 k1 c1, .slice a2 k2 c2] L F R := by
  refine Gn Tryz.func63 HQ Tryz.ntmps63 HQ ?_
  refine qs 9 ?_
  refine Gb (Hr HQ HQ (fun hl1 => ?_) (enc := eInt) (lst := l) (hm := m1))
  refine qs 1 ?_
  refine Gb (Hr HQ HQ (fun hl2 => ?_) (enc := eInt) (lst := m) (hm := m2))
  refine Gb (Hw HQ HQ HQ (fun c10 => ?_) (fun c10 => ?_))
  ·refine qs 10 ?_
   first | refine Gg Tryz.results63 HQ subA (hT ?_) | refine Gg Tryz.results63 HQ subA (hF ?_)
   first
   | exact ne_at hkl hkm c24
   | exact fun e => c10 (by rw [e])
   | exact all_of_take hok HS HS
  refine qs 9 ?_
  refine Gb (Hr HQ HQ (fun hl3 => ?_) (enc := eInt) (lst := l) (hm := m1))
  refine qs 4 ?_
  refine Hj (fun k => k ≤ l.length ∧ l.take k = m.take k) (fun k => [(0, .slice a1 k1 c1), (1, .slice a2 k2 c2), (12, .int .i64 l.length), (13, .int .i64 (k : Int))]) (fun _ => L) (fun _ => F) (fun k => l.length - k) 0 ⟨by omega, by simp⟩ srA (Ga _ _) ?_
  rintro k ⟨hk, hok⟩
  refine qs 2 ?_
  refine Gb (Hq HQ HQ HQ (fun c14 => ?_) (fun c14 => ?_))
  ·refine qs 15 ?_
   refine GO (fun _ => false) [] bxA HQ (fun hx hX => ?_)
   have hkl : k < l.length := by omega
   have hkm : k < m.length := by omega
   have hkk1 := (Hk (hX _ m1)).1
   have hkk3 := (Hk (hX _ m2)).1
   obtain ⟨p1, o1, rfl, at1⟩ := Hs (hX _ m1) hkl
   obtain ⟨p2, o2, rfl, at2⟩ := Hs (hX _ m2) hkm
   obtain ⟨v1, hv1, hc1⟩ := at1 0 _ rfl
   obtain ⟨v2, hv2, hc2⟩ := at2 0 _ rfl
   cases hc1
   cases hc2
   refine qt [0, 1, 2, 3, 4, 5, 6, 7] ?_
   refine AH.takeB (i := 8) HQ (Y.neq HQ HQ) HR HQ HQ (fun c24 => ?_) (fun c24 => ?_)
   ·replace c24 := ne_of_bne c24
    refine GF HR ?_
    refine qs 13 ?_
    first | refine Gg Tryz.results63 HQ subA (hT ?_) | refine Gg Tryz.results63 HQ subA (hF ?_)
    first
    | exact ne_at hkl hkm c24
    | exact fun e => c10 (by rw [e])
    | exact all_of_take hok HS HS
   replace c24 := eq_of_bneF c24
   refine GF HR ?_
   refine qs 9 ?_
   refine GX (k + 1) ⟨by omega, take_step hok hkl hkm c24⟩ HS srA subF
  refine qs 15 ?_
  first | refine Gg Tryz.results63 HQ subA (hT ?_) | refine Gg Tryz.results63 HQ subA (hF ?_)
  first
  | exact ne_at hkl hkm c24
  | exact fun e => c10 (by rw [e])
  | exact all_of_take hok HS HS
theorem same1_c (x y : Nod) {a1 a2 : Option Addr} {k1 c1 k2 c2 : Nat} (m1 : fKs x a1 k1 c1 ∈ F) (m2 : fKs y a2 k2 c2 ∈ F) (hT : keyN x = keyN y → R (.bool true) L F) (hF : keyN x ≠ keyN y → R (.bool false) L F) :
    ACalls Tryz.prog W0 62 #[vNod x a1 k1 c1, vNod y a2 k2 c2] L F R := by
  refine Gn Tryz.func62 HQ Tryz.ntmps62 HQ ?_
  refine qs 2 ?_
  refine Gb (GH HQ HQ (fun b2 => (Gb (GH HQ HQ (fun b3 => ?_)))))
  refine qs 9 ?_
  refine Gb (GA HQ HQ HQ (fun c9 => ?_) (fun c9 => ?_))
  ·refine qs 5 ?_
   refine Gr HQ HQ (AO.eqlS HQ HQ HQ (fun c15 => ?_) (fun c15 => ?_))
   ·refine qs 6 ?_
    refine Gr HQ HQ (Gi HQ HQ (eqI_c x.kids y.kids (show fKs x _ _ _ ∈ _ from memA) (show fKs y _ _ _ ∈ _ from memA) (fun c22 => ?_) (fun c22 => ?_)))
    ·refine qs 5 ?_
     exact Gg (L' := L) (F' := F) Tryz.results62 rfl subA (hT (keyN_eq.2 ⟨c9, c15, c22⟩))
    refine qs 5 ?_
    exact Gg (L' := L) (F' := F) Tryz.results62 rfl subA (hF (fun e => c22 (keyN_eq.1 e).2.2))
   refine qs 12 ?_
   exact Gg (L' := L) (F' := F) Tryz.results62 rfl subA (hF (fun e => c15 (keyN_eq.1 e).2.1))
  refine qs 18 ?_
  exact Gg (L' := L) (F' := F) Tryz.results62 rfl subA (hF (fun e => ‹¬_› (keyN_eq.1 e).1))
theorem equalF_c (l m : List Nod) {a1 a2 : Option Addr} {k1 c1 k2 c2 : Nat} (m1 : fNod l a1 k1 c1 ∈ F) (m2 : fNod m a2 k2 c2 ∈ F) (hT : l.map keyN = m.map keyN → R (.bool true) L F) (hF : l.map keyN ≠ m.map keyN → R (.bool false) L F) :
    ACalls Tryz.prog W0 61 #[.slice a1 k1 c1, .slice a2 k2 c2, .func (.func 62) #[] #[]] L F R := by
  refine Gn Tryz.func61 HQ Tryz.ntmps61 HQ ?_
  refine qs 9 ?_
  refine Gb (Hr HQ HQ (fun hl11 => ?_) (enc := eNod) (lst := l) (hm := memA))
  refine qs 1 ?_
  refine Gb (Hr HQ HQ (fun hl13 => ?_) (enc := eNod) (lst := m) (hm := memA))
  refine Gb (Hw HQ HQ HQ (fun c14 => ?_) (fun c14 => ?_))
  ·refine qs 10 ?_
   exact Gg (L' := L) (F' := F) Tryz.results61 rfl subA (hF (fun e => by have := keys_len e; omega))
  refine qs 9 ?_
  refine Gb (Hr HQ HQ (fun hl16 => ?_) (enc := eNod) (lst := l) (hm := memA))
  refine qs 4 ?_
  refine Hj (fun (q : Nat) => q ≤ l.length ∧ (l.take q).map keyN = (m.take q).map keyN) (fun q => [(1, .slice a2 k2 c2), (2, .func (.func 62) #[] #[]), (15, .slice a1 k1 c1), (16, .int .i64 l.length), (17, .int .i64 (q : Int))]) (fun _ => L) (fun _ => F) (fun q => l.length - q) 0 ⟨by omega, by simp⟩ srA (Ga _ _) ?_
  rintro q ⟨hq, hok⟩
  refine qs 2 ?_
  refine Gb (Hq HQ HQ HQ (fun c18 => ?_) (fun c18 => ?_))
  ·refine qs 11 ?_
   have hql : q < l.length := by omega
   have hqm : q < m.length := by omega
   refine Gb (Hg HQ HQ HQ HQ (enc := eNod) (lst := l) memA hql (fun _ _ => ?_))
   refine Gb (AO.loadFA HQ HQ ?_)
   intro a21 k21 c21
   refine Gb (Hh HQ (fun b8 => ?_))
   refine qs 8 ?_
   refine Gb (Hg HQ HQ HQ HQ (enc := eNod) (lst := m) memA hqm (fun _ _ => ?_))
   refine Gb (AO.loadFA HQ HQ ?_)
   intro a25 k25 c25
   refine Gb (Hh HQ (fun b9 => ?_))
   refine qs 8 ?_
   refine Gb (AO.callC HQ HQ HQ (same1_c l[q] m[q] memA memA (fun c29 => ?_) (fun c29 => ?_)))
   ·refine qs 11 ?_
    refine GX (q + 1) ⟨by omega, keys_step hok hql hqm (keyN_eq.1 c29)⟩ HS srA subA
   refine qs 15 ?_
   exact Gg (L' := L) (F' := F) Tryz.results61 rfl subA (hF (fun e => c29 (keys_at e hql hqm)))
  refine qs 15 ?_
  exact Gg (L' := L) (F' := F) Tryz.results61 rfl subA (hT (keys_all hok HS HS))
theorem alike_c (l m : List Nod) {a1 a2 : Option Addr} {k1 c1 k2 c2 : Nat} (m1 : fNod l a1 k1 c1 ∈ F) (m2 : fNod m a2 k2 c2 ∈ F) (hT : l.map keyN = m.map keyN → R (.bool true) L F) (hF : l.map keyN ≠ m.map keyN → R (.bool false) L F) :
    ACalls Tryz.prog W0 20 #[.slice a1 k1 c1, .slice a2 k2 c2] L F R := by
  refine Gn Tryz.func20 HQ Tryz.ntmps20 HQ ?_
  refine qs 9 ?_
  refine Gb (Gi HQ HQ (equalF_c l m memA memA (fun c7 => ?_) (fun c7 => ?_)))
  ·refine qs 4 ?_
   exact Gg (L' := L) (F' := F) Tryz.results20 rfl subA (hT c7)
  refine qs 4 ?_
  exact Gg (L' := L) (F' := F) Tryz.results20 rfl subA (hF c7)
theorem like2_c (l m : List Nod) {a1 a2 : Option Addr} {k1 c1 k2 c2 : Nat} (m1 : fNod l a1 k1 c1 ∈ F) (m2 : fNod m a2 k2 c2 ∈ F) (hT : l.map keyN = m.map keyN → R (.bool true) L F) (hF : l.map keyN ≠ m.map keyN → R (.bool false) L F) : ACalls Tryz.prog W0 8 #[.slice a1 k1 c1, .slice a2 k2 c2] L F R := by
  refine Gn Tryz.func8 HQ Tryz.ntmps8 HQ ?_
  refine qs 9 ?_
  refine Gb (Hr HQ HQ (fun hl8 => ?_) (enc := eNod) (lst := l) (hm := memA))
  refine qs 1 ?_
  refine Gb (Hr HQ HQ (fun hl10 => ?_) (enc := eNod) (lst := m) (hm := memA))
  refine Gb (Hw HQ HQ HQ (fun c11 => ?_) (fun c11 => ?_))
  ·refine qs 10 ?_
   exact Gg (L' := L) (F' := F) Tryz.results8 rfl subA (hF (fun e => by have := keys_len e; omega))
  refine qs 9 ?_
  refine Gb (Hr HQ HQ (fun hl13 => ?_) (enc := eNod) (lst := l) (hm := memA))
  refine qs 4 ?_
  refine Hj (fun (q : Nat) => q ≤ l.length ∧ (l.take q).map keyN = (m.take q).map keyN) (fun q => [(0, .slice a1 k1 c1), (1, .slice a2 k2 c2), (13, .int .i64 l.length), (14, .int .i64 (q : Int))]) (fun _ => L) (fun _ => F) (fun q => l.length - q) 0 ⟨by omega, by simp⟩ srA (Ga _ _) ?_
  rintro q ⟨hq, hok⟩
  refine qs 2 ?_
  refine Gb (Hq HQ HQ HQ (fun c15 => ?_) (fun c15 => ?_))
  ·refine qs 16 ?_
   refine GO (fun _ => false) [] bxA HQ (fun hx hX => ?_)
   have hkl : q < l.length := by omega
   have hkm : q < m.length := by omega
   have hkk1 := (Hk (hX _ m1)).1
   have hkk3 := (Hk (hX _ m2)).1
   obtain ⟨p1, o1, rfl, at1⟩ := Hs (hX _ m1) hkl
   obtain ⟨p2, o2, rfl, at2⟩ := Hs (hX _ m2) hkm
   obtain ⟨w1, x1, y1, hv1, hw1⟩ := nod_cells at1
   obtain ⟨w2, x2, y2, hv2, hw2⟩ := nod_cells at2
   have d0 := hv1 0 _ rfl
   have d1 := hv1 1 _ rfl
   have d2 := hv1 2 _ rfl
   have f0 := hv2 0 _ rfl
   have f1 := hv2 1 _ rfl
   have f2 := hv2 2 _ rfl
   have hx1 := (Hk hw1).1
   have hx2 := (Hk hw2).1
   refine qt [0, 1, 2, 3, 4, 5, 6, 7, 8, 9] ?_
   refine AH.takeB (i := 10) HQ (Y.neq HQ HQ) HR HQ HQ (fun c27 => ?_) (fun c27 => ?_)
   ·replace c27 := ne_of_bne c27
    refine qt [11, 12, 13, 14, 15, 16, 17, 18, 19, 20, 21, 22, 23, 24, 25, 26, 27, 28, 29, 30, 31, 32, 33, 34, 35, 36, 37, 38] ?_
    refine GF HR ?_
    refine qs 14 ?_
    exact Gg (L' := L) (F' := F) Tryz.results8 rfl subA (hF (fun e => c27 (keyN_eq.1 (keys_at e hkl hkm)).1))
   replace c27 := eq_of_bneF c27
   refine qt [11, 12, 13, 14, 15, 16, 17, 18, 19, 20, 21] ?_
   refine AH.takeB (i := 22) HQ (Y.neqS HQ HQ) HR HQ HQ (fun c39 => ?_) (fun c39 => ?_)
   ·replace c39 := ne_of_nbeq c39
    refine qt [23, 24, 25, 26, 27, 28, 29, 30, 31, 32, 33, 34, 35, 36, 37, 38] ?_
    refine GF HR ?_
    refine qs 14 ?_
    exact Gg (L' := L) (F' := F) Tryz.results8 rfl subA (hF (fun e => c39 (keyN_eq.1 (keys_at e hkl hkm)).2.1))
   replace c39 := eq_of_nbeqF c39
   refine qt [23, 24, 25, 26, 27, 28, 29, 30, 31, 32, 33, 34, 35, 36] ?_
   refine AH.takeB (i := 37) HQ (Y.neq HQ HQ) HR HQ HQ (fun c54 => ?_) (fun c54 => ?_)
   ·replace c54 := ne_of_bne c54
    refine qt [38] ?_
    refine GF HR ?_
    refine qs 14 ?_
    exact Gg (L' := L) (F' := F) Tryz.results8 rfl subA (hF (fun e => by have := congrArg List.length (keyN_eq.1 (keys_at e hkl hkm)).2.2; omega))
   replace c54 := eq_of_bneF c54
   refine qt [38] ?_
   refine GF HR ?_
   refine qs 8 ?_
   refine Gb (Hg HQ HQ HQ HQ (enc := eNod) (lst := l) memA hkl (fun _ _ => ?_))
   refine Gb (AO.fieldAt HQ HQ (fun _ => ?_))
   refine Gb (HN HQ HQ ?_)
   intro a60 k60 c60
   refine Gb (Hr HQ HQ (fun hl61 => ?_) (enc := eInt) (lst := l[q].kids) (hm := memA))
   refine qs 4 ?_
   have hkkl : l[q].kids.length = m[q].kids.length := by omega
   refine Hj (fun (v : Nat) => v ≤ l[q].kids.length ∧ l[q].kids.take v = m[q].kids.take v) (fun v => [(0, .slice _ k1 c1), (1, .slice _ k2 c2), (5, .int .i64 (q : Int)), (13, .int .i64 l.length), (14, .int .i64 (q : Int)), (61, .int .i64 l[q].kids.length), (62, .int .i64 (v : Int))]) (fun _ => L) (fun _ => F) (fun v => l[q].kids.length - v) 0 ⟨by omega, by simp⟩ srA subF ?_
   rintro v ⟨hv, hvk⟩
   refine qs 2 ?_
   refine Gb (Hq HQ HQ HQ (fun c63 => ?_) (fun c63 => ?_))
   ·refine qs 15 ?_
    refine GO (fun _ => false) [] bxA HQ (fun hx hX => ?_)
    have hvl : v < l[q].kids.length := by omega
    have hvm : v < m[q].kids.length := by omega
    have hkk1 := (Hk (hX _ m1)).1
    have hkk3 := (Hk (hX _ m2)).1
    obtain ⟨p1, o1, e1, at1⟩ := Hs (hX _ m1) hkl
    obtain ⟨p2, o2, e2, at2⟩ := Hs (hX _ m2) hkm
    injection e1 with e1; injection e1 with e1a e1b; subst e1a; subst e1b
    injection e2 with e2; injection e2 with e2a e2b; subst e2a; subst e2b
    obtain ⟨w1, x1, y1, hv1, hw1⟩ := nod_cells at1
    obtain ⟨w2, x2, y2, hv2, hw2⟩ := nod_cells at2
    have hx1 := (Hk hw1).1
    have hx2 := (Hk hw2).1
    obtain ⟨p3, o3, rfl, at3⟩ := Hs hw1 hvl
    obtain ⟨p4, o4, rfl, at4⟩ := Hs hw2 hvm
    have d2 := hv1 2 _ rfl
    have f2 := hv2 2 _ rfl
    obtain ⟨u3, g3, hc3⟩ := at3 0 _ rfl
    obtain ⟨u4, g4, hc4⟩ := at4 0 _ rfl
    cases hc3
    cases hc4
    refine qt [0, 1, 2, 3, 4, 5, 6, 7, 8, 9, 10, 11, 12, 13, 14, 15] ?_
    refine AH.takeB (i := 16) HQ (Y.neq HQ HQ) HR HQ HQ (fun c81 => ?_) (fun c81 => ?_)
    ·replace c81 := ne_of_bne c81
     refine GF HR ?_
     refine qs 17 ?_
     exact Gg (L' := L) (F' := F) Tryz.results8 rfl subA (hF (fun e => ne_at hvl hvm c81 (keyN_eq.1 (keys_at e hkl hkm)).2.2))
    replace c81 := eq_of_bneF c81
    refine GF HR ?_
    refine qs 9 ?_
    refine GX (v + 1) ⟨by omega, take_step hvk hvl hvm c81⟩ HS srA subF
   refine qs 14 ?_
   have hkids : l[q].kids = m[q].kids := all_of_take hvk HS HS
   refine GX (q + 1) ⟨by omega, keys_step hok hkl hkm ⟨c27, c39, hkids⟩⟩ HS srA subF
  refine qs 15 ?_
  exact Gg (L' := L) (F' := F) Tryz.results8 rfl subA (hT (keys_all hok HS HS))
end
end Go.Sy
namespace Go.Sy
open Go
section
variable {a b : List Nod} {T : Nat → Bs}
theorem kindAt_keys (h : a.map keyN = b.map keyN) (i : Int) : kindAt a i = kindAt b i := by
  unfold kindAt
  have := congrArg (fun x => (x[i.toNat]?).map fun y => y.1) h
  simp only [List.getElem?_map, Option.map_map] at this
  have e : (fun y : Int × Bs × List Int => y.1) ∘ keyN = Nod.kind := rfl
  rw [e] at this
  rw [this]
theorem kidsAt_keys (h : a.map keyN = b.map keyN) (i : Int) : (nodOf a i).kids = (nodOf b i).kids := by
  unfold nodOf
  have := congrArg (fun x => ((x[i.toNat]?).map fun y => y.2.2)) h
  simp only [List.getElem?_map, Option.map_map] at this
  have e : (fun y : Int × Bs × List Int => y.2.2) ∘ keyN = Nod.kids := rfl
  rw [e] at this
  have e2 : ∀ x : Option Nod, (x.getD ⟨0, [], [], 0⟩).kids = (x.map Nod.kids).getD [] := by intro x; cases x <;> rfl
  rw [e2, e2, this]
theorem bareB_keys (h : a.map keyN = b.map keyN) {n m : Nod} (hk : n.kids = m.kids) : bareB a T n = bareB b T m := by
  unfold bareB kid
  simp only [hk, kindAt_keys h]
theorem signB_keys (h : a.map keyN = b.map keyN) (i : Int) : signB a T i = signB b T i := by
  unfold signB
  rw [kindAt_keys h, bareB_keys h (kidsAt_keys h i)]
theorem nodeB_keys (h : a.map keyN = b.map keyN) {n m : Nod} (hn : keyN n = keyN m) : nodeB a T n = nodeB b T m := by
  obtain ⟨h1, h2, h3⟩ := keyN_eq.1 hn
  have hb : bareB a T n = bareB b T m := bareB_keys h h3
  have hk : kindAt a = kindAt b := funext fun i => kindAt_keys h i
  have hs : signB a T = signB b T := funext fun i => signB_keys h i
  obtain ⟨k1, t1, c1, p1⟩ := n
  obtain ⟨k2, t2, c2, p2⟩ := m
  simp only at h1 h2 h3
  subst h1 h2 h3
  unfold nodeB valueB
  rw [hk, hs, hb]
  rfl
theorem tabB_keys (h : a.map keyN = b.map keyN) : ∀ i, tabB a i = tabB b i
  | 0 => rfl
  | i + 1 => by
    unfold tabB
    rw [tabB_keys h i]
    have hi := congrArg (fun x => x[i]?) h
    simp only [List.getElem?_map] at hi
    cases ha : a[i]? <;> cases hb : b[i]? <;> rw [ha, hb] at hi
    · cases hi
    · cases hi
    simp only [Option.map_some, Option.some.injEq] at hi
    show tabB b i ++ [nodeB a _ _] = tabB b i ++ [nodeB b _ _]
    rw [nodeB_keys h hi]
theorem txtB_keys (h : a.map keyN = b.map keyN) (i : Nat) : txtB a i = txtB b i := by
  unfold txtB
  rw [tabB_keys h, keys_len h]
end
def readB (l : List Nod) (s : Bs) : Except (Nat × Int) (List Nod) := if kindAt l ((l.length - 1 : Nat) : Int) = 32 then fileB s else exprB s
def rootB (l : List Nod) : Bs := txtB l (l.length - 1)
structure TextR (l : List Nod) (s : Bs) (e : Int) : Prop where
  ok : e = 0 → RightN l ∧ s = rootB l ∧ ∃ back, readB l s = .ok back ∧ back.map keyN = l.map keyN
  bad : e ≠ 0 → s = [] ∧ (RightN l → ∀ back, readB l (rootB l) = .ok back → back.map keyN ≠ l.map keyN)
theorem readB_keys {a b : List Nod} (h : a.map keyN = b.map keyN) (s : Bs) : readB a s = readB b s := by
  unfold readB
  rw [keys_len h, kindAt_keys h]
theorem rootB_keys {a b : List Nod} (h : a.map keyN = b.map keyN) : rootB a = rootB b := by
  unfold rootB
  rw [keys_len h, txtB_keys h]
theorem ownAll_le {l : List Nod} {m : Nat} (h : ∀ n ∈ l, ownC n ≤ m) : ownAll l ≤ l.length * m := by
  unfold ownAll
  induction l with
  | nil => simp
  | cons n l ih =>
    have h1 := h n (List.mem_cons_self ..)
    have h2 := ih fun x hx => h x (List.mem_cons_of_mem _ hx)
    simp only [List.map_cons, List.sum_cons, List.length_cons, Nat.add_mul, Nat.one_mul]
    omega
def aliveS : Bs := [102, 40, 32, 97, 43, 49, 44, 98, 32, 41]
def aliveT : Bs := [102, 40, 97, 32, 43, 32, 49, 44, 32, 98, 41]
def aliveW : List Nod := [⟨1, [102], [], 0⟩, ⟨1, [97], [], 3⟩, ⟨2, [49], [], 5⟩, ⟨10, [43], [1, 2], 3⟩, ⟨1, [98], [], 7⟩, ⟨7, [], [0, 3, 4], 0⟩]
def aliveV : List Nod := [⟨1, [102], [], 0⟩, ⟨1, [97], [], 2⟩, ⟨2, [49], [], 6⟩, ⟨10, [43], [1, 2], 2⟩, ⟨1, [98], [], 9⟩, ⟨7, [], [0, 3, 4], 0⟩]
theorem aliveW_eq : exprB aliveS = .ok aliveW := by kernel_rfl
theorem aliveV_eq : exprB aliveT = .ok aliveV := by kernel_rfl
theorem alive_root : rootB aliveW = aliveT := by kernel_rfl
theorem alive_own : ownAll aliveW ≤ 100000 ∧ ∀ n ∈ aliveW, n.text.length ≤ 40 := by decide
theorem right_of {s : Bs} {l : List Nod} (hs : s.length ≤ 4000) (h : exprB s = .ok l) : RightN l := by
  have := treeB_ok (rule := pexprAll) (fun _ w => exprAll_tree w) s hs
  rw [show treeB pexprAll s = .ok l from h] at this
  exact this.1
theorem right_ofF {s : Bs} {l : List Nod} (hs : s.length ≤ 4000) (h : fileB s = .ok l) : RightN l := by
  have := treeB_ok (rule := pfileAll) (fun _ w => fileAll_tree w) s hs
  rw [show treeB pfileAll s = .ok l from h] at this
  exact this.1
theorem treeB_long {rule : List Tk → Except (Nat × Int) (List Nd)} {s : Bs} (hs : ¬ s.length ≤ 4000) : treeB rule s = .error (0, 7) := by
  have : scanB s = .error (0, 7) := by
    unfold scanB checkB
    rw [if_pos HS]
  unfold treeB
  rw [this]
theorem treeB_bad {rule : List Tk → Except (Nat × Int) (List Nd)} (hr : ∀ K, Wf K → match rule K with
    | .ok l => ∃ v, TreeP l v
    | .error (i, e) => i < K.length ∧ (e = 5 ∨ e = 6 ∨ e = 7)) {s : Bs} {i : Nat} {e : Int} (h : treeB rule s = .error (i, e)) : e ≠ 0 := by
  by_cases hs : s.length ≤ 4000
  · have := treeB_ok hr s hs
    rw [h] at this
    rcases this.2 with q | q | q | q <;> omega
  rw [treeB_long hs] at h
  injection h with h
  injection h with _ h
  omega
theorem exprB_bad {s : Bs} {i : Nat} {e : Int} (h : exprB s = .error (i, e)) : e ≠ 0 := treeB_bad (rule := pexprAll) (fun _ w => exprAll_tree w) h
theorem fileB_bad {s : Bs} {i : Nat} {e : Int} (h : fileB s = .error (i, e)) : e ≠ 0 := treeB_bad (rule := pfileAll) (fun _ w => fileAll_tree w) h
theorem readB_expr {l : List Nod} (h : kindAt l ((l.length - 1 : Nat) : Int) ≠ 32) (s : Bs) : readB l s = exprB s := if_neg h
theorem readB_file {l : List Nod} (h : kindAt l ((l.length - 1 : Nat) : Int) = 32) (s : Bs) : readB l s = fileB s := if_pos h
theorem alive_right : RightN aliveW := right_of (s := aliveS) (by decide) aliveW_eq
theorem alive_kind : kindAt aliveW ((aliveW.length - 1 : Nat) : Int) ≠ 32 := by decide
theorem alive_keys : aliveV.map keyN = aliveW.map keyN := by decide
theorem alive_text {s : Bs} {e : Int} (h : TextR aliveW s e) : e = 0 ∧ s = aliveT := by
  by_cases he : e = 0
  · exact ⟨he, by rw [(h.ok he).2.1, alive_root]⟩
  exact absurd alive_keys ((h.bad he).2 alive_right aliveV (by rw [alive_root, readB_expr alive_kind]; exact aliveV_eq))
end Go.Sy
namespace Go.Sy
abbrev HH := @fileB_bad
abbrev HI := @exprB_bad
end Go.Sy
namespace Go.Sy
open Go Go.Proofs Go.RowKit
theorem ScanG.more {W0 : World} {F F' : List Fact} (g : ScanG W0 F) (h : ∀ x ∈ F, x ∈ F') : ScanG W0 F' := ⟨g.big, h _ g.ops, h _ g.keys⟩
theorem root_kind {l : List Nod} (hr : RightN l) : ∃ h : l.length - 1 < l.length, kindAt l ((l.length - 1 : Nat) : Int) = l[l.length - 1].kind := by
  have := hr.one
  have hl : l.length - 1 < l.length := by omega
  refine ⟨hl, ?_⟩
  unfold kindAt; rw [Int.toNat_natCast, List.getElem?_eq_getElem hl]; rfl
theorem textR_no {l : List Nod} (h : ¬ RightN l) : TextR l [] 1 := ⟨fun e => absurd e (by decide), fun _ => ⟨rfl, fun hr => absurd hr h⟩⟩
theorem textR_bad {l : List Nod} {x : Nat × Int} (h : readB l (rootB l) = .error x) : TextR l [] 1 := ⟨fun e => absurd e (by decide), fun _ => ⟨rfl, fun _ back hb => by rw [h] at hb; cases hb⟩⟩
theorem textR_ne {l back : List Nod} (h : readB l (rootB l) = .ok back) (hk : back.map keyN ≠ l.map keyN) : TextR l [] 1 := ⟨fun e => absurd e (by decide), fun _ => ⟨rfl, fun _ b hb => by rw [h] at hb; injection hb with hb; subst hb; exact hk⟩⟩
theorem textR_ok {l back : List Nod} (hr : RightN l) (h : readB l (rootB l) = .ok back) (hk : back.map keyN = l.map keyN) : TextR l (rootB l) 0 := ⟨fun _ => ⟨hr, rfl, back, h, hk⟩, fun e => absurd rfl e⟩
attribute [local irreducible] AC AT AO AK AH ACalls ACallsX ACallsD Sub Res.cells Res.obj Res.nix Res.own Res.map Exit.then Exit.inBlock Exit.noGoto bodyPost bodyPostD Code.wp Code.wpIn WL Next Post PostX Kont
attribute [local irreducible] exprB fileB rootB readB
section
variable {W0 : World} {L : List Res} {F : List Fact} {R : Value → List Res → List Fact → Prop}
set_option maxRecDepth 100000
set_option maxHeartbeats 4000000
theorem writeText_c (g : ScanG W0 F) (mN : fNo ∈ F) (l : List Nod) (hl : RightN l → ownAll l ≤ 100000000 ∧ (∀ n ∈ l, n.text.length ≤ 1000000) ∧ (rootB l).length ≤ 100000) {a : Option Addr} {k c : Nat} (mL : fNod l a k c ∈ F) (h : ∀ s e, TextR l s e → R (.tuple #[S s, .int .i64 e]) L F) :
    ACalls Tryz.prog W0 7 #[.slice a k c] L F R := by
  refine Gn Tryz.func7 HQ Tryz.ntmps7 HQ ?_
  refine qs 10 ?_
  refine Gb (Gi HQ HQ (right_c l memA (fun c11 => ?_) (fun c11 => ?_)))
  ·refine qs 9 ?_
   have hR : RightN l := c11
   obtain ⟨h1, h2, h3⟩ := hl hR
   obtain ⟨hlt, hkd⟩ := root_kind hR
   have hcast : ((l.length : Int) - 1) = ((l.length - 1 : Nat) : Int) := by omega
   refine Gb (Hr HQ HQ (fun hl14 => ?_) (enc := eNod) (lst := l) (hm := memA))
   refine Gb (AO.sub HQ HQ HQ HS HS ?_)
   rw [hcast]
   refine qs 8 ?_
   refine Gb (Gi HQ HQ (text_c l hR h1 h2 hlt memA ?_))
   rw [show txtB l (l.length - 1) = rootB l from by unfold rootB; rfl]
   refine qs 13 ?_
   refine Gb (Hg (k := l.length - 1) HQ HQ HQ HQ (enc := eNod) (lst := l) memA hlt (fun _ _ => ?_))
   refine Gb (AO.fieldAt HQ HQ (fun _ => ?_))
   refine Gb (HN HQ HQ ?_)
   intros
   refine Gb (GA HQ HQ HQ (fun c25 => ?_) (fun c25 => ?_))
   ·refine qs 12 ?_
    have hrd := readB_file (l := l) (by rw [hkd]; exact c25) (rootB l)
    refine Gb (AO.callC HQ HQ HQ (file_c (g.more (fun x hx => by repeat (first | exact hx | refine List.mem_cons_of_mem _ ?_))) memA (rootB l) h3 (fun back hB a29 k29 c29 => ?_) (fun i e hB => ?_)))
    all_goals rw [← hrd] at hB
    ·refine qs 12 ?_
     refine Gb (Hw HQ HQ HQ (fun c34 => ?_) (fun c34 => ?_))
     ·refine qs 17 ?_
      first | (have hB' := hB; rw [hrd] at hB'; first | exact absurd c34 (HH hB') | exact absurd c34 (HI hB')) | exact GW (L' := L) (F' := F) Tryz.results7 rfl rfl subA (h _ _ (textR_bad hB)) | exact GW (L' := L) (F' := F) Tryz.results7 rfl rfl subA (h _ _ (textR_ne hB c38)) | exact GW (L' := L) (F' := F) Tryz.results7 rfl rfl subA (h _ _ (textR_ok hR hB c38)) | exact absurd rfl c34
     refine qs 3 ?_
     refine Gr HQ HQ (Gi HQ HQ (alike_c back l memA memA (fun c38 => ?_) (fun c38 => ?_)))
     ·refine qs 15 ?_
      first | (have hB' := hB; rw [hrd] at hB'; first | exact absurd c34 (HH hB') | exact absurd c34 (HI hB')) | exact GW (L' := L) (F' := F) Tryz.results7 rfl rfl subA (h _ _ (textR_bad hB)) | exact GW (L' := L) (F' := F) Tryz.results7 rfl rfl subA (h _ _ (textR_ne hB c38)) | exact GW (L' := L) (F' := F) Tryz.results7 rfl rfl subA (h _ _ (textR_ok hR hB c38)) | exact absurd rfl c34
     refine qs 13 ?_
     first | (have hB' := hB; rw [hrd] at hB'; first | exact absurd c34 (HH hB') | exact absurd c34 (HI hB')) | exact GW (L' := L) (F' := F) Tryz.results7 rfl rfl subA (h _ _ (textR_bad hB)) | exact GW (L' := L) (F' := F) Tryz.results7 rfl rfl subA (h _ _ (textR_ne hB c38)) | exact GW (L' := L) (F' := F) Tryz.results7 rfl rfl subA (h _ _ (textR_ok hR hB c38)) | exact absurd rfl c34
    refine qs 12 ?_
    refine Gb (Hw HQ HQ HQ (fun c34 => ?_) (fun c34 => ?_))
    ·refine qs 17 ?_
     first | (have hB' := hB; rw [hrd] at hB'; first | exact absurd c34 (HH hB') | exact absurd c34 (HI hB')) | exact GW (L' := L) (F' := F) Tryz.results7 rfl rfl subA (h _ _ (textR_bad hB)) | exact GW (L' := L) (F' := F) Tryz.results7 rfl rfl subA (h _ _ (textR_ne hB c38)) | exact GW (L' := L) (F' := F) Tryz.results7 rfl rfl subA (h _ _ (textR_ok hR hB c38)) | exact absurd rfl c34
    refine qs 3 ?_
    rw [hrd] at hB
    exact (show False from by first | exact HH hB c34 | exact HI hB c34).elim
   refine qs 10 ?_
   have hrd := readB_expr (l := l) (by rw [hkd]; exact c25) (rootB l)
   refine Gb (AO.callC HQ HQ HQ (expr_c (g.more (fun x hx => by repeat (first | exact hx | refine List.mem_cons_of_mem _ ?_))) memA (rootB l) h3 (fun back hB a29 k29 c29 => ?_) (fun i e hB => ?_)))
   all_goals rw [← hrd] at hB
   ·refine qs 12 ?_
    refine Gb (Hw HQ HQ HQ (fun c34 => ?_) (fun c34 => ?_))
    ·refine qs 17 ?_
     first | (have hB' := hB; rw [hrd] at hB'; first | exact absurd c34 (HH hB') | exact absurd c34 (HI hB')) | exact GW (L' := L) (F' := F) Tryz.results7 rfl rfl subA (h _ _ (textR_bad hB)) | exact GW (L' := L) (F' := F) Tryz.results7 rfl rfl subA (h _ _ (textR_ne hB c38)) | exact GW (L' := L) (F' := F) Tryz.results7 rfl rfl subA (h _ _ (textR_ok hR hB c38)) | exact absurd rfl c34
    refine qs 3 ?_
    refine Gr HQ HQ (Gi HQ HQ (alike_c back l memA memA (fun c38 => ?_) (fun c38 => ?_)))
    ·refine qs 15 ?_
     first | (have hB' := hB; rw [hrd] at hB'; first | exact absurd c34 (HH hB') | exact absurd c34 (HI hB')) | exact GW (L' := L) (F' := F) Tryz.results7 rfl rfl subA (h _ _ (textR_bad hB)) | exact GW (L' := L) (F' := F) Tryz.results7 rfl rfl subA (h _ _ (textR_ne hB c38)) | exact GW (L' := L) (F' := F) Tryz.results7 rfl rfl subA (h _ _ (textR_ok hR hB c38)) | exact absurd rfl c34
    refine qs 13 ?_
    first | (have hB' := hB; rw [hrd] at hB'; first | exact absurd c34 (HH hB') | exact absurd c34 (HI hB')) | exact GW (L' := L) (F' := F) Tryz.results7 rfl rfl subA (h _ _ (textR_bad hB)) | exact GW (L' := L) (F' := F) Tryz.results7 rfl rfl subA (h _ _ (textR_ne hB c38)) | exact GW (L' := L) (F' := F) Tryz.results7 rfl rfl subA (h _ _ (textR_ok hR hB c38)) | exact absurd rfl c34
   refine qs 12 ?_
   refine Gb (Hw HQ HQ HQ (fun c34 => ?_) (fun c34 => ?_))
   ·refine qs 17 ?_
    first | (have hB' := hB; rw [hrd] at hB'; first | exact absurd c34 (HH hB') | exact absurd c34 (HI hB')) | exact GW (L' := L) (F' := F) Tryz.results7 rfl rfl subA (h _ _ (textR_bad hB)) | exact GW (L' := L) (F' := F) Tryz.results7 rfl rfl subA (h _ _ (textR_ne hB c38)) | exact GW (L' := L) (F' := F) Tryz.results7 rfl rfl subA (h _ _ (textR_ok hR hB c38)) | exact absurd rfl c34
   refine qs 3 ?_
   rw [hrd] at hB
   exact (show False from by first | exact HH hB c34 | exact HI hB c34).elim
  refine qs 12 ?_
  exact GW (L' := L) (F' := F) Tryz.results7 rfl rfl subA (h [] 1 (textR_no c11))
theorem alive_c (g : ScanG W0 F) (mN : fNo ∈ F) (h : R (.bool true) L F) : ACalls Tryz.prog W0 9 #[] L F R := by
  refine Gn Tryz.func9 HQ Tryz.ntmps9 HQ ?_
  refine qs 7 ?_
  refine Gb (Gi HQ HQ (expr_c g mN aliveS (by decide) (fun l hl a7 k7 c7 => ?_) (fun i e hl => by rw [aliveW_eq] at hl; cases hl)))
  obtain rfl : aliveW = l := by rw [aliveW_eq] at hl; injection hl
  refine qs 12 ?_
  refine Gb (Gi HQ HQ (writeText_c (g.more (fun x hx => memS hx)) (memS mN) aliveW (fun _ => ⟨by have := alive_own.1; omega, fun n hn => by have := alive_own.2 n hn; omega, by rw [alive_root]; decide⟩) memA (fun s e hT => ?_)))
  obtain ⟨e1, e2⟩ := alive_text hT
  subst e1 e2
  refine qs 10 ?_
  refine Gb (GA HQ HQ HQ (fun c17 => ?_) (fun c17 => ?_))
  ·refine qs 2 ?_
   refine Gr HQ HQ (GA HQ HQ HQ (fun c20 => ?_) (fun c20 => ?_))
   ·refine qs 3 ?_
    refine Gr HQ HQ (AO.eqlS HQ HQ HQ (fun c24 => ?_) (fun c24 => ?_))
    ·refine qs 5 ?_
     first | exact Gg (L' := L) (F' := F) Tryz.results9 rfl subF h | exact absurd rfl c17 | exact absurd rfl c20 | exact absurd rfl c24
    refine qs 5 ?_
    first | exact Gg (L' := L) (F' := F) Tryz.results9 rfl subF h | exact absurd rfl c17 | exact absurd rfl c20 | exact absurd rfl c24
   refine qs 9 ?_
   first | exact Gg (L' := L) (F' := F) Tryz.results9 rfl subF h | exact absurd rfl c17 | exact absurd rfl c20 | exact absurd rfl c24
  refine qs 12 ?_
  first | exact Gg (L' := L) (F' := F) Tryz.results9 rfl subF h | exact absurd rfl c17 | exact absurd rfl c20 | exact absurd rfl c24
end
end Go.Sy
namespace Go.Sy
abbrev HP := @writeText_c
end Go.Sy
namespace Go.Sy
open Go
def J (s : PS) : Prop := ∀ nd ∈ s.nodes, nd.tn ≤ s.i
def Mp {α : Type} (s : PS) (r : PR α) : Prop := ∀ a s', r = .ok (a, s') → s.i ≤ s'.i ∧ (J s → J s')
def M0 {α : Type} (b : Nat) (m : PM α) : Prop := ∀ s : PS, b ≤ s.i → Mp s (m s)
section
variable {α β : Type} {K : List Tk} {b : Nat} {s : PS}
theorem J.up {i : Nat} (h : J s) (hi : s.i ≤ i) : ∀ nd ∈ s.nodes, nd.tn ≤ i := fun nd hn => Nat.le_trans (h nd hn) hi
theorem Mp.next {r : PR α} (h : Mp s.next r) : Mp s r := fun a s' e => by
  obtain ⟨h1, h2⟩ := h a s' e
  exact ⟨Nat.le_trans (Nat.le_succ _) h1, fun hj => h2 (fun nd hn => Nat.le_trans (hj nd hn) (Nat.le_succ _))⟩
theorem Mp.ok {a : α} : Mp s (.ok (a, s)) := fun a s' e => by injection e with e; injection e with _ e; subst e; exact ⟨Nat.le_refl _, id⟩
theorem Mp.err {e : Nat × Int} : Mp (α := α) s (.error e) := fun a s' e => by cases e
theorem Mp.bind {m : PM α} {f : α → PM β} (h : Mp s (m s)) (hf : ∀ a, M0 s.i (f a)) : Mp s (m.bind f s) := fun c s' e => by
  unfold PM.bind at e
  cases hm : m s with
  | error x => rw [hm] at e; cases e
  | ok p =>
    obtain ⟨a, s1⟩ := p
    rw [hm] at e
    obtain ⟨h1, h2⟩ := h a s1 hm
    obtain ⟨h3, h4⟩ := hf a s1 h1 c s' e
    exact ⟨Nat.le_trans h1 h3, fun hj => h4 (h2 hj)⟩
theorem M0.mono {b' : Nat} {m : PM α} (h : M0 b m) (hb : b ≤ b') : M0 b' m := fun s hs => h s (Nat.le_trans hb hs)
theorem M0.bind {m : PM α} {f : α → PM β} (h : M0 b m) (hf : ∀ a, M0 b (f a)) : M0 b (m.bind f) := fun s hs => Mp.bind (h s hs) (fun a => (hf a).mono hs)
theorem M0.ret {a : α} : M0 b (PM.ret a) := fun _ _ => Mp.ok
theorem M0.pif {x : List Bs} {m1 m2 : PM α} (h1 : M0 b m1) (h2 : M0 b m2) : M0 b (pif K x m1 m2) := fun s hs => by
  unfold Go.Sy.pif
  split
  · exact h1 s hs
  exact h2 s hs
theorem M0.of {k : Int} : M0 b (pof K k) := fun s _ => by
  unfold pof; split
  · exact Mp.next Mp.ok
  exact Mp.err
theorem M0.node {kind : Int} {text : Bs} {tn : Nat} {kids : List Int} (h : tn ≤ b) : M0 b (pnode kind text tn kids) := fun s hs => by
  unfold pnode; split
  · exact Mp.err
  intro a s' e
  injection e with e; injection e with _ e; subst e
  refine ⟨Nat.le_refl _, fun hj nd hn => ?_⟩
  rcases List.mem_append.1 hn with q | q
  · exact hj nd q
  simp at q; subst q; exact Nat.le_trans h hs
theorem M0.none : M0 b pnone := fun s _ => M0.node (Nat.le_refl s.i) s (Nat.le_refl _)
structure RecM (r : Rec) : Prop where
  typ : M0 0 r.typ
  union : M0 0 r.union
  expr : ∀ n, M0 0 (r.expr n)
  unary : M0 0 r.unary
variable {r : Rec}
theorem RecM.t (h : RecM r) : M0 b r.typ := h.typ.mono (Nat.zero_le _)
theorem RecM.u (h : RecM r) : M0 b r.union := h.union.mono (Nat.zero_le _)
theorem RecM.e (h : RecM r) {n : Nat} : M0 b (r.expr n) := (h.expr n).mono (Nat.zero_le _)
theorem RecM.y (h : RecM r) : M0 b r.unary := h.unary.mono (Nat.zero_le _)
end
end Go.Sy
namespace Go.Sy
open Go
theorem checkF_shift (d : Nat) : ∀ (f1 f2 : Nat) (s : Bs) (p : Nat), s.length ≤ f1 → s.length ≤ f2 → checkF f1 s (p + d) = (checkF f2 s p).map (· + d)
  | 0, f2, s, p, h1, _ => by
    have : s = [] := List.eq_nil_of_length_eq_zero HS
    subst this
    cases f2 <;> rfl
  | f1 + 1, 0, s, p, _, h2 => by
    have : s = [] := List.eq_nil_of_length_eq_zero HS
    subst this; rfl
  | f1 + 1, f2 + 1, s, p, h1, h2 => by
    unfold checkF
    split
    · rfl
    rename_i hs
    split
    · rfl
    split
    · rfl
    have := decS_pos s
    have e : p + d + (decS s).2 = p + (decS s).2 + d := by omega
    rw [e]
    exact checkF_shift d f1 f2 _ _ (by rw [List.length_drop]; omega) (by rw [List.length_drop]; omega)
section
variable {s : Bs}
end
end Go.Sy
namespace Go.Sy
open Go
abbrev keyD (n : Nd) : Int × Bs × List Int := (n.kind, n.text, n.kids)
structure Eqv (σ s : PS) : Prop where
  nodes : σ.nodes.map keyD = s.nodes.map keyD
  deep : σ.deep = s.deep
theorem Eqv.len {σ s : PS} (h : Eqv σ s) : σ.nodes.length = s.nodes.length := by
  have := congrArg List.length h.nodes
  simpa using this
def stopT (t : Tk) : Bool := t.1 == 0 || isB t [[44], [93], [41], [125], [59], [10]]
def Nx (t : Tk) (rest : List Tk) : Prop := ∃ t' r, rest = t' :: r ∧ (t' = t ∨ (stopT t = true ∧ stopT t' = true))
theorem Nx.same {t : Tk} {r : List Tk} : Nx t (t :: r) := ⟨t, r, rfl, .inl rfl⟩
def cost (l : List Tk) : Nat := (l.map fun t => t.2.length + 1).sum
theorem cost_nil : cost [] = 0 := rfl
theorem cost_cons (t : Tk) (l : List Tk) : cost (t :: l) = t.2.length + 1 + cost l := by unfold cost; simp
theorem cost_app (l m : List Tk) : cost (l ++ m) = cost l + cost m := by unfold cost; simp
def cum (K : List Tk) (i : Nat) : Nat := cost (K.take i)
section
variable {K K2 : List Tk} {α β : Type}
theorem tkAt_drop {K : List Tk} {i : Nat} {t : Tk} {r : List Tk} (h : K.drop i = t :: r) : tkAt K i = t ∧ K.drop (i + 1) = r ∧ i < K.length := by
  have hl : i < K.length := by
    rcases Nat.lt_or_ge i K.length with q | q
    · exact q
    rw [List.drop_of_length_le q] at h; cases h
  rw [List.drop_eq_getElem_cons hl] at h
  injection h with h1 h2
  refine ⟨?_, h2, hl⟩
  unfold tkAt
  rw [List.getD_eq_getElem?_getD, List.getElem?_eq_getElem hl]; exact h1
theorem tk_lt {K : List Tk} {i : Nat} (h : (tkAt K i).1 ≠ 0) : i < K.length := by
  rcases Nat.lt_or_ge i K.length with q | q
  · exact q
  unfold tkAt at h
  rw [List.getD_eq_getElem?_getD, List.getElem?_eq_none q] at h
  exact absurd rfl h
theorem tk_mem {K : List Tk} {i : Nat} (h : (tkAt K i).1 ≠ 0) : tkAt K i ∈ K := by
  have := tk_lt h
  unfold tkAt
  rw [List.getD_eq_getElem?_getD, List.getElem?_eq_getElem this]; exact List.getElem_mem this
theorem cum_next {K : List Tk} {i : Nat} (h : i < K.length) : cum K (i + 1) = cum K i + ((tkAt K i).2.length + 1) := by
  unfold cum
  rw [List.take_succ_eq_append_getElem h, cost_app, cost_cons, cost_nil]
  unfold tkAt
  rw [List.getD_eq_getElem?_getD, List.getElem?_eq_getElem h]; rfl
theorem cum_mono {K : List Tk} {i : Nat} : ∀ {j : Nat}, i ≤ j → cum K i ≤ cum K j
  | 0, h => by have : i = 0 := by omega
               subst this; exact Nat.le_refl _
  | j + 1, h => by
    rcases Nat.lt_or_ge i (j + 1) with q | q
    · refine Nat.le_trans (cum_mono (j := j) HS) ?_
      rcases Nat.lt_or_ge j K.length with p | p
      · rw [cum_next p]; omega
      unfold cum; rw [List.take_of_length_le p, List.take_of_length_le HS]; exact Nat.le_refl _
    have : i = j + 1 := by omega
    subst this; exact Nat.le_refl _
structure Src (K : List Tk) (s s' : PS) (ts : List Tk) : Prop where
  pre : ∃ new, s'.nodes = s.nodes ++ new
  look : ∀ rest, Nx (s'.tok K) rest → Nx (s.tok K) (ts ++ rest)
  cost : cost ts + cum K s.i ≤ cum K s'.i
  cnt : ts.length + s.i ≤ s'.i
def Run (K2 : List Tk) (N : List Tk → Prop) (m : PM α) (s : PS) (a : α) (s' : PS) (ts : List Tk) : Prop :=
  ∀ rest σ, K2.drop σ.i = ts ++ rest → N rest → Eqv σ s → ∃ σ', m σ = .ok (a, σ') ∧ K2.drop σ'.i = rest ∧ Eqv σ' s'
structure Sim (K K2 : List Tk) (m : PM α) (s : PS) (a : α) (s' : PS) (ts : List Tk) : Prop where
  src : Src K s s' ts
  run : Run K2 (Nx (s'.tok K)) m s a s' ts
theorem Src.nil {s : PS} : Src K s s [] := ⟨⟨[], by simp⟩, fun _ h => h, by simp [cost_nil], by simp⟩
theorem Src.trans {s s1 s2 : PS} {t1 t2 : List Tk} (h : Src K s s1 t1) (k : Src K s1 s2 t2) : Src K s s2 (t1 ++ t2) := by
  refine ⟨?_, fun rest hr => ?_, ?_, ?_⟩
  · obtain ⟨n1, e1⟩ := h.pre
    obtain ⟨n2, e2⟩ := k.pre
    exact ⟨n1 ++ n2, by rw [e2, e1, List.append_assoc]⟩
  · rw [List.append_assoc]; exact h.look _ (k.look _ hr)
  · have := h.cost; have := k.cost; rw [cost_app]; omega
  have := h.cnt; have := k.cnt; rw [List.length_append]; omega
theorem Src.tok {s : PS} (h : (s.tok K).1 ≠ 0) : Src K s s.next [s.tok K] := by
  have hl := tk_lt h
  refine ⟨⟨[], by simp⟩, fun rest _ => Nx.same, ?_, ?_⟩
  · rw [cost_cons, cost_nil]
    have := cum_next hl
    show _ ≤ cum K (s.i + 1)
    have e : s.tok K = tkAt K s.i := rfl
    rw [e]; omega
  show 1 + s.i ≤ s.i + 1; omega
theorem Src.tok' {s : PS} {t : Tk} (h : (s.tok K).1 ≠ 0) (ht : stopT (s.tok K) = true) (ht2 : stopT t = true) (hl : t.2.length ≤ (s.tok K).2.length) : Src K s s.next [t] := by
  have k := Src.tok (K := K) h
  refine ⟨k.pre, fun rest _ => ⟨t, rest, rfl, .inr ⟨ht, ht2⟩⟩, ?_, k.cnt⟩
  have := k.cost
  rw [cost_cons, cost_nil] at this ⊢
  omega
theorem Src.skip {s s' : PS} (h : s.i ≤ s'.i) (hn : ∃ new, s'.nodes = s.nodes ++ new) (hl : ∀ rest, Nx (s'.tok K) rest → Nx (s.tok K) rest) : Src K s s' [] := by
  refine ⟨hn, hl, ?_, by simpa using h⟩
  have := cum_mono (K := K) h
  rw [cost_nil]; omega
theorem Src.node {s : PS} (nd : Nd) : Src K s { s with nodes := s.nodes ++ [nd] } [] :=
  ⟨⟨[nd], rfl⟩, fun _ h => h, by simp [cost_nil], by simp⟩
theorem Run.mono {N N' : List Tk → Prop} {m : PM α} {s s' : PS} {a : α} {ts : List Tk} (h : Run K2 N m s a s' ts) (hN : ∀ r, N' r → N r) : Run K2 N' m s a s' ts :=
  fun rest σ hd hn he => h rest σ hd (hN _ hn) he
theorem Run.len {N : List Tk → Prop} {m : PM α} {s s' : PS} {a : α} {ts : List Tk} (h : ts.length ≤ K2.length → Run K2 N m s a s' ts) : Run K2 N m s a s' ts := fun rest σ hd hn he => by
  refine h ?_ rest σ hd hn he
  have := congrArg List.length hd
  simp only [List.length_drop, List.length_append] at this
  omega
theorem Run.bind {N : List Tk → Prop} {m : PM α} {f : α → PM β} {s s1 s2 : PS} {a : α} {b : β} {t1 t2 : List Tk} (h : Run K2 (fun r => ∃ r', r = t2 ++ r' ∧ N r') m s a s1 t1) (k : Run K2 N (f a) s1 b s2 t2) : Run K2 N (m.bind f) s b s2 (t1 ++ t2) := by
  intro rest σ hd hn he
  rw [List.append_assoc] at hd
  obtain ⟨σ1, e1, d1, q1⟩ := h (t2 ++ rest) σ hd ⟨rest, rfl, hn⟩ he
  obtain ⟨σ2, e2, d2, q2⟩ := k rest σ1 d1 hn q1
  exact ⟨σ2, by unfold PM.bind; rw [e1]; exact e2, d2, q2⟩
theorem Run.at {N : List Tk → Prop} {F : Nat → PM α} {s s' : PS} {a : α} {ts : List Tk} (h : ∀ i, Run K2 N (F i) s a s' ts) : Run K2 N (fun σ => F σ.i σ) s a s' ts := fun rest σ hd hn he => h σ.i rest σ hd hn he
theorem Sim.ret {s : PS} {a : α} : Sim K K2 (PM.ret a) s a s [] := ⟨Src.nil, fun _ σ hd _ he => ⟨σ, rfl, hd, he⟩⟩
theorem Sim.bind {m : PM α} {f : α → PM β} {s s1 s2 : PS} {a : α} {b : β} {t1 t2 : List Tk} (h : Sim K K2 m s a s1 t1) (k : Sim K K2 (f a) s1 b s2 t2) : Sim K K2 (m.bind f) s b s2 (t1 ++ t2) :=
  ⟨h.src.trans k.src, Run.bind (h.run.mono fun r ⟨r', e, hn⟩ => by subst e; exact k.src.look _ hn) k.run⟩
theorem Sim.at {F : Nat → PM α} {s s' : PS} {a : α} {ts : List Tk} (h : ∀ i, Sim K K2 (F i) s a s' ts) : Sim K K2 (fun σ => F σ.i σ) s a s' ts := ⟨(h 0).src, Run.at fun i => (h i).run⟩
theorem Sim.of {k : Int} {s : PS} (h : (s.tok K).1 = k) (hk : k ≠ 0) : Sim K K2 (pof K2 k) s (s.tok K).2 s.next [s.tok K] := by
  refine ⟨Src.tok (by rw [h]; exact hk), fun rest σ hd _ he => ?_⟩
  obtain ⟨d1, d2, _⟩ := tkAt_drop hd
  have e : σ.tok K2 = s.tok K := d1
  exact ⟨σ.next, by unfold pof; rw [e, if_pos h], d2, he.nodes, he.deep⟩
theorem Sim.whenT {x : Bs} {m1 m2 : PM α} {s s' : PS} {a : α} {ts : List Tk} (hb : isB (s.tok K) [x] = true) (h : Sim K K2 m1 s.next a s' ts) : Sim K K2 (pwhen K2 x m1 m2) s a s' (s.tok K :: ts) := by
  refine ⟨(Src.tok (GS hb)).trans h.src, fun rest σ hd hn he => ?_⟩
  obtain ⟨d1, d2, _⟩ := tkAt_drop hd
  have e : σ.tok K2 = s.tok K := d1
  obtain ⟨σ', e1, d, q⟩ := h.run rest σ.next d2 hn ⟨he.nodes, he.deep⟩
  exact ⟨σ', by unfold pwhen; rw [e, if_pos hb]; exact e1, d, q⟩
theorem stop_no {t : Tk} {x : List Bs} (hx : ∀ y ∈ x, y ∉ ([[44], [93], [41], [125], [59], [10]] : List Bs)) (h : stopT t = true) : isB t x = false := by
  cases hb : isB t x with
  | false => rfl
  | true =>
    exfalso
    unfold stopT isB at *
    simp only [Bool.or_eq_true, Bool.and_eq_true, beq_iff_eq, List.contains_iff_mem] at h hb
    rcases h with h | h
    · omega
    exact hx _ hb.2 h.2
theorem Nx.is {t : Tk} {rest : List Tk} {i : Nat} {x : List Bs} (hn : Nx t rest) (hd : K2.drop i = rest) (hx : ∀ y ∈ x, y ∉ ([[44], [93], [41], [125], [59], [10]] : List Bs)) : isB (tkAt K2 i) x = isB t x := by
  obtain ⟨t', r, e, h⟩ := hn
  subst e
  obtain ⟨d1, _, _⟩ := tkAt_drop hd
  rw [d1]
  rcases h with h | ⟨h1, h2⟩
  · rw [h]
  rw [stop_no hx h1, stop_no hx h2]
theorem Nx.kind {t : Tk} {rest : List Tk} {i : Nat} {k : Int} (hn : Nx t rest) (hd : K2.drop i = rest) (hk : 1 ≤ k ∧ k ≤ 5) : (tkAt K2 i).1 = k ↔ t.1 = k := by
  obtain ⟨t', r, e, h⟩ := hn
  subst e
  obtain ⟨d1, _, _⟩ := tkAt_drop hd
  rw [d1]
  rcases h with h | ⟨h1, h2⟩
  · rw [h]
  have : ∀ u : Tk, stopT u = true → u.1 ≠ k := fun u hu => by
    unfold stopT isB at hu
    simp only [Bool.or_eq_true, Bool.and_eq_true, beq_iff_eq] at hu
    omega
  exact ⟨fun q => absurd q (this _ h2), fun q => absurd q (this _ h1)⟩
theorem Sim.iteF {c : Tk → Prop} [DecidablePred c] {m1 m2 : PM α} {s s' : PS} {a : α} {ts : List Tk} (hc : ¬ c (s.tok K)) (hs : ∀ t, stopT t = true → ¬ c t) (h : Sim K K2 m2 s a s' ts) : Sim K K2 (fun σ => if c (σ.tok K2) then m1 σ else m2 σ) s a s' ts := by
  refine ⟨h.src, fun rest σ hd hn he => ?_⟩
  obtain ⟨t', r, e, hh⟩ := h.src.look rest hn
  have d1 : σ.tok K2 = t' := by rw [← hd] at e; exact (tkAt_drop e).1
  obtain ⟨σ', e1, d, q⟩ := h.run rest σ hd hn he
  refine ⟨σ', ?_, d, q⟩
  rw [if_neg]
  · exact e1
  rw [d1]
  rcases hh with hh | ⟨_, h2⟩
  · rw [hh]; exact hc
  exact hs _ h2
theorem Sim.iteT {c : Tk → Prop} [DecidablePred c] {m1 m2 : PM α} {s s' : PS} {a : α} {ts ts' : List Tk} (hc : c (s.tok K)) (ht : ts = s.tok K :: ts') (h : Sim K K2 m1 s a s' ts) : Sim K K2 (fun σ => if c (σ.tok K2) then m1 σ else m2 σ) s a s' ts := by
  refine ⟨h.src, fun rest σ hd hn he => ?_⟩
  have d1 : σ.tok K2 = s.tok K := (tkAt_drop (by rw [hd, ht]; rfl)).1
  obtain ⟨σ', e1, d, q⟩ := h.run rest σ hd hn he
  exact ⟨σ', by rw [if_pos (by rw [d1]; exact hc)]; exact e1, d, q⟩
theorem Sim.iteF' {c : Tk → Prop} [DecidablePred c] {m1 m2 : PM α} {s s' : PS} {a : α} {ts ts' : List Tk} (hc : ¬ c (s.tok K)) (ht : ts = s.tok K :: ts') (h : Sim K K2 m2 s a s' ts) : Sim K K2 (fun σ => if c (σ.tok K2) then m1 σ else m2 σ) s a s' ts := by
  refine ⟨h.src, fun rest σ hd hn he => ?_⟩
  have d1 : σ.tok K2 = s.tok K := (tkAt_drop (by rw [hd, ht]; rfl)).1
  obtain ⟨σ', e1, d, q⟩ := h.run rest σ hd hn he
  exact ⟨σ', by rw [if_neg (by rw [d1]; exact hc)]; exact e1, d, q⟩
theorem Sim.whenF {x : Bs} {m1 m2 : PM α} {s s' : PS} {a : α} {ts : List Tk} (hb : isB (s.tok K) [x] = false) (hx : x ∉ ([[44], [93], [41], [125], [59], [10]] : List Bs)) (h : Sim K K2 m2 s a s' ts) : Sim K K2 (pwhen K2 x m1 m2) s a s' ts := by
  refine ⟨h.src, fun rest σ hd hn he => ?_⟩
  have e : isB (σ.tok K2) [x] = isB (s.tok K) [x] := (h.src.look rest hn).is hd (by intro y hy; simp at hy; subst hy; exact hx)
  obtain ⟨σ', e1, d, q⟩ := h.run rest σ hd hn he
  exact ⟨σ', by unfold pwhen; rw [e, hb]; exact e1, d, q⟩
theorem Sim.whenF' {x : Bs} {m1 m2 : PM α} {s s' : PS} {a : α} {ts ts' : List Tk} (hb : isB (s.tok K) [x] = false) (ht : ts = s.tok K :: ts') (h : Sim K K2 m2 s a s' ts) : Sim K K2 (pwhen K2 x m1 m2) s a s' ts := by
  refine ⟨h.src, fun rest σ hd hn he => ?_⟩
  have d1 : σ.tok K2 = s.tok K := (tkAt_drop (by rw [hd, ht]; rfl)).1
  obtain ⟨σ', e1, d, q⟩ := h.run rest σ hd hn he
  exact ⟨σ', by unfold pwhen; rw [d1, hb]; exact e1, d, q⟩
theorem Sim.must {x : Bs} {s : PS} (hb : isB (s.tok K) [x] = true) : Sim K K2 (pmust K2 x) s () s.next [s.tok K] := Sim.whenT hb Sim.ret
theorem Sim.node {kind : Int} {text : Bs} {tn tn2 : Nat} {kids : List Int} {s s' : PS} {v : Int} (h : pnode kind text tn kids s = .ok (v, s')) : Sim K K2 (pnode kind text tn2 kids) s v s' [] := by
  unfold pnode at h
  split at h
  · cases h
  rename_i hl
  injection h with h; injection h with h1 h2
  subst h1 h2
  refine ⟨Src.node _, fun rest σ hd _ he => ⟨{ σ with nodes := σ.nodes ++ [⟨kind, text, kids, tn2⟩] }, ?_, hd, ?_, he.deep⟩⟩
  · unfold pnode; rw [if_neg (by rw [he.len]; exact hl), he.len]
  simp only [List.map_append, he.nodes]; rfl
theorem Sim.none {s s' : PS} {v : Int} (h : pnone s = .ok (v, s')) : Sim K K2 pnone s v s' [] :=
  Sim.at (F := fun i => pnode 0 [] i []) fun _ => Sim.node h
theorem Sim.nested {m m2 : PM Int} {s s' : PS} {v : Int} {ts : List Tk} (h : pnested m s = .ok (v, s')) (hm : ∀ s1, m s.down = .ok (v, s1) → Sim K K2 m2 s.down v s1 ts) : Sim K K2 (pnested m2) s v s' ts := by
  unfold pnested at h
  split at h
  · cases h
  rename_i hd0
  obtain ⟨a, s1, h1, h2⟩ := Gt h
  injection h2 with h2; injection h2 with h2 h3
  subst h2 h3
  have k := hm s1 h1
  refine ⟨⟨k.src.pre, k.src.look, k.src.cost, k.src.cnt⟩, fun rest σ hd hn he => ?_⟩
  obtain ⟨σ', e1, d, q⟩ := k.run rest σ.down hd hn ⟨he.nodes, by show σ.deep + 1 = s.deep + 1; rw [he.deep]⟩
  refine ⟨σ'.up, ?_, d, q.nodes, by show σ'.deep - 1 = s1.deep - 1; rw [q.deep]⟩
  unfold pnested
  rw [if_neg (by rw [he.deep]; exact hd0)]
  unfold PM.bind
  rw [e1]
theorem pof_ok {k : Int} {s s' : PS} {a : Bs} (h : pof K k s = .ok (a, s')) : (s.tok K).1 = k ∧ a = (s.tok K).2 ∧ s' = s.next := by
  unfold pof at h
  split at h
  · rename_i hc; injection h with h; injection h with h1 h2; exact ⟨hc, h1.symm, h2.symm⟩
  cases h
theorem pnode_ok {kind : Int} {text : Bs} {tn : Nat} {kids : List Int} {s s' : PS} {v : Int} (h : pnode kind text tn kids s = .ok (v, s')) : v = (s.nodes.length : Int) ∧ s' = { s with nodes := s.nodes ++ [⟨kind, text, kids, tn⟩] } := by
  unfold pnode at h
  split at h
  · cases h
  injection h with h; injection h with h1 h2; exact ⟨h1.symm, h2.symm⟩
theorem when_ok {x : Bs} {m1 m2 : PM α} {s : PS} {r : PR α} (h : pwhen K x m1 m2 s = r) : (isB (s.tok K) [x] = true ∧ m1 s.next = r) ∨ (isB (s.tok K) [x] = false ∧ m2 s = r) := by
  unfold pwhen at h
  cases hb : isB (s.tok K) [x] <;> rw [hb] at h
  · exact .inr ⟨rfl, h⟩
  exact .inl ⟨rfl, h⟩
theorem ret_ok {s s' : PS} {a b : α} (h : PM.ret a s = .ok (b, s')) : b = a ∧ s' = s := by
  unfold PM.ret at h; injection h with h; injection h with h1 h2; exact ⟨h1.symm, h2.symm⟩
theorem must_ok {x : Bs} {s s' : PS} {u : Unit} (h : pmust K x s = .ok (u, s')) : isB (s.tok K) [x] = true ∧ s' = s.next := by
  rcases when_ok h with ⟨hb, h⟩ | ⟨hb, h⟩
  · exact ⟨hb, (ret_ok h).2⟩
  cases h
theorem semi_ok {s s' : PS} {u : Unit} (h : psemi K s = .ok (u, s')) : semiB (s.tok K) = true ∧ s' = s.next := by
  unfold psemi at h
  split at h
  · rename_i hc; injection h with h; injection h with _ h; exact ⟨hc, h.symm⟩
  cases h
theorem fail_ok {e : Int} {s s' : PS} {a : α} (h : pfail e s = .ok (a, s')) : False := by cases h
end
end Go.Sy
namespace Go.Sy
abbrev GI := @pnode_ok
abbrev GJ := @tkAt_drop
abbrev GV := @when_ok
abbrev Hx := @fail_ok
abbrev HJ := @must_ok
abbrev HL := @ret_ok
end Go.Sy
namespace Go.Sy
open Go
abbrev Pcs := List (Option Tk)
def render : Pcs → Bs
  | [] => []
  | none :: p => 32 :: render p
  | some t :: p => t.2 ++ render p
def toks : Pcs → List Tk
  | [] => []
  | none :: p => toks p
  | some t :: p => t :: toks p
@[simp] theorem render_nil : render [] = [] := rfl
@[simp] theorem render_blank (p : Pcs) : render (none :: p) = 32 :: render p := rfl
@[simp] theorem render_some (t : Tk) (p : Pcs) : render (some t :: p) = t.2 ++ render p := rfl
@[simp] theorem toks_nil : toks [] = [] := rfl
@[simp] theorem toks_blank (p : Pcs) : toks (none :: p) = toks p := rfl
@[simp] theorem toks_some (t : Tk) (p : Pcs) : toks (some t :: p) = t :: toks p := rfl
@[simp] theorem render_app : ∀ (p q : Pcs), render (p ++ q) = render p ++ render q
  | [], q => rfl
  | none :: p, q => by simp [render_app p q]
  | some t :: p, q => by simp [render_app p q]
@[simp] theorem toks_app : ∀ (p q : Pcs), toks (p ++ q) = toks p ++ toks q
  | [], q => rfl
  | none :: p, q => by simp [toks_app p q]
  | some t :: p, q => by simp [toks_app p q]
theorem render_le : ∀ p : Pcs, (render p).length + (toks p).length + (toks p).length ≤ cost (toks p) + p.length
  | [] => by simp [cost_nil]
  | none :: p => by have := render_le p; simp; omega
  | some t :: p => by have := render_le p; simp [cost_cons]; omega
theorem scanF_fuelA : ∀ (f1 f2 : Nat) (s : Bs) (p : Nat) (out : List Tok), s.length < f1 → s.length < f2 → scanF f1 s p out = scanF f2 s p out
  | 0, _, _, _, _, h1, _ => absurd h1 (Nat.not_lt_zero _)
  | _, 0, _, _, _, _, h2 => absurd h2 (Nat.not_lt_zero _)
  | f1 + 1, f2 + 1, s, p, out, h1, h2 => by
    unfold scanF
    by_cases hs : s = []
    · rw [if_pos hs, if_pos hs]
    rw [if_neg hs, if_neg hs]
    have h0 : 0 < s.length := List.length_pos_iff.2 hs
    cases hk : skippedB s with
    | none => rfl
    | some nb =>
      obtain ⟨n, nl⟩ := nb
      simp only
      by_cases hn : 0 < n
      · rw [if_pos hn, if_pos hn]
        exact scanF_fuelA f1 f2 _ _ _ (by rw [List.length_drop]; omega) (by rw [List.length_drop]; omega)
      rw [if_neg hn, if_neg hn]
      cases ht : tokenB s with
      | error e => rfl
      | ok kn =>
        obtain ⟨k, n⟩ := kn
        simp only
        have hp := (tokenB_le hs ht).1
        exact scanF_fuelA f1 f2 _ _ _ (by rw [List.length_drop]; omega) (by rw [List.length_drop]; omega)
def scanA (s : Bs) (pos : Nat) (out : List Tok) : Except (Nat × Int) (List Tok) := scanF (s.length + 1) s pos out
theorem scanA_nil (pos : Nat) (out : List Tok) : scanA [] pos out = if 1500 < (closeB out pos).length then .error (0, 7) else .ok (closeB out pos) := rfl
theorem scanA_skip {s : Bs} {n : Nat} {nl : Bool} (hs : s ≠ []) (h : skippedB s = some (n, nl)) (hn : 0 < n) (pos : Nat) (out : List Tok) : scanA s pos out = scanA (s.drop n) (pos + n) (if (nl && endsB out) = true then out ++ [⟨6, [10], pos⟩] else out) := by
  have h0 : 0 < s.length := List.length_pos_iff.2 hs
  unfold scanA
  rw [scanF, if_neg hs, h]
  simp only
  rw [if_pos hn]
  exact scanF_fuelA _ _ _ _ _ (by rw [List.length_drop]; omega) (by rw [List.length_drop]; omega)
theorem scanA_tok {s : Bs} {k : Int} {n : Nat} {nl : Bool} (hs : s ≠ []) (h : skippedB s = some (0, nl)) (ht : tokenB s = .ok (k, n)) (pos : Nat) (out : List Tok) : scanA s pos out = scanA (s.drop n) (pos + n) (out ++ [⟨k, s.take n, pos⟩]) := by
  have h0 : 0 < s.length := List.length_pos_iff.2 hs
  have hp := (tokenB_le hs ht).1
  unfold scanA
  rw [scanF, if_neg hs, h]
  simp only
  rw [if_neg (Nat.lt_irrefl 0), ht]
  exact scanF_fuelA _ _ _ _ _ (by rw [List.length_drop]; omega) (by rw [List.length_drop]; omega)
def c0 (c : UInt8) : Bool := ([40, 41, 91, 93, 44, 59, 10, 32] : List UInt8).contains c
def C0 : Bs → Prop
  | [] => True
  | c :: _ => c0 c = true
def CD : Bs → Prop
  | [] => True
  | c :: _ => c0 c = true ∨ c = 46
def CW : Bs → Prop
  | [] => True
  | c :: _ => wordC c = false
def CT : Bs → Prop := fun _ => True
theorem c0_cases {c : UInt8} (h : c0 c = true) : c = 40 ∨ c = 41 ∨ c = 91 ∨ c = 93 ∨ c = 44 ∨ c = 59 ∨ c = 10 ∨ c = 32 := by
  unfold c0 at h
  simpa [List.contains_iff_mem] using h
theorem C0.d {s : Bs} (h : C0 s) : CD s := by
  cases s with
  | nil => trivial
  | cons c r => exact .inl h
theorem CD.w {s : Bs} (h : CD s) : CW s := by
  cases s with
  | nil => trivial
  | cons c r =>
    rcases h with h | h
    · rcases c0_cases h with h | h | h | h | h | h | h | h <;> (subst h; show wordC _ = false; rfl)
    subst h; show wordC _ = false; rfl
def Tok1 (t : Tk) (s : Bs) : Prop := tokenB (t.2 ++ s) = .ok (t.1, t.2.length) ∧ skippedB (t.2 ++ s) = some (0, false)
def LxC (C : Bs → Prop) (p : Pcs) : Prop := ∀ s pos out, C s → ∃ T pos', T.map Tok.tk = toks p ∧ scanA (render p ++ s) pos out = scanA s pos' (out ++ T)
theorem LxC.nil {C : Bs → Prop} : LxC C [] := fun s pos out _ => ⟨[], pos, rfl, by simp⟩
theorem LxC.mono {C C' : Bs → Prop} {p : Pcs} (h : LxC C p) (hc : ∀ s, C' s → C s) : LxC C' p := fun s pos out k => h s pos out (hc s k)
theorem LxC.app {C C' : Bs → Prop} {p q : Pcs} (h : LxC C p) (k : LxC C' q) (hc : ∀ s, C' s → C (render q ++ s)) : LxC C' (p ++ q) := by
  intro s pos out hs
  obtain ⟨T1, p1, e1, r1⟩ := h (render q ++ s) pos out (hc s hs)
  obtain ⟨T2, p2, e2, r2⟩ := k s p1 (out ++ T1) hs
  refine ⟨T1 ++ T2, p2, by rw [List.map_append, e1, e2, toks_app], ?_⟩
  rw [render_app, List.append_assoc, r1, r2, List.append_assoc]
theorem LxC.blank : LxC CT [none] := by
  intro s pos out _
  refine ⟨[], pos + 1, rfl, ?_⟩
  have h : skippedB (32 :: s) = some (1, false) := rfl
  have := scanA_skip (by simp) h Nat.one_pos pos out
  simpa using this
theorem LxC.tok {C : Bs → Prop} {t : Tk} (ht : t.2 ≠ []) (h : ∀ s, C s → Tok1 t s) : LxC C [some t] := by
  intro s pos out hs
  obtain ⟨h1, h2⟩ := h s hs
  refine ⟨[⟨t.1, t.2, pos⟩], pos + t.2.length, rfl, ?_⟩
  have hne : t.2 ++ s ≠ [] := by simp [ht]
  have := scanA_tok hne h2 h1 pos out
  simpa using this
theorem scanA_nl {out : List Tok} (h : endsB out = true) (s : Bs) (pos : Nat) : scanA (10 :: s) pos out = scanA s (pos + 1) (out ++ [⟨6, [10], pos⟩]) := by
  have e : skippedB (10 :: s) = some (1, true) := rfl
  have := scanA_skip (by simp) e Nat.one_pos pos out
  rw [this, h]; rfl
theorem opsB_eq : opsB = [[46, 46, 46], [60, 60], [62, 62], [38, 38], [124, 124], [61, 61], [33, 61], [60, 61], [62, 61], [58, 61], [43], [45], [42], [47], [37], [38], [124], [94], [60], [62], [33], [40], [41], [91], [93], [123], [125], [44], [46], [59], [61], [58], [126]] := by decide
theorem keysB_eq : keysB = [[98, 114, 101, 97, 107], [99, 97, 115, 101], [99, 104, 97, 110], [99, 111, 110, 115, 116], [99, 111, 110, 116, 105, 110, 117, 101], [100, 101, 102, 97, 117, 108, 116], [100, 101, 102, 101, 114], [101, 108, 115, 101], [102, 97, 108, 108, 116, 104, 114, 111, 117, 103, 104], [102, 111, 114], [102, 117, 110, 99], [103, 111], [103, 111, 116, 111], [105, 102], [105, 109, 112, 111, 114, 116], [105, 110, 116, 101, 114, 102, 97, 99, 101], [109, 97, 112], [112, 97, 99, 107, 97, 103, 101], [114, 97, 110, 103, 101], [114, 101, 116, 117, 114, 110], [115, 101, 108, 101, 99, 116], [115, 116, 114, 117, 99, 116], [115, 119, 105, 116, 99, 104], [116, 121, 112, 101], [118, 97, 114]] := by decide
theorem op_any {c : UInt8} (h : c ∈ ([40, 41, 91, 93, 123, 125, 126, 42, 43, 45, 94, 44, 59] : List UInt8)) (s : Bs) : Tok1 (6, [c]) s := by
  simp only [List.mem_cons, List.not_mem_nil, or_false] at h
  rcases h with h | h | h | h | h | h | h | h | h | h | h | h | h <;>
    (subst h; refine ⟨?_, rfl⟩; unfold tokenB; rw [opsB_eq]; rfl)
theorem op_not (s : Bs) (h : s.head? ≠ some 61) : Tok1 (6, [33]) s := by
  refine ⟨?_, rfl⟩
  unfold tokenB
  rw [opsB_eq]
  cases s with
  | nil => rfl
  | cons c r =>
    have : c ≠ 61 := by simpa using h
    have e : (61 == c) = false := by simp; exact fun q => this q.symm
    simp [List.find?, List.isPrefixOf, e, show letC 33 = false from rfl, show digC 33 = false from rfl]
theorem op_dot {c : UInt8} {r : Bs} (h : letC c = true) : Tok1 (6, [46]) (c :: r) := by
  have h1 : digC c = false := by
    unfold letC digC at *
    simp only [Bool.or_eq_true, Bool.and_eq_true, decide_eq_true_eq, beq_iff_eq] at h
    simp only [Bool.and_eq_false_iff, decide_eq_false_iff_not]
    omega
  have h2 : (46 == c) = false := by
    have : c ≠ 46 := fun e => by subst e; exact absurd h (by decide)
    simp; exact fun q => this q.symm
  refine ⟨?_, ?_⟩
  · unfold tokenB
    rw [opsB_eq]
    simp [List.find?, List.isPrefixOf, h1, h2, show letC 46 = false from rfl, show digC 46 = false from rfl]
  simp [skippedB, List.isPrefixOf]
theorem op_c0 {o : Bs} (h : o ∈ opsB) (s : Bs) (hs : C0 s) : Tok1 (6, o) s := by
  rw [opsB_eq] at h
  simp only [List.mem_cons, List.not_mem_nil, or_false] at h
  cases s with
  | nil =>
    rcases h with h | h | h | h | h | h | h | h | h | h | h | h | h | h | h | h | h | h | h | h | h | h | h | h | h | h | h | h | h | h | h | h | h <;>
    (subst h; refine ⟨?_, rfl⟩; unfold tokenB; rw [opsB_eq]; rfl)
  | cons c r =>
    have hc := c0_cases hs
    rcases h with h | h | h | h | h | h | h | h | h | h | h | h | h | h | h | h | h | h | h | h | h | h | h | h | h | h | h | h | h | h | h | h | h <;>
    (subst h; rcases hc with hc | hc | hc | hc | hc | hc | hc | hc <;>
    (subst hc; refine ⟨?_, rfl⟩; unfold tokenB; rw [opsB_eq]; rfl))
end Go.Sy
namespace Go.Sy
abbrev GR := @keysB_eq
abbrev GU := @toks_app
abbrev GY := @toks_some
abbrev HK := @toks_blank
end Go.Sy
namespace Go.Sy
open Go
def Vd (x : Bs) : Prop := ∀ f pos, x.length ≤ f → checkF f x pos = none
def Rn (x : Bs) : Prop := (decS x).1 ≠ 0 ∧ ((decS x).1 ≠ 65533 ∨ [239, 191, 189].isPrefixOf x = true)
theorem Vd.nil : Vd [] := fun f pos _ => by cases f <;> rfl
theorem Vd.head {x : Bs} (h : Vd x) (hx : x ≠ []) : Rn x ∧ Vd (x.drop (decS x).2) := by
  have h0 : 0 < x.length := List.length_pos_iff.2 hx
  have hp := decS_pos x
  have key : ∀ f pos, x.length ≤ f + 1 → Rn x ∧ checkF f (x.drop (decS x).2) (pos + (decS x).2) = none := by
    intro f pos hf
    have := h (f + 1) pos hf
    unfold checkF at this
    rw [if_neg hx] at this
    split at this
    · cases this
    rename_i h1
    split at this
    · cases this
    rename_i h2
    refine ⟨⟨h1, ?_⟩, this⟩
    rcases Nat.decEq (decS x).1 65533 with q | q
    · exact .inl q
    right
    cases hb : List.isPrefixOf [239, 191, 189] x with
    | true => rfl
    | false => exact absurd ⟨q, hb⟩ h2
  refine ⟨(key x.length 0 HS).1, fun f pos hf => ?_⟩
  rw [List.length_drop] at hf
  have h1 := h (x.length + f) 0 HS
  -- any start, any fuel
  have h2 := checkF_shift pos f (x.length) (x.drop (decS x).2) 0 (by rw [List.length_drop]; exact hf) (by rw [List.length_drop]; omega)
  rw [Nat.zero_add] at h2
  rw [h2]
  have h3 := (key x.length 0 HS).2
  rw [Nat.zero_add] at h3
  have h4 := checkF_shift (decS x).2 x.length x.length (x.drop (decS x).2) 0 (by rw [List.length_drop]; omega) (by rw [List.length_drop]; omega)
  rw [Nat.zero_add, h3] at h4
  cases hc : checkF x.length (x.drop (decS x).2) 0 with
  | none => rfl
  | some p => rw [hc] at h4; cases h4
theorem Vd.of {x : Bs} (h1 : Rn x) (h2 : Vd (x.drop (decS x).2)) : Vd x := by
  intro f pos hf
  cases f with
  | zero =>
    have : x = [] := List.eq_nil_of_length_eq_zero HS
    subst this; rfl
  | succ f =>
    unfold checkF
    split
    · rfl
    rename_i hx
    have hp := decS_pos x
    rw [if_neg h1.1, if_neg]
    · exact h2 f _ (by rw [List.length_drop]; omega)
    rintro ⟨q1, q2⟩
    rcases h1.2 with q | q
    · exact q q1
    rw [q] at q2; cases q2
theorem getD_appV {x y : Bs} {i : Nat} (h : i < x.length) : (x ++ y).getD i 0 = x.getD i 0 := by
  rw [List.getD_eq_getElem?_getD, List.getD_eq_getElem?_getD, List.getElem?_append_left h]
theorem Rn.size {x : Bs} (hx : x ≠ []) : (decS x).2 ≤ x.length ∧ ∀ j, 0 < j → j < (decS x).2 → 128 ≤ (x.getD j 0).toNat := by
  have h0 : 0 < x.length := List.length_pos_iff.2 hx
  unfold decS Lib.decodeN
  split
  · exact ⟨h0, fun j h1 h2 => by omega⟩
  split
  · rename_i hc
    split
    · refine ⟨by show 2 ≤ _; omega, fun j h1 h2 => ?_⟩
      have : j = 1 := by have : j < 2 := h2; omega
      subst this; omega
    exact ⟨h0, fun j h1 h2 => by have : j < 1 := h2; omega⟩
  split
  · rename_i hc
    split
    · refine ⟨by show 3 ≤ _; omega, fun j h1 h2 => ?_⟩
      have : j < 3 := h2
      rcases (show j = 1 ∨ j = 2 by omega) with q | q <;> (subst q; omega)
    exact ⟨h0, fun j h1 h2 => by have : j < 1 := h2; omega⟩
  split
  · rename_i hc
    split
    · refine ⟨by show 4 ≤ _; omega, fun j h1 h2 => ?_⟩
      have : j < 4 := h2
      rcases (show j = 1 ∨ j = 2 ∨ j = 3 by omega) with q | q | q <;> (subst q; omega)
    exact ⟨h0, fun j h1 h2 => by have : j < 1 := h2; omega⟩
  exact ⟨h0, fun j h1 h2 => by have : j < 1 := h2; omega⟩
theorem decodeN_moreV {n m b0 b1 b2 b3 c1 c2 c3 : Nat} (hm : n ≤ m) (h1 : 1 < n → c1 = b1) (h2 : 2 < n → c2 = b2) (h3 : 3 < n → c3 = b3) (hr : (Lib.decodeN n b0 b1 b2 b3).1 ≠ 65533 ∨ 1 < (Lib.decodeN n b0 b1 b2 b3).2) : Lib.decodeN m b0 c1 c2 c3 = Lib.decodeN n b0 b1 b2 b3 := by
  unfold Lib.decodeN at *
  by_cases hA : b0 < 128
  · rw [if_pos hA, if_pos hA]
  rw [if_neg hA] at hr ⊢
  rw [if_neg hA]
  by_cases hB : b0 / 32 = 6 ∧ (1 < n ∧ b1 / 64 = 2)
  · rw [if_pos hB] at hr ⊢
    rw [h1 hB.2.1, if_pos ⟨hB.1, by omega, hB.2.2⟩]
  rw [if_neg hB] at hr ⊢
  by_cases hC : b0 / 16 = 14 ∧ (1 < n ∧ b1 / 64 = 2) ∧ (2 < n ∧ b2 / 64 = 2)
  · rw [if_pos hC] at hr ⊢
    rw [if_neg HS, h1 hC.2.1.1, h2 hC.2.2.1, if_pos ⟨hC.1, ⟨by omega, hC.2.1.2⟩, by omega, hC.2.2.2⟩]
  rw [if_neg hC] at hr ⊢
  by_cases hD : b0 / 8 = 30 ∧ (1 < n ∧ b1 / 64 = 2) ∧ (2 < n ∧ b2 / 64 = 2) ∧ (3 < n ∧ b3 / 64 = 2)
  · rw [if_pos hD] at hr ⊢
    rw [if_neg HS, if_neg HS, h1 hD.2.1.1, h2 hD.2.2.1.1, h3 hD.2.2.2.1, if_pos ⟨hD.1, ⟨by omega, hD.2.1.2⟩, ⟨by omega, hD.2.2.1.2⟩, by omega, hD.2.2.2.2⟩]
  rw [if_neg hD] at hr
  exfalso
  rcases hr with q | q
  · exact q rfl
  exact absurd q (by decide)
theorem decodeN_lessV {n m b0 b1 b2 b3 c1 c2 c3 : Nat} (_hm : n ≤ m) (h1 : 1 < n → c1 = b1) (h2 : 2 < n → c2 = b2) (h3 : 3 < n → c3 = b3) (hr : (Lib.decodeN m b0 c1 c2 c3).1 ≠ 65533 ∨ 1 < (Lib.decodeN m b0 c1 c2 c3).2) (hs : (Lib.decodeN m b0 c1 c2 c3).2 ≤ n) : Lib.decodeN n b0 b1 b2 b3 = Lib.decodeN m b0 c1 c2 c3 := by
  have no : ∀ {p : Prop} [Decidable p] {a b : Nat}, ((if p then (a, b) else (65533, 1) : Nat × Nat).1 ≠ 65533 ∨ 1 < (if p then (a, b) else (65533, 1) : Nat × Nat).2) → p := by
    intro p _ a b h
    by_cases hp : p
    · exact hp
    rw [if_neg hp] at h
    rcases h with h | h
    · exact absurd rfl h
    exact absurd h (by decide)
  unfold Lib.decodeN at *
  by_cases hA : b0 < 128
  · rw [if_pos hA, if_pos hA]
  rw [if_neg hA] at hr hs ⊢
  rw [if_neg hA]
  by_cases hB : b0 / 32 = 6 ∧ (1 < m ∧ c1 / 64 = 2)
  · rw [if_pos hB] at hr hs ⊢
    rw [if_pos (no hr)] at hs
    have : 2 ≤ n := hs
    have e1 := h1 HS
    subst e1
    rw [if_pos ⟨hB.1, by omega, hB.2.2⟩]
  rw [if_neg hB] at hr hs ⊢
  by_cases hC : b0 / 16 = 14 ∧ (1 < m ∧ c1 / 64 = 2) ∧ (2 < m ∧ c2 / 64 = 2)
  · rw [if_pos hC] at hr hs ⊢
    rw [if_pos (no hr)] at hs
    have : 3 ≤ n := hs
    have e1 := h1 HS
    have e2 := h2 HS
    subst e1 e2
    rw [if_neg HS, if_pos ⟨hC.1, ⟨by omega, hC.2.1.2⟩, by omega, hC.2.2.2⟩]
  rw [if_neg hC] at hr hs ⊢
  by_cases hD : b0 / 8 = 30 ∧ (1 < m ∧ c1 / 64 = 2) ∧ (2 < m ∧ c2 / 64 = 2) ∧ (3 < m ∧ c3 / 64 = 2)
  · rw [if_pos hD] at hr hs ⊢
    rw [if_pos (no hr)] at hs
    have : 4 ≤ n := hs
    have e1 := h1 HS
    have e2 := h2 HS
    have e3 := h3 HS
    subst e1 e2 e3
    rw [if_neg HS, if_neg HS, if_pos ⟨hD.1, ⟨by omega, hD.2.1.2⟩, ⟨by omega, hD.2.2.1.2⟩, by omega, hD.2.2.2.2⟩]
  rw [if_neg hD] at hr
  exfalso
  rcases hr with q | q
  · exact q rfl
  exact absurd q (by decide)
theorem rn_big {x : Bs} (h : Rn x) : (decS x).1 ≠ 65533 ∨ 1 < (decS x).2 := by
  rcases h.2 with q | q
  · exact .inl q
  right
  obtain ⟨r, rfl⟩ : ∃ r, x = 239 :: 191 :: 189 :: r := by
    match x, q with
    | a :: b :: c :: r, q =>
      simp only [List.isPrefixOf, Bool.and_eq_true, beq_iff_eq, and_true] at q
      obtain ⟨q1, q2, q3⟩ := q
      subst q1 q2 q3
      exact ⟨r, rfl⟩
    | [], q => simp [List.isPrefixOf] at q
    | [a], q => simp [List.isPrefixOf] at q
    | [a, b], q => simp [List.isPrefixOf] at q
  unfold decS Lib.decodeN
  simp
theorem dec_app {x : Bs} (y : Bs) (hx : x ≠ []) (h : Rn x) : decS (x ++ y) = decS x := by
  have h0 : 0 < x.length := List.length_pos_iff.2 hx
  unfold decS
  rw [getD_appV h0]
  exact decodeN_moreV (by rw [List.length_append]; omega) (fun q => by rw [getD_appV q]) (fun q => by rw [getD_appV q]) (fun q => by rw [getD_appV q]) (rn_big h)
theorem prefix_app {x y : Bs} (h : [239, 191, 189].isPrefixOf x = true) : List.isPrefixOf [239, 191, 189] (x ++ y) = true := by
  rw [List.isPrefixOf_iff_prefix] at h ⊢
  exact h.trans (List.prefix_append _ _)
theorem Rn.app {x : Bs} (y : Bs) (hx : x ≠ []) (h : Rn x) : Rn (x ++ y) := by
  unfold Rn
  rw [dec_app y hx h]
  exact ⟨h.1, h.2.imp id prefix_app⟩
theorem Vd.app : ∀ (k : Nat) {x y : Bs}, x.length ≤ k → Vd x → Vd y → Vd (x ++ y)
  | 0, x, y, hk, _, hy => by
    have : x = [] := List.eq_nil_of_length_eq_zero HS
    subst this; exact hy
  | k + 1, x, y, hk, hx, hy => by
    by_cases hn : x = []
    · subst hn; exact hy
    obtain ⟨h1, h2⟩ := hx.head hn
    have hs := (Rn.size hn).1
    have hp := decS_pos x
    refine Vd.of (h1.app y hn) ?_
    rw [dec_app y hn h1, List.drop_append_of_le_length hs]
    exact Vd.app k (by rw [List.length_drop]; omega) h2 hy
theorem Vd.add {x y : Bs} (hx : Vd x) (hy : Vd y) : Vd (x ++ y) := Vd.app x.length (Nat.le_refl _) hx hy
def Ez : Bs → Prop
  | [] => True
  | c :: _ => c.toNat < 128
theorem Vd.cut : ∀ (k : Nat) {x y : Bs}, x.length ≤ k → Ez y → Vd (x ++ y) → Vd x ∧ Vd y
  | 0, x, y, hk, _, h => by
    have : x = [] := List.eq_nil_of_length_eq_zero HS
    subst this; exact ⟨Vd.nil, h⟩
  | k + 1, x, y, hk, hz, h => by
    by_cases hn : x = []
    · subst hn; exact ⟨Vd.nil, h⟩
    have h0 : 0 < x.length := List.length_pos_iff.2 hn
    have hn2 : x ++ y ≠ [] := by simp [hn]
    obtain ⟨h1, h2⟩ := h.head hn2
    obtain ⟨s1, s2⟩ := Rn.size hn2
    have hp := decS_pos (x ++ y)
    have hle : (decS (x ++ y)).2 ≤ x.length := by
      rcases Nat.lt_or_ge x.length (decS (x ++ y)).2 with q | q
      · exfalso
        have := s2 x.length h0 q
        cases y with
        | nil => simp at s1; simp at q; omega
        | cons c r =>
          have e : (x ++ c :: r).getD x.length 0 = c := by
            rw [List.getD_eq_getElem?_getD, List.getElem?_append_right (Nat.le_refl _)]; simp
          rw [e] at this
          have hz' : c.toNat < 128 := hz
          omega
      exact q
    have hd : decS x = decS (x ++ y) := by
      unfold decS at hle ⊢
      rw [getD_appV h0] at hle ⊢
      have hb := rn_big h1
      unfold decS at hb
      rw [getD_appV h0] at hb
      exact (decodeN_lessV (by rw [List.length_append]; omega) (fun q => by rw [getD_appV q]) (fun q => by rw [getD_appV q]) (fun q => by rw [getD_appV q]) hb hle)
    rw [List.drop_append_of_le_length hle] at h2
    obtain ⟨r1, r2⟩ := Vd.cut k (by rw [List.length_drop]; omega) hz h2
    refine ⟨Vd.of ⟨by rw [hd]; exact h1.1, ?_⟩ (by rw [hd]; exact r1), r2⟩
    rcases h1.2 with q | q
    · left; rw [hd]; exact q
    right
    have hb := rn_big h1
    have h3 : 3 ≤ x.length := by
      obtain ⟨z, hz2⟩ := List.isPrefixOf_iff_prefix.1 q
      have e3 : (decS (x ++ y)).2 = 3 := by rw [← hz2]; unfold decS Lib.decodeN; simp
      omega
    rw [List.isPrefixOf_iff_prefix] at q ⊢
    exact List.prefix_of_prefix_length_le q (List.prefix_append _ _) (by simpa using h3)
theorem Vd.split {x y : Bs} (hz : Ez y) (h : Vd (x ++ y)) : Vd x ∧ Vd y := Vd.cut x.length (Nat.le_refl _) hz h
theorem Vd.easy : ∀ {x : Bs}, (∀ c ∈ x, 0 < c.toNat ∧ c.toNat < 128) → Vd x
  | [], _ => Vd.nil
  | c :: r, h => by
    have hc := h c (List.mem_cons_self ..)
    have e : decS (c :: r) = (c.toNat, 1) := by
      unfold decS Lib.decodeN
      simp [hc.2]
    refine Vd.of ⟨by rw [e]; show c.toNat ≠ 0; omega, .inl (by rw [e]; show c.toNat ≠ 65533; omega)⟩ ?_
    rw [e]
    exact Vd.easy (x := r) fun d hd => h d (List.mem_cons_of_mem _ hd)
theorem check_okV {s : Bs} (h : checkB s = .ok ()) : s.length ≤ 4000 ∧ Vd s := by
  unfold checkB at h
  split at h
  · cases h
  rename_i hl
  split at h
  · cases h
  rename_i hc
  refine ⟨by omega, fun f pos hf => ?_⟩
  have := checkF_shift pos f s.length s 0 hf (Nat.le_refl _)
  rw [Nat.zero_add, hc] at this
  exact this
theorem ok_check {s : Bs} (hl : s.length ≤ 4000) (h : Vd s) : checkB s = .ok () := by
  unfold checkB
  rw [if_neg HS, h s.length 0 (Nat.le_refl _)]
end Go.Sy
namespace Go.Sy
open Go
theorem whileF_words : ∀ (x s : Bs) (k : Nat), (∀ c ∈ x, wordC c = true) → CW s → whileF (fun _ c => wordC c) k (x ++ s) = k + x.length
  | [], s, k, _, hs => by
    cases s with
    | nil => rfl
    | cons c r =>
      have : wordC c = false := hs
      show (if wordC c = true then _ else k) = _
      rw [this]; rfl
  | c :: x, s, k, hx, hs => by
    show (if wordC c = true then whileF _ (k + 1) (x ++ s) else k) = _
    rw [if_pos (hx c (List.mem_cons_self ..)), whileF_words x s (k + 1) (fun d hd => hx d (List.mem_cons_of_mem _ hd)) hs, List.length_cons]
    omega
theorem word_no {c : UInt8} (h : letC c = true) : c ≠ 9 ∧ c ≠ 13 ∧ c ≠ 32 ∧ c ≠ 10 ∧ c ≠ 47 ∧ c ≠ 61 := by
  refine ⟨?_, ?_, ?_, ?_, ?_, ?_⟩ <;> (intro e; subst e; exact absurd h (by decide))
theorem skip_none {c : UInt8} {r : Bs} (h : c ≠ 9 ∧ c ≠ 13 ∧ c ≠ 32 ∧ c ≠ 10) (h2 : c ≠ 47) : skippedB (c :: r) = some (0, false) := by
  have e2 : (c.toNat == 10) = false := by
    rw [beq_eq_false_iff_ne]; intro q; exact h.2.2.2 (UInt8.toNat_inj.1 q)
  have e3 : (47 == c) = false := by rw [beq_eq_false_iff_ne]; exact fun q => h2 q.symm
  unfold skippedB
  simp [List.isPrefixOf, e2, e3]
  exact ⟨h.1, h.2.1, h.2.2.1⟩
theorem word_tok {x : Bs} (hl : letC (x.getD 0 0) = true) (hx : ∀ c ∈ x, wordC c = true) (h20 : x.length ≤ 20) {s : Bs} (hs : CW s) : Tok1 (if keysB.contains x = true then 7 else 1, x) s := by
  cases x with
  | nil => exact absurd hl (by decide)
  | cons c r =>
    have hl' : letC c = true := hl
    have hw := whileF_words (c :: r) s 0 hx hs
    rw [Nat.zero_add] at hw
    have hn := word_no hl'
    refine ⟨?_, skip_none ⟨hn.1, hn.2.1, hn.2.2.1, hn.2.2.2.1⟩ hn.2.2.2.2.1⟩
    show tokenB (c :: r ++ s) = _
    unfold tokenB
    simp only [hw]
    have e0 : (c :: r ++ s).getD 0 0 = c := rfl
    rw [e0, if_pos hl', if_neg (by simp at h20 ⊢; omega), List.take_left' rfl]
    split <;> rfl
structure TokS (t : Tk) : Prop where
  ne : t.2 ≠ []
  rng : 1 ≤ t.1 ∧ t.1 ≤ 7
  op : t.1 = 6 → t.2 ∈ opsB ∨ t.2 = [10]
  key : t.1 = 7 → t.2 ∈ keysB
  nl : t.1 ≠ 6 → t.2 ≠ [10]
  lex : t.2 ≠ [10] → ∀ s, C0 s → Tok1 t s
  dot : t.1 = 1 ∨ t.1 = 4 ∨ t.1 = 5 → ∀ s, CD s → Tok1 t s
  word : t.1 = 1 ∨ t.1 = 7 → ∀ s, CW s → Tok1 t s
  name : t.1 = 1 → letC (t.2.getD 0 0) = true
  fb : t.1 ≤ 5 → t.2.head? ≠ some 61
  vd : Vd t.2
theorem TokS.ops {o : Bs} (h : o ∈ opsB) : TokS (6, o) := by
  have hA : ∀ o ∈ opsB, o ≠ [] ∧ ∀ c ∈ o, 0 < c.toNat ∧ c.toNat < 128 := by rw [opsB_eq]; decide
  have n6 : ∀ k : Int, k ≠ 6 → ((6, o) : Tk).1 = k → False := fun k h1 h2 => h1 h2.symm
  exact ⟨(hA o h).1, (by decide : (1 : Int) ≤ 6 ∧ (6 : Int) ≤ 7), fun _ => .inl h, fun q => (n6 7 (by decide) q).elim, fun q => absurd rfl q, fun _ s hs => op_c0 h s hs, fun q => by (exfalso; rcases q with q | q | q; exact n6 _ (by decide) q; exact n6 _ (by decide) q; exact n6 _ (by decide) q), fun q => by (exfalso; rcases q with q | q; exact n6 _ (by decide) q; exact n6 _ (by decide) q), fun q => (n6 1 (by decide) q).elim, fun q => absurd (show (6 : Int) ≤ 5 from q) (by decide), Vd.easy (hA o h).2⟩
theorem TokS.words {x : Bs} (hl : letC (x.getD 0 0) = true) (hx : ∀ c ∈ x, wordC c = true) (h20 : x.length ≤ 20) : TokS (if keysB.contains x = true then 7 else 1, x) := by
  have hne : x ≠ [] := fun e => by subst e; exact absurd hl (by decide)
  obtain ⟨c, r, rfl⟩ : ∃ c r, x = c :: r := by cases x with
    | nil => exact absurd rfl hne
    | cons c r => exact ⟨c, r, rfl⟩
  have hn := word_no (show letC c = true from hl)
  have hv : Vd (c :: r) := Vd.easy fun d hd => by
    have := hx d hd
    unfold wordC letC digC at this
    simp only [Bool.or_eq_true, Bool.and_eq_true, decide_eq_true_eq, beq_iff_eq] at this
    omega
  have hk : (if keysB.contains (c :: r) = true then (7 : Int) else 1) ≠ 6 := by split <;> decide
  refine ⟨hne, by show (1 : Int) ≤ (if _ then (7 : Int) else 1) ∧ (if _ then (7 : Int) else 1) ≤ (7 : Int); split <;> decide, fun q => absurd q hk, fun q => ?_, fun _ e => ?_, fun _ s hs => word_tok hl hx h20 hs.d.w, fun _ s hs => word_tok hl hx h20 hs.w, fun _ s hs => word_tok hl hx h20 hs, fun _ => hl, fun _ e => ?_, hv⟩
  · show (c :: r) ∈ keysB
    have q' : (if keysB.contains (c :: r) = true then (7 : Int) else 1) = 7 := q
    split at q'
    · rename_i h; simpa using h
    cases q'
  · injection e with e _; exact hn.2.2.2.1 e
  simp at e; exact hn.2.2.2.2.2 e
theorem TokS.keys {x : Bs} (h : x ∈ keysB) : TokS (7, x) := by
  have hA : ∀ o ∈ keysB, letC (o.getD 0 0) = true ∧ (∀ c ∈ o, wordC c = true) ∧ o.length ≤ 20 := by rw [GR]; decide
  have hk : keysB.contains x = true := by simpa using h
  have := TokS.words (hA x h).1 (hA x h).2.1 (hA x h).2.2
  rwa [hk] at this
def KO (K : List Tk) : Prop := ∀ t ∈ K, t.1 = 0 ∨ TokS t
theorem KO.at {K : List Tk} (h : KO K) {i : Nat} (ht : (tkAt K i).1 ≠ 0) : TokS (tkAt K i) := (h _ (tk_mem ht)).resolve_left ht
theorem is_eq {t : Tk} {x : Bs} (h : isB t [x] = true) : (t.1 = 6 ∨ t.1 = 7) ∧ t.2 = x := by
  unfold isB at h
  simpa using h
theorem KO.op {K : List Tk} (h : KO K) {s : PS} {x : Bs} (hb : isB (s.tok K) [x] = true) (hx : x ∉ keysB) : s.tok K = (6, x) := by
  obtain ⟨h1, h2⟩ := is_eq hb
  have ht := h.at (GS hb)
  rcases h1 with h1 | h1
  · exact Prod.ext h1 h2
  exact absurd (h2 ▸ ht.key h1) hx
theorem KO.key {K : List Tk} (h : KO K) {s : PS} {x : Bs} (hb : isB (s.tok K) [x] = true) (hx : x ∉ opsB ∧ x ≠ [10]) : s.tok K = (7, x) := by
  obtain ⟨h1, h2⟩ := is_eq hb
  have ht := h.at (GS hb)
  rcases h1 with h1 | h1
  · rcases ht.op h1 with q | q
    · exact absurd (h2 ▸ q) hx.1
    exact absurd (h2 ▸ q) hx.2
  exact Prod.ext h1 h2
structure Sg (C : Bs → Prop) (p : Pcs) : Prop where
  lx : LxC C p
  tk : ∀ t ∈ toks p, TokS t
theorem Sg.app {C C' : Bs → Prop} {p q : Pcs} (h : Sg C p) (k : Sg C' q) (hc : ∀ s, C' s → C (render q ++ s)) : Sg C' (p ++ q) :=
  ⟨h.lx.app k.lx hc, fun t ht => by rw [GU] at ht; rcases List.mem_append.1 ht with q | q; exact h.tk t q; exact k.tk t q⟩
theorem Sg.mono {C C' : Bs → Prop} {p : Pcs} (h : Sg C p) (hc : ∀ s, C' s → C s) : Sg C' p := ⟨h.lx.mono hc, h.tk⟩
theorem Sg.all {C : Bs → Prop} {p : Pcs} (h : Sg CT p) : Sg C p := h.mono fun _ _ => trivial
theorem Sg.d {p : Pcs} (h : Sg CD p) : Sg C0 p := h.mono fun _ q => q.d
theorem Sg.nil : Sg CT [] := ⟨LxC.nil, by simp⟩
theorem Sg.blank : Sg CT [none] := ⟨LxC.blank, by simp⟩
theorem Sg.one {C : Bs → Prop} {t : Tk} (ht : TokS t) (h : ∀ s, C s → Tok1 t s) : Sg C [some t] := ⟨LxC.tok ht.ne h, by intro u hu; simp at hu; subst hu; exact ht⟩
theorem mem_ops (c : UInt8) (h : c ∈ ([40, 41, 91, 93, 123, 125, 126, 42, 43, 45, 94, 44, 59] : List UInt8)) : [c] ∈ opsB := by
  simp only [List.mem_cons, List.not_mem_nil, or_false] at h
  rw [opsB_eq]
  rcases h with h | h | h | h | h | h | h | h | h | h | h | h | h <;> (subst h; decide)
theorem Sg.op {c : UInt8} (h : c ∈ ([40, 41, 91, 93, 123, 125, 126, 42, 43, 45, 94, 44, 59] : List UInt8)) : Sg CT [some (6, [c])] := Sg.one (TokS.ops (mem_ops c h)) fun s _ => op_any h s
theorem Sg.dot : Sg (fun s => ∃ c r, s = c :: r ∧ letC c = true) [some (6, [46])] := Sg.one (TokS.ops (by rw [opsB_eq]; decide)) fun s ⟨_, _, e, hc⟩ => by subst e; exact op_dot hc
theorem Sg.not : Sg (fun s => s.head? ≠ some 61) [some (6, [33])] := Sg.one (TokS.ops (by rw [opsB_eq]; decide)) fun s hs => op_not s hs
theorem Sg.key {x : Bs} (h : x ∈ keysB) : Sg CW [some (7, x)] := Sg.one (TokS.keys h) fun s hs => (TokS.keys h).word (.inr rfl) s hs
theorem Sg.ops {o : Bs} (h : o ∈ opsB) (h2 : o ≠ [10]) : Sg C0 [some (6, o)] := Sg.one (TokS.ops h) fun s hs => (TokS.ops h).lex h2 s hs
theorem Sg.tok {t : Tk} (h : TokS t) (h2 : t.2 ≠ [10]) : Sg C0 [some t] := Sg.one h fun s hs => h.lex h2 s hs
theorem Sg.name {t : Tk} (h : TokS t) (h1 : t.1 = 1) : Sg CW [some t] := Sg.one h fun s hs => h.word (.inl h1) s hs
def En (p : Pcs) : Prop := ∃ t, (toks p).getLast? = some t ∧ endsT t.1 t.2 = true
theorem En.app {p q : Pcs} (h : En q) : En (p ++ q) := by
  obtain ⟨t, h1, h2⟩ := h
  refine ⟨t, ?_, h2⟩
  rw [GU, List.getLast?_append, h1]; rfl
theorem En.cons {x : Option Tk} {q : Pcs} (h : En q) : En (x :: q) := En.app (p := [x]) h
theorem En.one {t : Tk} (h : endsT t.1 t.2 = true) : En [some t] := ⟨t, rfl, h⟩
theorem En.ne {p : Pcs} (h : En p) : toks p ≠ [] := by
  obtain ⟨t, h1, _⟩ := h
  intro e; rw [e] at h1; cases h1
def Ext (nodes : List Nd) (L : List Nod) : Prop := ∀ (j : Nat) (nd : Nd), nodes[j]? = some nd → ∃ n, L[j]? = some n ∧ n.kind = nd.kind ∧ n.text = nd.text ∧ n.kids = nd.kids
theorem Ext.less {a b : List Nd} {L : List Nod} (h : Ext (a ++ b) L) : Ext a L := fun j nd hj => h j nd (by
  have hl : j < a.length := by
    rcases Nat.lt_or_ge j a.length with q | q
    · exact q
    rw [List.getElem?_eq_none q] at hj; cases hj
  rw [List.getElem?_append_left hl]; exact hj)
def W (nodes : List Nd) (v : Int) (p : Pcs) : Prop := ∀ L, Ext nodes L → RightN L → tx (txtB L) v = render p
def Kd (nodes : List Nd) (v : Int) (k : Int) : Prop := 0 ≤ v ∧ ∃ nd, nodes[v.toNat]? = some nd ∧ nd.kind = k
theorem W.more {a : List Nd} (b : List Nd) {v : Int} {p : Pcs} (h : W a v p) : W (a ++ b) v p := fun L hL hR => h L hL.less hR
theorem Kd.more {a : List Nd} (b : List Nd) {v k : Int} (h : Kd a v k) : Kd (a ++ b) v k := by
  obtain ⟨h0, nd, h1, h2⟩ := h
  refine ⟨h0, nd, ?_, h2⟩
  have hl : v.toNat < a.length := by
    rcases Nat.lt_or_ge v.toNat a.length with q | q
    · exact q
    rw [List.getElem?_eq_none q] at h1; cases h1
  rw [List.getElem?_append_left hl]; exact h1
theorem Kd.at {nodes : List Nd} {L : List Nod} {v k : Int} (h : Kd nodes v k) (hL : Ext nodes L) : kindAt L v = k := by
  obtain ⟨_, nd, h1, h2⟩ := h
  obtain ⟨n, e, hk, _⟩ := hL _ _ h1
  unfold kindAt
  rw [e]; show n.kind = k; rw [hk, h2]
theorem Kd.new (a : List Nd) (nd : Nd) : Kd (a ++ [nd]) (a.length : Int) nd.kind := ⟨Int.natCast_nonneg _, nd, by simp, rfl⟩
theorem node_at {a : List Nd} {nd : Nd} {L : List Nod} (hL : Ext (a ++ [nd]) L) : ∃ h : a.length < L.length, L[a.length].kind = nd.kind ∧ L[a.length].text = nd.text ∧ L[a.length].kids = nd.kids := by
  obtain ⟨n, e, h1, h2, h3⟩ := hL a.length nd (by simp)
  have hl : a.length < L.length := by
    rcases Nat.lt_or_ge a.length L.length with q | q
    · exact q
    rw [List.getElem?_eq_none q] at e; cases e
  rw [List.getElem?_eq_getElem hl] at e
  injection e with e
  exact ⟨hl, by rw [e]; exact h1, by rw [e]; exact h2, by rw [e]; exact h3⟩
theorem W.mk {a : List Nd} {nd : Nd} {p : Pcs} (h : ∀ L n, Ext a L → RightN L → n.kind = nd.kind → n.text = nd.text → n.kids = nd.kids → nodeB L (txtB L) n = render p) : W (a ++ [nd]) (a.length : Int) p := by
  intro L hL hR
  obtain ⟨hl, h1, h2, h3⟩ := node_at hL
  have := txtB_eq hR hl
  show (if (a.length : Int) < 0 then [] else txtB L (a.length : Int).toNat) = _
  rw [if_neg HS, Int.toNat_natCast, this]
  exact h L _ hL.less hR h1 h2 h3
def WJ (nodes : List Nd) (ks : List Int) (sep P : Pcs) : Prop := ∀ L, Ext nodes L → RightN L → allB (txtB L) ks (render sep) = render P
theorem WJ.more {a : List Nd} (b : List Nd) {ks : List Int} {sep P : Pcs} (h : WJ a ks sep P) : WJ (a ++ b) ks sep P := fun L hL hR => h L hL.less hR
theorem WJ.nil {a : List Nd} {sep : Pcs} : WJ a [] sep [] := fun L _ _ => by
  unfold allB; rw [List.map_nil, Lib.join_nil]; rfl
theorem allB_cons (T : Nat → Bs) (k : Int) (ks : List Int) (sep : Bs) (h : ks ≠ []) : allB T (k :: ks) sep = tx T k ++ sep ++ allB T ks sep := by
  cases ks with
  | nil => exact absurd rfl h
  | cons m ks =>
    unfold allB
    simp only [List.map_cons]
    rw [Lib.join_cons, Lib.join_cons]
    unfold Lib.joinTail
    simp [List.append_assoc]
theorem allB_one (T : Nat → Bs) (k : Int) (sep : Bs) : allB T [k] sep = tx T k := by
  unfold allB
  rw [List.map_cons, List.map_nil, Lib.join_cons]
  simp [Lib.joinTail]
theorem WJ.one {a : List Nd} {k : Int} {sep p : Pcs} (h : W a k p) : WJ a [k] sep p := fun L hL hR => by rw [allB_one, h L hL hR]
theorem WJ.cons {a : List Nd} {k : Int} {ks : List Int} {sep p P : Pcs} (h : W a k p) (hk : WJ a ks sep P) (hn : ks ≠ []) : WJ a (k :: ks) sep (p ++ sep ++ P) := fun L hL hR => by
  rw [allB_cons _ _ _ _ hn, h L hL hR, hk L hL hR, render_app, render_app]
end Go.Sy
namespace Go.Sy
open Go
structure Pt (nodes : List Nd) (v : Int) (p : Pcs) : Prop where
  w : W nodes v p
  sg : Sg C0 p
  en : En p
  bl : p.length + 1 ≤ 2 * (toks p).length
  kd : ∃ k, (k ≠ 0 ∧ k ≠ 32) ∧ Kd nodes v k
theorem Pt.more {a : List Nd} (b : List Nd) {v : Int} {p : Pcs} (h : Pt a v p) : Pt (a ++ b) v p :=
  ⟨h.w.more b, h.sg, h.en, h.bl, by obtain ⟨k, h1, h2⟩ := h.kd; exact ⟨k, h1, h2.more b⟩⟩
structure PtL (nodes : List Nd) (ks : List Int) (sep P : Pcs) : Prop where
  w : WJ nodes ks sep P
  sg : Sg C0 P
  en : En P
  bl : P.length + 1 ≤ 2 * (toks P).length
theorem PtL.more {a : List Nd} (b : List Nd) {ks : List Int} {sep P : Pcs} (h : PtL a ks sep P) : PtL (a ++ b) ks sep P := ⟨h.w.more b, h.sg, h.en, h.bl⟩
theorem PtL.one {a : List Nd} {k : Int} {sep p : Pcs} (h : Pt a k p) : PtL a [k] sep p := ⟨WJ.one h.w, h.sg, h.en, h.bl⟩
structure SepOk (sep : Pcs) : Prop where
  sg : Sg CT sep
  c0 : ∀ s, C0 (render sep ++ s)
  bl : sep.length ≤ 2 * (toks sep).length + 1
theorem PtL.cons {a : List Nd} {k : Int} {ks : List Int} {sep p P : Pcs} (hs : SepOk sep) (h : Pt a k p) (hk : PtL a ks sep P) (hn : ks ≠ []) : PtL a (k :: ks) sep (p ++ sep ++ P) := by
  refine ⟨WJ.cons h.w hk.w hn, (h.sg.app hs.sg fun s _ => hs.c0 s).app hk.sg fun _ _ => trivial, En.app hk.en, ?_⟩
  have h1 := h.bl; have h2 := hk.bl; have h3 := hs.bl
  simp only [GU, List.length_append]; omega
def sepC : Pcs := [some (6, [44]), none]
def sepS : Pcs := [some (6, [59]), none]
def sepU : Pcs := [none, some (6, [124]), none]
theorem sepC_ok : SepOk sepC := ⟨(Sg.op (c := 44) (by decide)).app Sg.blank fun _ _ => trivial, fun _ => rfl, by decide⟩
theorem sepS_ok : SepOk sepS := ⟨(Sg.op (c := 59) (by decide)).app Sg.blank fun _ _ => trivial, fun _ => rfl, by decide⟩
theorem sepU_ok : SepOk sepU := ⟨Sg.blank.app ((Sg.ops (o := [124]) (by rw [opsB_eq]; decide) (by decide)).app Sg.blank fun _ _ => rfl) fun _ _ => trivial, fun _ => rfl, by decide⟩
structure Gd (K : List Tk) (m : List Tk → PM Int) (s : PS) (v : Int) (s' : PS) (p : Pcs) : Prop where
  pt : Pt s'.nodes v p
  hd : ∃ p', p = some (s.tok K) :: p'
  fb : (s.tok K).2.head? ≠ some 61
  sim : ∀ K2, Sim K K2 (m K2) s v s' (toks p)
def Gv (K : List Tk) (m : List Tk → PM Int) : Prop := ∀ s v s', m K s = .ok (v, s') → ∃ p, Gd K m s v s' p
def GvD (K : List Tk) (m : List Tk → PM Int) : Prop := ∀ s v s', m K s = .ok (v, s') → ∃ p, Gd K m s v s' p ∧ Sg CD p
theorem GvD.g {K : List Tk} {m : List Tk → PM Int} (h : GvD K m) : Gv K m := fun s v s' e => by obtain ⟨p, h1, _⟩ := h s v s' e; exact ⟨p, h1⟩
structure RecS (K : List Tk) (r : List Tk → Rec) : Prop where
  typ : GvD K fun K => (r K).typ
  union : Gv K fun K => (r K).union
  expr : ∀ n, Gv K fun K => (r K).expr n
  unary : Gv K fun K => (r K).unary
theorem Nx.stop {t u : Tk} {rest : List Tk} (ht : stopT t = true) (hu : stopT u = true) (h : Nx u rest) : Nx t rest := by
  obtain ⟨t', r, e, h⟩ := h
  refine ⟨t', r, e, .inr ⟨ht, ?_⟩⟩
  rcases h with h | h
  · rw [h]; exact hu
  exact h.2
theorem is_stop {t : Tk} {x : Bs} (h : isB t [x] = true) (hx : x ∈ ([[44], [93], [41], [125], [59], [10]] : List Bs)) : stopT t = true := by
  obtain ⟨h1, h2⟩ := is_eq h
  unfold stopT isB
  simp only [Bool.or_eq_true, Bool.and_eq_true, beq_iff_eq, List.contains_iff_mem]
  exact .inr ⟨h1, h2 ▸ hx⟩
theorem semi_stop {t : Tk} (h : semiB t = true) : stopT t = true ∧ t.1 ≠ 0 ∧ 1 ≤ t.2.length := by
  unfold semiB at h
  have h0 := GS h
  unfold isB at h
  simp only [Bool.and_eq_true, Bool.or_eq_true, beq_iff_eq, List.contains_iff_mem] at h
  refine ⟨?_, h0, ?_⟩
  · unfold stopT isB
    simp only [Bool.or_eq_true, Bool.and_eq_true, beq_iff_eq, List.contains_iff_mem]
    refine .inr ⟨h.1, ?_⟩
    rcases List.mem_cons.1 h.2 with q | q
    · rw [q]; decide
    simp at q; rw [q]; decide
  rcases List.mem_cons.1 h.2 with q | q
  · rw [q]; decide
  simp at q; rw [q]; decide
section
variable {K : List Tk}
theorem plistF_sQ (ko : KO K) {one : List Tk → PM Int} {fin : Bs} {Q : PS → Pcs → Prop} (hf : fin = [93] ∨ fin = [41]) (ho : ∀ s v s', one K s = .ok (v, s') → ∃ p, Gd K one s v s' p ∧ Q s p) : ∀ (f : Nat) (s : PS) (out l : List Int) (s' : PS), plistF K fin (one K) f out s = .ok (l, s') →
    ∃ l' P, l = out ++ l' ∧ l' ≠ [] ∧ PtL s'.nodes l' sepC P ∧ ((∃ P', P = some (s.tok K) :: P') ∧ ∃ p1 P1, P = p1 ++ P1 ∧ Q s p1) ∧ ∀ K2 f2, (toks P).length ≤ f2 → Sim K K2 (plistF K2 fin (one K2) f2 out) s (out ++ l') s' (toks P ++ [(6, fin)])
  | 0, s, out, l, s', h => (Hx h).elim
  | f + 1, s, out, l, s', h => by
    have hfk : fin ∉ keysB := by rcases hf with e | e <;> (subst e; rw [GR]; decide)
    have hfs : fin ∈ ([[44], [93], [41], [125], [59], [10]] : List Bs) := by rcases hf with e | e <;> (subst e; decide)
    unfold plistF at h
    obtain ⟨v, s1, h1, h⟩ := Gt h
    obtain ⟨p, g, hQ⟩ := ho _ _ _ h1
    have hne : 0 < (toks p).length := List.length_pos_iff.2 g.pt.en.ne
    rcases GV h with ⟨hb, h⟩ | ⟨hb, h⟩
    · obtain ⟨e1, e2⟩ := HL h
      subst e1 e2
      refine ⟨[v], p, rfl, by simp, PtL.one g.pt, ⟨g.hd, p, [], by simp, hQ⟩, fun K2 f2 hl => ?_⟩
      obtain ⟨f2', rfl⟩ : ∃ f2', f2 = f2' + 1 := ⟨f2 - 1, by omega⟩
      have := ko.op hb hfk
      rw [← this]
      unfold plistF
      exact Sim.bind (g.sim K2) (Sim.whenT hb Sim.ret)
    obtain ⟨u, s2, h2, h⟩ := Gt h
    obtain ⟨hc, e2⟩ := HJ h2
    subst e2
    have hc2 := ko.op hc (by rw [GR]; decide)
    have hcs := is_stop hc (by decide)
    rcases GV h with ⟨hb2, h⟩ | ⟨hb2, h⟩
    · obtain ⟨e1, e2⟩ := HL h
      subst e1 e2
      have hf2 := ko.op hb2 hfk
      have hfs2 := is_stop hb2 hfs
      refine ⟨[v], p, rfl, by simp, PtL.one g.pt, ⟨g.hd, p, [], by simp, hQ⟩, fun K2 f2 hl => ?_⟩
      obtain ⟨f2', rfl⟩ : ∃ f2', f2 = f2' + 1 := ⟨f2 - 1, by omega⟩
      have sk : Src K s1 s1.next [] := Src.skip (Nat.le_succ _) ⟨[], by simp⟩ fun rest hn => Nx.stop hcs hfs2 hn
      have st : Src K s1.next s1.next.next [(6, fin)] := by rw [← hf2]; exact Src.tok (GS hb2)
      refine ⟨((g.sim K2).src.trans (sk.trans st)), fun rest σ hd hn he => ?_⟩
      rw [List.append_assoc] at hd
      obtain ⟨σ1, r1, d1, q1⟩ := (g.sim K2).run _ σ hd ⟨(6, fin), rest, rfl, .inr ⟨hcs, by rw [← hf2]; exact hfs2⟩⟩ he
      obtain ⟨t1, t2, _⟩ := GJ d1
      refine ⟨σ1.next, ?_, t2, q1.nodes, q1.deep⟩
      unfold plistF PM.bind
      rw [r1]
      simp only
      unfold pwhen
      have e : σ1.tok K2 = (6, fin) := t1
      rw [e, ← hf2, if_pos hb2]; rfl
    obtain ⟨l', P, el, hn, pl, ⟨⟨P', hP'⟩, _⟩, sm⟩ := plistF_sQ ko hf ho f _ _ _ _ h
    subst el
    have pre : ∃ new, s'.nodes = s1.nodes ++ new := (sm [] _ (Nat.le_refl _)).src.pre
    obtain ⟨new, en⟩ := pre
    refine ⟨v :: l', p ++ sepC ++ P, by simp, by simp, PtL.cons sepC_ok (by rw [en]; exact g.pt.more new) pl hn, ⟨?_, p, sepC ++ P, by simp, hQ⟩, fun K2 f2 hl => ?_⟩
    · obtain ⟨p', hp'⟩ := g.hd
      exact ⟨p' ++ sepC ++ P, by rw [hp']; rfl⟩
    simp only [GU, List.length_append] at hl
    obtain ⟨f2', rfl⟩ : ∃ f2', f2 = f2' + 1 := ⟨f2 - 1, by omega⟩
    have e : toks (p ++ sepC ++ P) ++ [(6, fin)] = toks p ++ ([s1.tok K] ++ (toks P ++ [(6, fin)])) := by
      rw [hc2]; simp [sepC]
    have e2 : out ++ v :: l' = (out ++ [v]) ++ l' := by simp
    rw [e, e2]
    unfold plistF
    refine Sim.bind (g.sim K2) (Sim.whenF' hb HQ (Sim.bind (Sim.must hc) (Sim.whenF' (ts' := toks P' ++ [(6, fin)]) hb2 (by rw [hP']; rfl) (sm K2 f2' (by have : (toks sepC).length = 1 := rfl; omega)))))
theorem plist_sQ (ko : KO K) {one : List Tk → PM Int} {fin : Bs} {Q : PS → Pcs → Prop} (hf : fin = [93] ∨ fin = [41]) (ho : ∀ s v s', one K s = .ok (v, s') → ∃ p, Gd K one s v s' p ∧ Q s p) {s s' : PS} {l : List Int} (h : plist K fin (one K) s = .ok (l, s')) :
    ∃ P, l ≠ [] ∧ PtL s'.nodes l sepC P ∧ ((∃ P', P = some (s.tok K) :: P') ∧ ∃ p1 P1, P = p1 ++ P1 ∧ Q s p1) ∧ ∀ K2, Sim K K2 (plist K2 fin (one K2)) s l s' (toks P ++ [(6, fin)]) := by
  obtain ⟨l', P, el, hn, pl, hP, sm⟩ := plistF_sQ ko hf ho _ _ _ _ _ h
  rw [List.nil_append] at el
  subst el
  refine ⟨P, hn, pl, hP, fun K2 => ⟨(sm K2 _ (Nat.le_refl _)).src, Run.len fun hl => ?_⟩⟩
  exact (sm K2 K2.length (by simp at hl; omega)).run
theorem plist_s (ko : KO K) {one : List Tk → PM Int} {fin : Bs} (hf : fin = [93] ∨ fin = [41]) (ho : Gv K one) {s s' : PS} {l : List Int} (h : plist K fin (one K) s = .ok (l, s')) :
    ∃ P, l ≠ [] ∧ PtL s'.nodes l sepC P ∧ (∃ P', P = some (s.tok K) :: P') ∧ ∀ K2, Sim K K2 (plist K2 fin (one K2)) s l s' (toks P ++ [(6, fin)]) := by
  obtain ⟨P, h1, h2, h3, h4⟩ := plist_sQ (Q := fun _ _ => True) ko hf (fun s v s' e => by obtain ⟨p, g⟩ := ho s v s' e; exact ⟨p, g, trivial⟩) h
  exact ⟨P, h1, h2, h3.1, h4⟩
def NB (rest : List Tk) : Prop := ∃ r, rest = (6, [59]) :: r ∨ rest = (6, [125]) :: r
structure GdF (K : List Tk) (m : List Tk → PM Int) (s : PS) (v : Int) (s' : PS) (p : Pcs) : Prop where
  pt : Pt s'.nodes v p
  hd : ∃ p', p = some (s.tok K) :: p'
  src : Src K s s' (toks p)
  run : ∀ K2, Run K2 NB (m K2) s v s' (toks p)
def EndB (t : Tk) : Prop := semiB t = true ∨ isB t [[125]] = true
def GvF (K : List Tk) (m : List Tk → PM Int) : Prop := ∀ s v s', m K s = .ok (v, s') → EndB (s'.tok K) → ∃ p, GdF K m s v s' p
theorem EndB.stop {t : Tk} (h : EndB t) : stopT t = true := by
  rcases h with h | h
  · exact (semi_stop h).1
  exact is_stop h (by decide)
theorem NB.nx {t : Tk} {rest : List Tk} (ht : stopT t = true) (h : NB rest) : Nx t rest := by
  obtain ⟨r, h | h⟩ := h
  · exact ⟨_, r, h, .inr ⟨ht, rfl⟩⟩
  exact ⟨_, r, h, .inr ⟨ht, rfl⟩⟩
theorem Gv.f {m : List Tk → PM Int} (h : Gv K m) : GvF K m := fun s v s' e he => by
  obtain ⟨p, g⟩ := h s v s' e
  exact ⟨p, g.pt, g.hd, (g.sim []).src, fun K2 => (g.sim K2).run.mono fun r hr => hr.nx he.stop⟩
theorem plinesF_s (ko : KO K) {one : List Tk → PM Int} (ho : GvF K one) : ∀ (f : Nat) (s : PS) (out l : List Int) (s' : PS), plinesF K (one K) f out s = .ok (l, s') →
    ∃ l' P, l = out ++ l' ∧ ((l' = [] ∧ P = [] ∧ isB (s.tok K) [[125]] = true) ∨ (l' ≠ [] ∧ PtL s'.nodes l' sepS P ∧ (∃ P', P = some (s.tok K) :: P') ∧ isB (s.tok K) [[125]] = false)) ∧ ∀ K2 f2, (toks P).length + 1 ≤ f2 → Sim K K2 (plinesF K2 (one K2) f2 out) s (out ++ l') s' (toks P ++ [(6, [125])])
  | 0, s, out, l, s', h => (Hx h).elim
  | f + 1, s, out, l, s', h => by
    have hk : ([125] : Bs) ∉ keysB := by rw [GR]; decide
    unfold plinesF at h
    rcases GV h with ⟨hb, h⟩ | ⟨hb, h⟩
    · obtain ⟨e1, e2⟩ := HL h
      subst e1 e2
      refine ⟨[], [], by simp, .inl ⟨rfl, rfl, hb⟩, fun K2 f2 hl => ?_⟩
      obtain ⟨f2', rfl⟩ : ∃ f2', f2 = f2' + 1 := ⟨f2 - 1, by omega⟩
      have := ko.op hb hk
      rw [← this, List.append_nil]
      unfold plinesF
      exact Sim.whenT hb Sim.ret
    obtain ⟨v, s1, h1, h⟩ := Gt h
    unfold pif at h
    split at h
    · rename_i hb1
      obtain ⟨p, g⟩ := ho _ _ _ h1 (.inr hb1)
      obtain ⟨p', hp'⟩ := g.hd
      have hne : 0 < (toks p).length := List.length_pos_iff.2 g.pt.en.ne
      cases f with
      | zero => exact (Hx h).elim
      | succ f =>
        unfold plinesF at h
        have h := (GV h).resolve_right fun q => (by rw [hb1] at q; cases q.1)
        replace h := h.2
        obtain ⟨e1, e2⟩ := HL h
        subst e1 e2
        have e3 := ko.op hb1 hk
        refine ⟨[v], p, rfl, .inr ⟨by simp, PtL.one g.pt, g.hd, hb⟩, fun K2 f2 hl => ?_⟩
        obtain ⟨f2', rfl⟩ : ∃ f2', f2 = f2' + 2 := ⟨f2 - 2, by omega⟩
        refine ⟨g.src.trans (by rw [← e3]; exact Src.tok (GS hb1)), fun rest σ hd hn he => ?_⟩
        rw [List.append_assoc] at hd
        have hs : σ.tok K2 = s.tok K := (GJ (by rw [hd, hp']; rfl)).1
        obtain ⟨σ1, r1, d1, q1⟩ := g.run K2 _ σ hd ⟨rest, .inr rfl⟩ he
        obtain ⟨t1, t2, _⟩ := GJ d1
        have e : σ1.tok K2 = (6, [125]) := t1
        refine ⟨σ1.next, ?_, t2, q1.nodes, q1.deep⟩
        unfold plinesF pwhen
        rw [hs, hb]
        simp only [Bool.false_eq_true, if_false]
        unfold PM.bind
        rw [r1]
        simp only
        unfold pif
        rw [e, ← e3, if_pos hb1]
        unfold plinesF pwhen
        rw [e, ← e3, if_pos hb1]; rfl
    rename_i hb1
    obtain ⟨u, s2, h2, h⟩ := Gt h
    obtain ⟨hsm, e2⟩ := semi_ok h2
    subst e2
    obtain ⟨p, g⟩ := ho _ _ _ h1 (.inl hsm)
    obtain ⟨p', hp'⟩ := g.hd
    have hne : 0 < (toks p).length := List.length_pos_iff.2 g.pt.en.ne
    obtain ⟨hst, hs0, hs1⟩ := semi_stop hsm
    obtain ⟨l'', P, el, hP, sm⟩ := plinesF_s ko ho f _ _ _ _ h
    subst el
    obtain ⟨new, en⟩ := (sm [] _ (Nat.le_refl _)).src.pre
    rcases hP with ⟨e1, e2, hb2⟩ | ⟨hn, pl, ⟨P', hP'⟩, hb2⟩
    · subst e1 e2
      refine ⟨[v], p, by simp, .inr ⟨by simp, PtL.one (by rw [en]; exact g.pt.more new), g.hd, hb⟩, fun K2 f2 hl => ?_⟩
      obtain ⟨f2', rfl⟩ : ∃ f2', f2 = f2' + 1 := ⟨f2 - 1, by omega⟩
      have sk : Src K s1 s1.next [] := Src.skip (Nat.le_succ _) ⟨[], by simp⟩ fun rest hn => Nx.stop hst (is_stop hb2 (by decide)) hn
      have sm' := sm K2 f2' (by simp; omega)
      refine ⟨g.src.trans (sk.trans sm'.src), fun rest σ hd hn he => ?_⟩
      rw [List.append_assoc] at hd
      have hs : σ.tok K2 = s.tok K := (GJ (by rw [hd, hp']; rfl)).1
      obtain ⟨σ1, r1, d1, q1⟩ := g.run K2 _ σ hd ⟨rest, .inr rfl⟩ he
      obtain ⟨t1, t2, _⟩ := GJ d1
      have e : σ1.tok K2 = (6, [125]) := t1
      obtain ⟨σ2, r2, d2, q2⟩ := sm'.run rest σ1 d1 hn ⟨q1.nodes, q1.deep⟩
      refine ⟨σ2, ?_, d2, q2⟩
      unfold plinesF pwhen
      rw [hs, hb]
      simp only [Bool.false_eq_true, if_false]
      unfold PM.bind
      rw [r1]
      simp only
      unfold pif
      rw [e]
      have : isB (6, [125]) [[125]] = true := rfl
      rw [if_pos this, r2]
      simp
    refine ⟨v :: l'', p ++ sepS ++ P, by simp, .inr ⟨by simp, PtL.cons sepS_ok (by rw [en]; exact g.pt.more new) pl hn, ⟨p' ++ sepS ++ P, by rw [hp']; rfl⟩, hb⟩, fun K2 f2 hl => ?_⟩
    simp only [GU, List.length_append] at hl
    obtain ⟨f2', rfl⟩ : ∃ f2', f2 = f2' + 1 := ⟨f2 - 1, by omega⟩
    have sk : Src K s1 s1.next [(6, [59])] := Src.tok' hs0 hst rfl (by simpa using hs1)
    have sm' := sm K2 f2' (by have : (toks sepS).length = 1 := rfl; omega)
    have et : toks (p ++ sepS ++ P) ++ [(6, [125])] = toks p ++ ([(6, [59])] ++ (toks P ++ [(6, [125])])) := by simp [sepS]
    have e2 : out ++ v :: l'' = (out ++ [v]) ++ l'' := by simp
    rw [et, e2]
    refine ⟨g.src.trans (sk.trans sm'.src), fun rest σ hd hn he => ?_⟩
    rw [List.append_assoc] at hd
    have hs : σ.tok K2 = s.tok K := (GJ (by rw [hd, hp']; rfl)).1
    obtain ⟨σ1, r1, d1, q1⟩ := g.run K2 _ σ hd ⟨_, .inl rfl⟩ he
    obtain ⟨t1, t2, _⟩ := GJ d1
    have e : σ1.tok K2 = (6, [59]) := t1
    obtain ⟨σ2, r2, d2, q2⟩ := sm'.run rest σ1.next t2 hn ⟨q1.nodes, q1.deep⟩
    refine ⟨σ2, ?_, d2, q2⟩
    unfold plinesF pwhen
    rw [hs, hb]
    simp only [Bool.false_eq_true, if_false]
    unfold PM.bind
    rw [r1]
    simp only
    unfold pif psemi
    rw [e]
    have f1 : ¬ isB (6, [59]) [[125]] = true := by decide
    have f3 : semiB (6, [59]) = true := rfl
    rw [if_neg f1]
    simp only [e, f3, if_true]
    exact r2
end
end Go.Sy
namespace Go.Sy
open Go
section
variable {C : Bs → Prop}
theorem Sg.cons {t : Tk} {q : Pcs} (h : Sg CT [some t]) (k : Sg C q) : Sg C (some t :: q) := Sg.app h k fun _ _ => trivial
theorem Sg.consB {q : Pcs} (k : Sg C q) : Sg C (none :: q) := Sg.app Sg.blank k fun _ _ => trivial
theorem Sg.consO {c : UInt8} {q : Pcs} (h : c ∈ ([40, 41, 91, 93, 123, 125, 126, 42, 43, 45, 94, 44, 59] : List UInt8)) (k : Sg C q) : Sg C (some (6, [c]) :: q) := Sg.cons (Sg.op h) k
theorem Sg.cons0 {t : Tk} {q : Pcs} (h : Sg C0 [some t]) (k : Sg C q) (hc : ∀ s, C s → C0 (render q ++ s)) : Sg C (some t :: q) := Sg.app h k hc
theorem Sg.consW {t : Tk} {q : Pcs} (h : Sg CW [some t]) (k : Sg C q) (hc : ∀ s, C s → CW (render q ++ s)) : Sg C (some t :: q) := Sg.app h k hc
theorem Sg.close {p : Pcs} {c : UInt8} (hp : Sg C0 p) (h : c ∈ ([40, 41, 91, 93, 123, 125, 126, 42, 43, 45, 94, 44, 59] : List UInt8)) (hc : c0 c = true) : Sg CT (p ++ [some (6, [c])]) := Sg.app hp (Sg.op h) fun _ _ => hc
theorem Sg.blankAfter {p q : Pcs} (hp : Sg C0 p) (hq : Sg C q) : Sg C (p ++ (none :: q)) := Sg.app hp (Sg.consB hq) fun _ _ => rfl
end
theorem En.close {p : Pcs} {c : UInt8} (h : c = 41 ∨ c = 93 ∨ c = 125) : En (p ++ [some (6, [c])]) := En.app (En.one (by rcases h with h | h | h <;> (subst h; rfl)))
theorem En.tok {t : Tk} (h : 1 ≤ t.1 ∧ t.1 ≤ 5) : En [some t] := En.one (by
  unfold endsT
  rw [if_neg HS, if_neg HS]
  simp [h.1, h.2])
section
variable {L : List Nod} {T : Nat → Bs} {n : Nod}
theorem kid0 {x : Int} {l : List Int} (h : n.kids = x :: l) : kid n 0 = x := by unfold kid; rw [h]; rfl
theorem kid1 {x y : Int} {l : List Int} (h : n.kids = x :: y :: l) : kid n 1 = y := by unfold kid; rw [h]; rfl
theorem kid2 {x y z : Int} {l : List Int} (h : n.kids = x :: y :: z :: l) : kid n 2 = z := by unfold kid; rw [h]; rfl
theorem kid3 {x y z u : Int} {l : List Int} (h : n.kids = x :: y :: z :: u :: l) : kid n 3 = u := by unfold kid; rw [h]; rfl
theorem nB15 (h : n.kind = 1 ∨ n.kind = 2 ∨ n.kind = 3 ∨ n.kind = 4 ∨ n.kind = 5) : nodeB L T n = n.text := by
  unfold nodeB; rw [if_neg HS, if_pos h]
theorem nB6 (h : n.kind = 6) : nodeB L T n = (if kindAt L (kid n 0) = 2 ∨ kindAt L (kid n 0) = 3 then tx T (kid n 0) ++ [32] else tx T (kid n 0)) ++ [46] ++ n.text := by unfold nodeB; rw [h]; rfl
theorem nB7 (h : n.kind = 7) : nodeB L T n = tx T (kid n 0) ++ [40] ++ allB T (n.kids.drop 1) [44, 32] ++ [41] := by unfold nodeB; rw [h]; rfl
theorem nB8 (h : n.kind = 8) : nodeB L T n = tx T (kid n 0) ++ [91] ++ allB T (n.kids.drop 1) [44, 32] ++ [93] := by unfold nodeB; rw [h]; rfl
theorem nB9 (h : n.kind = 9) : nodeB L T n = n.text ++ tx T (kid n 0) := by unfold nodeB; rw [h]; rfl
theorem nB22 (h : n.kind = 22) : nodeB L T n = n.text ++ tx T (kid n 0) := by unfold nodeB; rw [h]; rfl
theorem nB10 (h : n.kind = 10) : nodeB L T n = allB T n.kids ([32] ++ n.text ++ [32]) := by unfold nodeB; rw [h]; rfl
theorem nB11 (h : n.kind = 11) : nodeB L T n = [40] ++ tx T (kid n 0) ++ [41] := by unfold nodeB; rw [h]; rfl
theorem nB12 (h : n.kind = 12) : nodeB L T n = [91, 93] ++ tx T (kid n 0) := by unfold nodeB; rw [h]; rfl
theorem nB13 (h : n.kind = 13) : nodeB L T n = [91] ++ tx T (kid n 0) ++ [93] ++ tx T (kid n 1) := by unfold nodeB; rw [h]; rfl
theorem nB14 (h : n.kind = 14) : nodeB L T n = [109, 97, 112, 91] ++ tx T (kid n 0) ++ [93] ++ tx T (kid n 1) := by unfold nodeB; rw [h]; rfl
theorem nBF (h : n.kind = 15) : nodeB L T n = [102, 117, 110, 99] ++ bareB L T n := by unfold nodeB; rw [h]; rfl
theorem nB16 (h : n.kind = 16) : nodeB L T n = bracesB T [115, 116, 114, 117, 99, 116] n := by unfold nodeB; rw [h]; rfl
theorem nB17 (h : n.kind = 17) : nodeB L T n = bracesB T [105, 110, 116, 101, 114, 102, 97, 99, 101] n := by unfold nodeB; rw [h]; rfl
theorem nBN (h : n.kind = 18 ∨ n.kind = 19 ∨ n.kind = 27 ∨ n.kind = 29) : nodeB L T n = namedB T n := by
  rcases h with h | h | h | h <;> (unfold nodeB; rw [h]; rfl)
theorem nB20 (h : n.kind = 20) : nodeB L T n = n.text ++ signB L T (kid n 0) := by unfold nodeB; rw [h]; rfl
theorem nB21 (h : n.kind = 21) : nodeB L T n = allB T n.kids [32, 124, 32] := by unfold nodeB; rw [h]; rfl
theorem nB23 (h : n.kind = 23) : nodeB L T n = valueB L T [99, 111, 110, 115, 116] n := by unfold nodeB; rw [h]; rfl
theorem nB24 (h : n.kind = 24) : nodeB L T n = valueB L T [118, 97, 114] n := by unfold nodeB; rw [h]; rfl
theorem nB25 (h : n.kind = 25) : nodeB L T n = [116, 121, 112, 101, 32] ++ n.text ++ tx T (kid n 0) ++ [32] ++ tx T (kid n 1) := by unfold nodeB; rw [h]; rfl
theorem nB26 (h : n.kind = 26) : nodeB L T n = if n.kids.length = 0 then [] else [91] ++ allB T n.kids [44, 32] ++ [93] := by unfold nodeB; rw [h]; rfl
theorem nB28 (h : n.kind = 28) : nodeB L T n = (if kindAt L (kid n 0) = 0 then [102, 117, 110, 99, 32] else [102, 117, 110, 99, 32] ++ ([40] ++ tx T (kid n 0) ++ [41, 32])) ++ n.text ++ tx T (kid n 1) ++ signB L T (kid n 2) ++ [32] ++ tx T (kid n 3) := by unfold nodeB; rw [h]; rfl
theorem nB30 (h : n.kind = 30) : nodeB L T n = if kindAt L (kid n 0) = 0 then [123, 125] else [123, 32, 114, 101, 116, 117, 114, 110, 32] ++ tx T (kid n 0) ++ [32, 125] := by unfold nodeB; rw [h]; rfl
theorem nB31 (h : n.kind = 31) : nodeB L T n = [105, 109, 112, 111, 114, 116, 32] ++ n.text := by unfold nodeB; rw [h]; rfl
theorem nB32 (h : n.kind = 32) : nodeB L T n = [112, 97, 99, 107, 97, 103, 101, 32] ++ n.text ++ [10] ++ (n.kids.map fun k => tx T k ++ [10]).flatten := by unfold nodeB; rw [h]; rfl
end
section
variable {a : List Nd} {x y : Int} {px py P : Pcs} {l : List Int} {tn : Nat}
abbrev mkd (a : List Nd) (k : Int) (t : Bs) (ks : List Int) (tn : Nat) : List Nd := a ++ [⟨k, t, ks, tn⟩]
theorem kd_new {k : Int} {t : Bs} {ks : List Int} (h : k ≠ 0 ∧ k ≠ 32) : ∃ k', (k' ≠ 0 ∧ k' ≠ 32) ∧ Kd (mkd a k t ks tn) (a.length : Int) k' := ⟨k, h, Kd.new a ⟨k, t, ks, tn⟩⟩
theorem Pt.leaf {t : Tk} {k : Int} (ht : TokS t) (hk : t.1 = k) (h : 1 ≤ k ∧ k ≤ 5) : Pt (mkd a k t.2 [] tn) (a.length : Int) [some t] ∧ (k ≠ 2 → k ≠ 3 → Sg CD [some t]) := by
  refine ⟨⟨W.mk fun L n _ _ h1 h2 _ => ?_, Sg.tok ht (ht.nl HS), En.tok HS, by simp, kd_new HS⟩, fun h2 h3 => Sg.one ht (ht.dot HS)⟩
  rw [nB15 (by simp only at h1; omega), h2]; simp
theorem Pt.sel {t : Tk} {k : Int} (hx : Pt a x px) (hk : Kd a x k) (hd : k ≠ 2 → k ≠ 3 → Sg CD px) (ht : TokS t) (h1 : t.1 = 1) : Pt (mkd a 6 t.2 [x] tn) (a.length : Int) (px ++ ((if k = 2 ∨ k = 3 then [none] else []) ++ [some (6, [46]), some t])) ∧ Sg CD (px ++ ((if k = 2 ∨ k = 3 then [none] else []) ++ [some (6, [46]), some t])) := by
  have hn : Sg CD [some t] := (Sg.name ht h1).mono fun s hs => hs.w
  obtain ⟨c, r, e⟩ : ∃ c r, t.2 = c :: r := by
    cases e : t.2 with
    | nil => exact absurd e ht.ne
    | cons c r => exact ⟨c, r, rfl⟩
  have hl : letC c = true := by have := ht.name h1; rw [e] at this; exact this
  have hdot : Sg CD [some (6, [46]), some t] := Sg.app (p := [some (6, [46])]) Sg.dot hn fun s _ => ⟨c, r ++ s, by simp [e], hl⟩
  have hs : Sg CD (px ++ ((if k = 2 ∨ k = 3 then [none] else []) ++ [some (6, [46]), some t])) := by
    by_cases h : k = 2 ∨ k = 3
    · rw [if_pos h]; exact Sg.blankAfter hx.sg hdot
    rw [if_neg h]; exact Sg.app (hd HS HS) hdot fun _ _ => .inr rfl
  refine ⟨⟨W.mk fun L n hL hR k1 k2 k3 => ?_, hs.d, ?_, ?_, kd_new (by decide)⟩, hs⟩
  · rw [nB6 k1, kid0 k3, hk.at hL, hx.w L hL hR, k2]
    by_cases h : k = 2 ∨ k = 3
    · rw [if_pos h, if_pos h]; simp
    rw [if_neg h, if_neg h]; simp
  · exact En.app (En.app (En.cons (En.tok HS)))
  have := hx.bl
  split <;> (simp only [GU, GY, toks_nil, HK, List.length_append, List.length_cons, List.length_nil]; omega)
def PtO (nodes : List Nd) (ks : List Int) (sep P : Pcs) : Prop := (ks = [] ∧ P = []) ∨ PtL nodes ks sep P
theorem PtO.w {sep : Pcs} (h : PtO a l sep P) : WJ a l sep P := by
  rcases h with ⟨h1, h2⟩ | h
  · subst h1 h2; exact WJ.nil
  exact h.w
theorem PtO.sg {sep : Pcs} (h : PtO a l sep P) : Sg C0 P := by
  rcases h with ⟨h1, h2⟩ | h
  · subst h2; exact Sg.nil.all
  exact h.sg
theorem PtO.bl {sep : Pcs} (h : PtO a l sep P) : P.length ≤ 2 * (toks P).length := by
  rcases h with ⟨h1, h2⟩ | h
  · subst h2; simp
  have := h.bl; omega
theorem PtO.more {sep : Pcs} (b : List Nd) (h : PtO a l sep P) : PtO (a ++ b) l sep P := h.imp id fun q => q.more b
theorem Pt.call (hx : Pt a x px) (hl : PtO a l sepC P) : Pt (mkd a 7 [] (x :: l) tn) (a.length : Int) (px ++ (some (6, [40]) :: (P ++ [some (6, [41])]))) ∧ Sg CD (px ++ (some (6, [40]) :: (P ++ [some (6, [41])]))) := by
  have hs : Sg CT (px ++ (some (6, [40]) :: (P ++ [some (6, [41])]))) := Sg.app hx.sg (Sg.consO (by decide) (Sg.close hl.sg (by decide) rfl)) fun _ _ => rfl
  refine ⟨⟨W.mk fun L n hL hR k1 _ k3 => ?_, hs.all, En.app (En.cons (En.close (by decide))), ?_, kd_new (by decide)⟩, hs.all⟩
  · have hw := hl.w L hL hR
    rw [nB7 k1, kid0 k3, k3, hx.w L hL hR, List.drop_one, List.tail_cons, show ([44, 32] : Bs) = render sepC from rfl, hw]; simp
  have := hx.bl; have := hl.bl
  simp only [GU, GY, toks_nil, List.length_append, List.length_cons, List.length_nil]; omega
theorem Pt.index (hx : Pt a x px) (hl : PtL a l sepC P) : Pt (mkd a 8 [] (x :: l) tn) (a.length : Int) (px ++ (some (6, [91]) :: (P ++ [some (6, [93])]))) ∧ Sg CD (px ++ (some (6, [91]) :: (P ++ [some (6, [93])]))) := by
  have hs : Sg CT (px ++ (some (6, [91]) :: (P ++ [some (6, [93])]))) := Sg.app hx.sg (Sg.consO (by decide) (Sg.close hl.sg (by decide) rfl)) fun _ _ => rfl
  refine ⟨⟨W.mk fun L n hL hR k1 _ k3 => ?_, hs.all, En.app (En.cons (En.close (by decide))), ?_, kd_new (by decide)⟩, hs.all⟩
  · have hw := hl.w L hL hR
    rw [nB8 k1, kid0 k3, k3, hx.w L hL hR, List.drop_one, List.tail_cons, show ([44, 32] : Bs) = render sepC from rfl, hw]; simp
  have := hx.bl; have := hl.bl
  simp only [GU, GY, toks_nil, List.length_append, List.length_cons, List.length_nil]; omega
def unOps : List Bs := [[43], [45], [33], [94], [42]]
theorem Pt.unary {t : Bs} (ht : t ∈ unOps) (hx : Pt a x px) (hf : ∀ s, (render px ++ s).head? ≠ some 61) : Pt (mkd a 9 t [x] tn) (a.length : Int) (some (6, t) :: px) ∧ (Sg CD px → Sg CD (some (6, t) :: px)) := by
  have hg : ∀ {C : Bs → Prop}, Sg C px → Sg C (some (6, t) :: px) := fun {C} h => by
    unfold unOps at ht
    simp only [List.mem_cons, List.not_mem_nil, or_false] at ht
    rcases ht with e | e | e | e | e <;> subst e
    · exact Sg.consO (by decide) h
    · exact Sg.consO (by decide) h
    · exact Sg.app (p := [some (6, [33])]) Sg.not h fun s _ => hf s
    · exact Sg.consO (by decide) h
    exact Sg.consO (by decide) h
  refine ⟨⟨W.mk fun L n hL hR k1 k2 k3 => ?_, hg hx.sg, En.cons hx.en, ?_, kd_new (by decide)⟩, hg⟩
  · rw [nB9 k1, kid0 k3, hx.w L hL hR, k2]; simp
  have := hx.bl
  simp only [GY, List.length_cons]; omega
def binOps : List Bs := [[124, 124], [38, 38], [61, 61], [33, 61], [60], [60, 61], [62], [62, 61], [43], [45], [124], [94], [42], [47], [37], [38], [60, 60], [62, 62]]
theorem binOps_ok : ∀ t ∈ binOps, t ∈ opsB ∧ t ≠ [10] ∧ t ∉ keysB := by rw [opsB_eq, GR]; decide
theorem Pt.bin {t : Bs} (ht : t ∈ binOps) (hx : Pt a x px) (hy : Pt a y py) : Pt (mkd a 10 t [x, y] tn) (a.length : Int) (px ++ (none :: some (6, t) :: none :: py)) := by
  obtain ⟨t1, t2, _⟩ := binOps_ok t ht
  refine ⟨W.mk fun L n hL hR k1 k2 k3 => ?_, Sg.blankAfter hx.sg (Sg.cons0 (Sg.ops t1 t2) (Sg.consB hy.sg) fun _ _ => rfl), En.app (En.cons (En.cons (En.cons hy.en))), ?_, kd_new (by decide)⟩
  · rw [nB10 k1, k3, k2, allB_cons _ _ _ _ (by simp), allB_one, hx.w L hL hR, hy.w L hL hR]; simp
  have := hx.bl; have := hy.bl
  simp only [GU, GY, HK, List.length_append, List.length_cons]; omega
theorem Pt.paren (hx : Pt a x px) : Pt (mkd a 11 [] [x] tn) (a.length : Int) (some (6, [40]) :: (px ++ [some (6, [41])])) ∧ Sg CD (some (6, [40]) :: (px ++ [some (6, [41])])) := by
  have hs : Sg CT (some (6, [40]) :: (px ++ [some (6, [41])])) := Sg.consO (by decide) (Sg.close hx.sg (by decide) rfl)
  refine ⟨⟨W.mk fun L n hL hR k1 _ k3 => ?_, hs.all, En.cons (En.close (by decide)), ?_, kd_new (by decide)⟩, hs.all⟩
  · rw [nB11 k1, kid0 k3, hx.w L hL hR]; simp
  have := hx.bl
  simp only [GU, GY, toks_nil, List.length_append, List.length_cons, List.length_nil]; omega
theorem Pt.slice (hx : Pt a x px) (hd : Sg CD px) : Pt (mkd a 12 [] [x] tn) (a.length : Int) (some (6, [91]) :: some (6, [93]) :: px) ∧ Sg CD (some (6, [91]) :: some (6, [93]) :: px) := by
  have hs : Sg CD (some (6, [91]) :: some (6, [93]) :: px) := Sg.consO (by decide) (Sg.consO (by decide) hd)
  refine ⟨⟨W.mk fun L n hL hR k1 _ k3 => ?_, hs.d, En.cons (En.cons hx.en), ?_, kd_new (by decide)⟩, hs⟩
  · rw [nB12 k1, kid0 k3, hx.w L hL hR]; simp
  have := hx.bl
  simp only [GY, List.length_cons]; omega
theorem Pt.array (hx : Pt a x px) (hy : Pt a y py) (hd : Sg CD py) : Pt (mkd a 13 [] [x, y] tn) (a.length : Int) (some (6, [91]) :: (px ++ (some (6, [93]) :: py))) ∧ Sg CD (some (6, [91]) :: (px ++ (some (6, [93]) :: py))) := by
  have hs : Sg CD (some (6, [91]) :: (px ++ (some (6, [93]) :: py))) := Sg.consO (by decide) (Sg.app hx.sg (Sg.consO (by decide) hd) fun _ _ => rfl)
  refine ⟨⟨W.mk fun L n hL hR k1 _ k3 => ?_, hs.d, En.cons (En.app (En.cons hy.en)), ?_, kd_new (by decide)⟩, hs⟩
  · rw [nB13 k1, kid0 k3, kid1 k3, hx.w L hL hR, hy.w L hL hR]; simp
  have := hx.bl; have := hy.bl
  simp only [GU, GY, List.length_append, List.length_cons]; omega
def kwMap : Bs := [109, 97, 112]
def kwFunc : Bs := [102, 117, 110, 99]
def kwStruct : Bs := [115, 116, 114, 117, 99, 116]
def kwIface : Bs := [105, 110, 116, 101, 114, 102, 97, 99, 101]
theorem kw_mem : kwMap ∈ keysB ∧ kwFunc ∈ keysB ∧ kwStruct ∈ keysB ∧ kwIface ∈ keysB := by rw [GR]; decide
theorem Pt.map (hx : Pt a x px) (hy : Pt a y py) (hd : Sg CD py) : Pt (mkd a 14 [] [x, y] tn) (a.length : Int) (some (7, kwMap) :: some (6, [91]) :: (px ++ (some (6, [93]) :: py))) ∧ Sg CD (some (7, kwMap) :: some (6, [91]) :: (px ++ (some (6, [93]) :: py))) := by
  have hs : Sg CD (some (7, kwMap) :: some (6, [91]) :: (px ++ (some (6, [93]) :: py))) := Sg.consW (Sg.key kw_mem.1) (Sg.consO (by decide) (Sg.app hx.sg (Sg.consO (by decide) hd) fun _ _ => rfl)) fun _ _ => rfl
  refine ⟨⟨W.mk fun L n hL hR k1 _ k3 => ?_, hs.d, En.cons (En.cons (En.app (En.cons hy.en))), ?_, kd_new (by decide)⟩, hs⟩
  · rw [nB14 k1, kid0 k3, kid1 k3, hx.w L hL hR, hy.w L hL hR]; simp [kwMap]
  have := hx.bl; have := hy.bl
  simp only [GU, GY, List.length_append, List.length_cons]; omega
structure PtS (nodes : List Nd) (v : Int) (B : Pcs) : Prop where
  w : ∀ L, Ext nodes L → RightN L → bareB L (txtB L) (nodOf L v) = render B
  sg : Sg CD B
  en : En B
  bl : B.length + 1 ≤ 2 * (toks B).length
  kd : Kd nodes v 15
  c0 : ∀ s, C0 (render B ++ s)
theorem PtS.more {v : Int} {B : Pcs} (b : List Nd) (h : PtS a v B) : PtS (a ++ b) v B := ⟨fun L hL hR => h.w L hL.less hR, h.sg, h.en, h.bl, h.kd.more b, h.c0⟩
theorem nodOf_new {nd : Nd} {L : List Nod} (hL : Ext (a ++ [nd]) L) : (nodOf L (a.length : Int)).kids = nd.kids := by
  obtain ⟨hl, _, _, h3⟩ := node_at hL
  unfold nodOf
  rw [Int.toNat_natCast, List.getElem?_eq_getElem hl]; exact h3
theorem bare_eq {L : List Nod} {T : Nat → Bs} {n : Nod} {r : Int} (h : n.kids = l ++ [r]) : bareB L T n = if kindAt L r = 0 then [40] ++ allB T l [44, 32] ++ [41] else [40] ++ allB T l [44, 32] ++ [41] ++ [32] ++ tx T r := by
  have e1 : n.kids.take (n.kids.length - 1) = l := by rw [h]; simp
  have e2 : kid n (n.kids.length - 1) = r := by unfold kid; rw [h, List.getD_eq_getElem?_getD]; simp
  unfold bareB
  rw [e1, e2]
theorem PtS.res0 (hl : PtO a l sepC P) (hr : Kd a x 0) : PtS (mkd a 15 [] (l ++ [x]) tn) (a.length : Int) (some (6, [40]) :: (P ++ [some (6, [41])])) := by
  have hs : Sg CT (some (6, [40]) :: (P ++ [some (6, [41])])) := Sg.consO (by decide) (Sg.close hl.sg (by decide) rfl)
  refine ⟨fun L hL hR => ?_, hs.all, En.cons (En.close (by decide)), ?_, Kd.new a ⟨15, [], l ++ [x], tn⟩, fun _ => rfl⟩
  · have hw := hl.w L hL.less hR
    rw [bare_eq (nodOf_new hL), if_pos (hr.at hL.less), show ([44, 32] : Bs) = render sepC from rfl, hw]; simp
  have := hl.bl
  simp only [GU, GY, toks_nil, List.length_append, List.length_cons, List.length_nil]; omega
theorem PtS.res1 (hl : PtO a l sepC P) (hx : Pt a x px) (hd : Sg CD px) : PtS (mkd a 15 [] (l ++ [x]) tn) (a.length : Int) (some (6, [40]) :: (P ++ (some (6, [41]) :: none :: px))) := by
  have hs : Sg CD (some (6, [40]) :: (P ++ (some (6, [41]) :: none :: px))) := Sg.consO (by decide) (Sg.app hl.sg (Sg.consO (by decide) (Sg.consB hd)) fun _ _ => rfl)
  obtain ⟨k, hk0, hk⟩ := hx.kd
  refine ⟨fun L hL hR => ?_, hs, En.cons (En.app (En.cons (En.cons hx.en))), ?_, Kd.new a ⟨15, [], l ++ [x], tn⟩, fun _ => rfl⟩
  · have hw := hl.w L hL.less hR
    rw [bare_eq (nodOf_new hL), if_neg (by rw [hk.at hL.less]; exact hk0.1), show ([44, 32] : Bs) = render sepC from rfl, hw, hx.w L hL.less hR]; simp
  have := hl.bl; have := hx.bl
  simp only [GU, GY, HK, List.length_append, List.length_cons]; omega
theorem nodOf_lt {L : List Nod} {v : Int} (h : Kd a v 15) (hL : Ext a L) : ∃ h : v.toNat < L.length, nodOf L v = L[v.toNat] ∧ L[v.toNat].kind = 15 := by
  obtain ⟨_, nd, e, hk⟩ := h
  obtain ⟨n, e2, h1, _⟩ := hL _ _ e
  have hl : v.toNat < L.length := by
    rcases Nat.lt_or_ge v.toNat L.length with q | q
    · exact q
    rw [List.getElem?_eq_none q] at e2; cases e2
  refine ⟨hl, by unfold nodOf; rw [List.getElem?_eq_getElem hl]; rfl, ?_⟩
  rw [List.getElem?_eq_getElem hl] at e2; injection e2 with e2; rw [e2, h1, hk]
theorem PtS.sign {L : List Nod} {v : Int} {B : Pcs} (h : PtS a v B) (hL : Ext a L) (hR : RightN L) : signB L (txtB L) v = render B := by
  unfold signB
  rw [if_pos (h.kd.at hL)]; exact h.w L hL hR
theorem PtS.func {v : Int} {B : Pcs} (h : PtS a v B) : Pt a v (some (7, kwFunc) :: B) ∧ Sg CD (some (7, kwFunc) :: B) := by
  have hs : Sg CD (some (7, kwFunc) :: B) := Sg.consW (Sg.key kw_mem.2.1) h.sg fun s _ => (h.c0 s).d.w
  refine ⟨⟨fun L hL hR => ?_, hs.d, En.cons h.en, ?_, ⟨15, by decide, h.kd⟩⟩, hs⟩
  · obtain ⟨hl, e1, e2⟩ := nodOf_lt h.kd hL
    have hw := h.w L hL hR
    rw [e1] at hw
    have h0 := h.kd.1
    show (if v < 0 then [] else txtB L v.toNat) = _
    rw [if_neg HS, txtB_eq hR hl, nBF e2, hw]; rfl
  have := h.bl
  simp only [GY, List.length_cons]; omega
theorem braces_none {T : Nat → Bs} {n : Nod} {word : Bs} (h : n.kids = []) : bracesB T word n = word ++ [123, 125] := by unfold bracesB; rw [h]; rfl
theorem braces_some {T : Nat → Bs} {n : Nod} {word : Bs} (h : n.kids ≠ []) : bracesB T word n = word ++ [32, 123, 32] ++ allB T n.kids [59, 32] ++ [32, 125] := by
  unfold bracesB
  rw [if_neg (fun q => h (List.length_eq_zero_iff.1 q))]
theorem Pt.braces {k : Int} {kw : Bs} (hk : (k = 16 ∧ kw = kwStruct) ∨ (k = 17 ∧ kw = kwIface)) (hl : PtO a l sepS P) (hne : l = [] ↔ P = []) : ∃ q, Pt (mkd a k [] l tn) (a.length : Int) (some (7, kw) :: q) ∧ Sg CD (some (7, kw) :: q) ∧ toks q = (6, [123]) :: (toks P ++ [(6, [125])]) := by
  have hkw : kw ∈ keysB := by rcases hk with ⟨_, e⟩ | ⟨_, e⟩ <;> subst e; exact kw_mem.2.2.1; exact kw_mem.2.2.2
  have hnb : ∀ L (n : Nod), n.kind = k → nodeB L (txtB L) n = bracesB (txtB L) kw n := fun L n h => by
    rcases hk with ⟨e1, e2⟩ | ⟨e1, e2⟩ <;> subst e1 e2
    · exact nB16 h
    exact nB17 h
  have hk0 : k ≠ 0 ∧ k ≠ 32 := by rcases hk with ⟨e, _⟩ | ⟨e, _⟩ <;> omega
  by_cases h0 : l = []
  · have hP := hne.1 h0
    subst h0 hP
    have hs : Sg CT (some (7, kw) :: [some (6, [123]), some (6, [125])]) := Sg.consW (Sg.key hkw) (Sg.consO (by decide) (Sg.op (by decide))) fun _ _ => rfl
    refine ⟨[some (6, [123]), some (6, [125])], ⟨W.mk fun L n hL hR k1 _ k3 => ?_, hs.all, En.cons (En.cons (En.one HQ)), by simp, kd_new hk0⟩, hs.all, by simp⟩
    rw [hnb L n k1, braces_none k3]; simp
  have hP : P ≠ [] := fun e => h0 (hne.2 e)
  have hs : Sg CT (some (7, kw) :: (none :: some (6, [123]) :: none :: (P ++ (none :: [some (6, [125])])))) :=
    Sg.consW (Sg.key hkw) (Sg.consB (Sg.consO (by decide) (Sg.consB (Sg.blankAfter hl.sg (Sg.op (by decide)))))) fun _ _ => rfl
  refine ⟨none :: some (6, [123]) :: none :: (P ++ (none :: [some (6, [125])])), ⟨W.mk fun L n hL hR k1 _ k3 => ?_, hs.all, En.cons (En.cons (En.cons (En.cons (En.app (En.cons (En.one HQ)))))), ?_, kd_new hk0⟩, hs.all, by simp⟩
  · have hw := hl.w L hL hR
    simp only at k3
    rw [hnb L n k1, braces_some (by rw [k3]; exact h0), k3, show ([59, 32] : Bs) = render sepS from rfl, hw]; simp
  rcases hl with ⟨e, _⟩ | hl
  · exact absurd e h0
  have := hl.bl
  simp only [GU, GY, HK, toks_nil, List.length_append, List.length_cons, List.length_nil]; omega
theorem Pt.named {t : Tk} {k : Int} (hk : k = 18 ∨ k = 19 ∨ k = 27 ∨ k = 29) (ht : TokS t) (h1 : t.1 = 1) (hx : Pt a x px) : Pt (mkd a k t.2 [x] tn) (a.length : Int) (some t :: none :: px) := by
  refine ⟨W.mk fun L n hL hR k1 k2 k3 => ?_, Sg.cons0 (Sg.tok ht (ht.nl HS)) (Sg.consB hx.sg) fun _ _ => rfl, En.cons (En.cons hx.en), ?_, kd_new HS⟩
  · rw [nBN (by simp only at k1; omega)]
    unfold namedB
    rw [if_neg (by rw [k2]; exact ht.ne), kid0 k3, hx.w L hL hR, k2]; simp
  have := hx.bl
  simp only [GY, HK, List.length_cons]; omega
theorem Pt.bare {k : Int} (hk : k = 18 ∨ k = 19 ∨ k = 27 ∨ k = 29) (hx : Pt a x px) : Pt (mkd a k [] [x] tn) (a.length : Int) px := by
  refine ⟨W.mk fun L n hL hR k1 k2 k3 => ?_, hx.sg, hx.en, hx.bl, kd_new HS⟩
  rw [nBN (by simp only at k1; omega)]
  unfold namedB
  rw [if_pos (by rw [k2]), kid0 k3, hx.w L hL hR]
theorem Pt.method {t : Tk} {B : Pcs} (ht : TokS t) (h1 : t.1 = 1) (hx : PtS a x B) : Pt (mkd a 20 t.2 [x] tn) (a.length : Int) (some t :: B) := by
  refine ⟨W.mk fun L n hL hR k1 k2 k3 => ?_, Sg.cons0 (Sg.tok ht (ht.nl HS)) hx.sg.d fun s _ => hx.c0 s, En.cons hx.en, ?_, kd_new (by decide)⟩
  · rw [nB20 k1, kid0 k3, k2, hx.sign hL hR]; simp
  have := hx.bl
  simp only [GY, List.length_cons]; omega
theorem Pt.union (hl : PtL a l sepU P) : Pt (mkd a 21 [] l tn) (a.length : Int) P := by
  refine ⟨W.mk fun L n hL hR k1 _ k3 => ?_, hl.sg, hl.en, hl.bl, kd_new (by decide)⟩
  have hw := hl.w L hL hR
  simp only at k3
  rw [nB21 k1, k3, show ([32, 124, 32] : Bs) = render sepU from rfl, hw]
theorem Pt.term0 (hx : Pt a x px) : Pt (mkd a 22 [] [x] tn) (a.length : Int) px := by
  refine ⟨W.mk fun L n hL hR k1 k2 k3 => ?_, hx.sg, hx.en, hx.bl, kd_new (by decide)⟩
  rw [nB22 k1, k2, kid0 k3, hx.w L hL hR]; rfl
theorem Pt.term1 (hx : Pt a x px) : Pt (mkd a 22 [126] [x] tn) (a.length : Int) (some (6, [126]) :: px) := by
  refine ⟨W.mk fun L n hL hR k1 k2 k3 => ?_, Sg.consO (by decide) hx.sg, En.cons hx.en, ?_, kd_new (by decide)⟩
  · rw [nB22 k1, k2, kid0 k3, hx.w L hL hR]; simp
  have := hx.bl
  simp only [GY, List.length_cons]; omega
end
end Go.Sy
namespace Go.Sy
open Go
structure RecX (r : List Tk → Rec) : Prop where
  typ : ∀ K s v s', (r K).typ s = .ok (v, s') → (s.tok K).1 = 1 → s'.i = s.i + 1 ∨ isB (tkAt K (s.i + 1)) [[46], [91]] = true
  union : ∀ K s v s', (r K).union s = .ok (v, s') → (s.tok K).1 = 1 → s'.i = s.i + 1 ∨ isB (tkAt K (s.i + 1)) [[46], [91], [124]] = true
  unary : ∀ K s v s', (r K).unary s = .ok (v, s') → (s.tok K).1 = 1 → s'.i = s.i + 1 ∨ isB (tkAt K (s.i + 1)) [[46], [40], [91]] = true
  expr : ∀ n K s v s', (r K).expr n s = .ok (v, s') → (s.tok K).1 = 1 → s'.i = s.i + 1 ∨ isB (tkAt K (s.i + 1)) [[46], [40], [91]] = true ∨ bindsB (tkAt K (s.i + 1)) ≠ 0
theorem isB_more {t : Tk} {x y : List Bs} (h : isB t x = true) (hs : ∀ z ∈ x, z ∈ y) : isB t y = true := by
  unfold isB at *
  simp only [Bool.and_eq_true, List.contains_iff_mem] at *
  exact ⟨h.1, hs _ h.2⟩
theorem is_no {t : Tk} {x : List Bs} (h : t.1 = 1) : isB t x = false := by
  unfold isB; rw [h]; rfl
theorem Sim.cast {α : Type} {K K2 : List Tk} {m : PM α} {s s' : PS} {a : α} {ts ts' : List Tk} (e : ts' = ts) (h : Sim K K2 m s a s' ts) : Sim K K2 m s a s' ts' := e ▸ h
section
variable {K : List Tk} {r : List Tk → Rec}
def pnamedA (K : List Tk) (r : Rec) (a : Nat) : PM Int := (pof K 1).bind fun nm => (pnode 1 nm a []).bind fun x => (pwhen K [46] ((pof K 1).bind fun t => pnode 6 t a [x]) (PM.ret x)).bind fun x => pwhen K [91] ((plist K [93] r.typ).bind fun l => pnode 8 [] a (x :: l)) (PM.ret x)
theorem pnamed_s (ko : KO K) (hr : RecS K r) {s s' : PS} {v : Int} (h : pnamed K (r K) s = .ok (v, s')) :
    ∃ p', Gd K (fun K => pnamed K (r K)) s v s' (some (s.tok K) :: p') ∧ Sg CD (some (s.tok K) :: p') ∧ ((toks p' = [] ∧ s'.tok K = s.next.tok K) ∨ ∃ u, toks p' = s.next.tok K :: u) ∧ (s.tok K).1 = 1 := by
  unfold pnamed at h
  obtain ⟨nm, s1, h1, h⟩ := Gt h
  obtain ⟨k1, e1, e2⟩ := pof_ok h1
  subst e1 e2
  obtain ⟨x0, s2, h2, h⟩ := Gt h
  obtain ⟨e3, e4⟩ := GI h2
  obtain ⟨x1, s3, h3, h4⟩ := Gt h
  have tS := ko.at (i := s.i) (show (s.tok K).1 ≠ 0 by rw [k1]; decide)
  have i2 : s2.tok K = s.next.tok K := by rw [e4]
  have P0 : Pt s2.nodes x0 [some (s.tok K)] ∧ Sg CD [some (s.tok K)] := by
    subst e3 e4
    have := Pt.leaf (a := s.next.nodes) (tn := s.i) tS k1 (by decide)
    exact ⟨this.1, this.2 (by decide) (by decide)⟩
  have kd0 : Kd s2.nodes x0 1 := by subst e3 e4; exact Kd.new _ ⟨1, (s.tok K).2, [], s.i⟩
  have M : ∃ q, Pt s3.nodes x1 ([some (s.tok K)] ++ q) ∧ Sg CD ([some (s.tok K)] ++ q) ∧ ((toks q = [] ∧ s3.tok K = s.next.tok K) ∨ ∃ u, toks q = s.next.tok K :: u) ∧ ∀ K2 a, Sim K K2 (pwhen K2 [46] ((pof K2 1).bind fun t => pnode 6 t a [x0]) (PM.ret x0)) s2 x1 s3 (toks q) := by
    rcases GV h3 with ⟨hb, h3⟩ | ⟨hb, h3⟩
    · obtain ⟨t, s4, h5, h6⟩ := Gt h3
      obtain ⟨k4, e5, e6⟩ := pof_ok h5
      subst e5 e6
      obtain ⟨e7, e8⟩ := GI h6
      have hd := ko.op hb (by rw [GR]; decide)
      have tS2 := ko.at (i := s2.next.i) (show (s2.next.tok K).1 ≠ 0 by rw [k4]; decide)
      have := Pt.sel (a := s2.next.next.nodes) (tn := s.i) P0.1 kd0 (fun _ _ => P0.2) tS2 k4
      rw [if_neg (by decide)] at this
      refine ⟨[some (6, [46]), some (s2.next.tok K)], ?_, this.2, .inr ⟨[s2.next.tok K], by rw [← i2, hd]; rfl⟩, fun K2 a => ?_⟩
      · subst e7 e8; exact this.1
      refine Sim.cast ?_ (Sim.whenT hb (Sim.bind (Sim.of k4 (by decide)) (Sim.node h6)))
      rw [hd]; rfl
    obtain ⟨e5, e6⟩ := HL h3
    subst e5 e6
    exact ⟨[], by simpa using P0.1, by simpa using P0.2, .inl ⟨rfl, i2⟩, fun K2 a => Sim.whenF hb (by decide) Sim.ret⟩
  obtain ⟨q, m1, m2, m3, m4⟩ := M
  have M2 : ∃ q2, Pt s'.nodes v ([some (s.tok K)] ++ q ++ q2) ∧ Sg CD ([some (s.tok K)] ++ q ++ q2) ∧ ((toks q2 = [] ∧ s'.tok K = s3.tok K) ∨ ∃ u, toks q2 = s3.tok K :: u) ∧ ∀ K2 a, Sim K K2 (pwhen K2 [91] ((plist K2 [93] (r K2).typ).bind fun l => pnode 8 [] a (x1 :: l)) (PM.ret x1)) s3 v s' (toks q2) := by
    rcases GV h4 with ⟨hb, h4⟩ | ⟨hb, h4⟩
    · obtain ⟨l, s4, h5, h6⟩ := Gt h4
      obtain ⟨P, hn, pl, _, sm⟩ := plist_s (one := fun K => (r K).typ) ko (.inl rfl) hr.typ.g h5
      obtain ⟨e7, e8⟩ := GI h6
      obtain ⟨new, en⟩ := (sm []).src.pre
      have hd := ko.op hb (by rw [GR]; decide)
      have := Pt.index (tn := s.i) (show Pt s4.nodes x1 ([some (s.tok K)] ++ q) by rw [en]; exact m1.more new) pl
      refine ⟨some (6, [91]) :: (P ++ [some (6, [93])]), ?_, this.2, .inr ⟨toks (P ++ [some (6, [93])]), by rw [hd]; rfl⟩, fun K2 a => ?_⟩
      · subst e7 e8; exact this.1
      refine Sim.cast ?_ (Sim.whenT hb (Sim.bind (sm K2) (Sim.node h6)))
      rw [hd]; simp
    obtain ⟨e5, e6⟩ := HL h4
    subst e5 e6
    exact ⟨[], by simpa using m1, by simpa using m2, .inl ⟨rfl, rfl⟩, fun K2 a => Sim.whenF hb (by decide) Sim.ret⟩
  obtain ⟨q2, n1, n2, n3, n4⟩ := M2
  refine ⟨q ++ q2, ⟨by simpa using n1, ⟨_, rfl⟩, tS.fb (by have : (tkAt K s.i).1 = 1 := k1; omega), fun K2 => ?_⟩, by simpa using n2, ?_, k1⟩
  · refine Sim.cast ?_ (Sim.at (F := fun i => pnamedA K2 (r K2) i) fun a => (Sim.bind (Sim.of k1 (by decide)) (Sim.bind (Sim.node h2) (Sim.bind (m4 K2 a) (n4 K2 a)))))
    simp
  rcases m3 with ⟨a1, a2⟩ | ⟨u, a1⟩
  · rcases n3 with ⟨b1, b2⟩ | ⟨u, b1⟩
    · exact .inl ⟨by simp [a1, b1], by rw [b2, a2]⟩
    exact .inr ⟨u, by simp [a1, b1, a2]⟩
  exact .inr ⟨u ++ toks q2, by simp [a1]⟩
def pparamA (K : List Tk) (r : Rec) (a : Nat) : PM Int := (pof K 1).bind fun nm => (r.typ).bind fun t => pnode 19 nm a [t]
def pparam (K : List Tk) (r : Rec) : PM Int := fun s => pparamA K r s.i s
theorem pparam_s (ko : KO K) (hr : RecS K r) : Gv K fun K => pparam K (r K) := fun s v s' h => by
  obtain ⟨nm, s1, h1, h⟩ := Gt h
  obtain ⟨k1, e1, e2⟩ := pof_ok h1
  subst e1 e2
  obtain ⟨t, s2, h2, h3⟩ := Gt h
  obtain ⟨p, g, gd⟩ := hr.typ _ _ _ h2
  obtain ⟨e3, e4⟩ := GI h3
  have tS := ko.at (i := s.i) (show (s.tok K).1 ≠ 0 by rw [k1]; decide)
  refine ⟨some (s.tok K) :: none :: p, ⟨?_, ⟨_, rfl⟩, tS.fb (by have : (tkAt K s.i).1 = 1 := k1; omega), fun K2 => ?_⟩⟩
  · subst e3 e4; exact Pt.named (.inr (.inl rfl)) tS k1 g.pt
  refine Sim.cast ?_ (Sim.at (F := fun i => pparamA K2 (r K2) i) fun a => Sim.bind (Sim.of k1 (by decide)) (Sim.bind (g.sim K2) (Sim.node h3)))
  simp
structure GdS (K : List Tk) (m : List Tk → Nat → PM Int) (s : PS) (v : Int) (s' : PS) (B : Pcs) : Prop where
  pt : PtS s'.nodes v B
  hd : ∃ B', B = some (6, [40]) :: B'
  tok : s.tok K = (6, [40])
  sim : ∀ K2 a, Sim K K2 (m K2 a) s v s' (toks B)
def resT (t : Tk) : Prop := t.1 = 1 ∨ isB t [[42], [91], [40], [109, 97, 112], [102, 117, 110, 99], [115, 116, 114, 117, 99, 116], [105, 110, 116, 101, 114, 102, 97, 99, 101]] = true
instance : DecidablePred resT := fun t => by unfold resT; infer_instance
theorem resT_stop (t : Tk) (h : stopT t = true) : ¬ resT t := by
  rintro (q | q)
  · unfold stopT isB at h
    simp only [Bool.or_eq_true, Bool.and_eq_true, beq_iff_eq] at h
    omega
  rw [stop_no (by decide) h] at q; cases q
theorem psig_s (ko : KO K) (hr : RecS K r) {a0 : Nat} {s s' : PS} {v : Int} (h : psignature K (r K) a0 s = .ok (v, s')) : ∃ B, GdS K (fun K a => psignature K (r K) a) s v s' B := by
  unfold psignature at h
  obtain ⟨u, s1, h1, h⟩ := Gt h
  obtain ⟨hb, e1⟩ := HJ h1
  subst e1
  have t0 := ko.op hb (by rw [GR]; decide)
  obtain ⟨kids, s2, h2, h⟩ := Gt h
  have M : ∃ P, PtO s2.nodes kids sepC P ∧ ∀ K2, Sim K K2 (pwhen K2 [41] (PM.ret []) (plist K2 [41] (pparam K2 (r K2)))) s.next kids s2 (toks P ++ [(6, [41])]) := by
    rcases GV h2 with ⟨hb2, h2⟩ | ⟨hb2, h2⟩
    · obtain ⟨e5, e6⟩ := HL h2
      subst e5 e6
      have hd := ko.op hb2 (by rw [GR]; decide)
      exact ⟨[], .inl ⟨rfl, rfl⟩, fun K2 => Sim.cast (by rw [hd]; rfl) (Sim.whenT hb2 Sim.ret)⟩
    obtain ⟨P, hn, pl, ⟨P', hP'⟩, sm⟩ := plist_s (one := fun K => pparam K (r K)) ko (.inr rfl) (pparam_s ko hr) h2
    exact ⟨P, .inr pl, fun K2 => Sim.whenF' (ts' := toks P' ++ [(6, [41])]) hb2 (by rw [hP']; rfl) (sm K2)⟩
  obtain ⟨P, pP, sP⟩ := M
  have M2 : ∃ B', PtS s'.nodes v (some (6, [40]) :: (P ++ (some (6, [41]) :: B'))) ∧ ∀ K2 a, Sim K K2 (fun s => if resT (s.tok K2) then (((r K2).typ).bind fun t => pnode 15 [] a (kids ++ [t])) s else (pnone.bind fun t => pnode 15 [] a (kids ++ [t])) s) s2 v s' (toks B') := by
    replace h : (if resT (s2.tok K) then (((r K).typ).bind fun t => pnode 15 [] a0 (kids ++ [t])) s2 else (pnone.bind fun t => pnode 15 [] a0 (kids ++ [t])) s2) = .ok (v, s') := h
    by_cases hc : resT (s2.tok K)
    · rw [if_pos hc] at h
      obtain ⟨t, s3, h3, h4⟩ := Gt h
      obtain ⟨p, g, gd⟩ := hr.typ _ _ _ h3
      obtain ⟨e3, e4⟩ := GI h4
      obtain ⟨new, en⟩ := (g.sim []).src.pre
      obtain ⟨p', hp'⟩ := g.hd
      refine ⟨none :: p, ?_, fun K2 a => ?_⟩
      · subst e3 e4
        have : PtO s3.nodes kids sepC P := by rw [en]; exact pP.more new
        exact PtS.res1 this g.pt gd
      exact Sim.iteT (c := resT) hc (ts' := toks p') (by rw [hp']; rfl) (Sim.cast (by simp) (Sim.bind (g.sim K2) (Sim.node h4)))
    rw [if_neg hc] at h
    obtain ⟨t, s3, h3, h4⟩ := Gt h
    obtain ⟨e3, e4⟩ := GI h4
    obtain ⟨e5, e6⟩ := GI h3
    refine ⟨[], ?_, fun K2 a => ?_⟩
    · subst e3 e4 e5 e6
      exact PtS.res0 (pP.more _) (Kd.new _ ⟨0, [], [], s2.i⟩)
    exact Sim.iteF (c := resT) hc resT_stop (Sim.cast (by simp) (Sim.bind (Sim.none h3) (Sim.node h4)))
  obtain ⟨B', n1, n2⟩ := M2
  refine ⟨_, n1, ⟨_, rfl⟩, t0, fun K2 a => ?_⟩
  refine Sim.cast ?_ (Sim.bind (f := fun _ => (pwhen K2 [41] (PM.ret []) (plist K2 [41] (pparam K2 (r K2)))).bind fun kids => fun s => if resT (s.tok K2) then (((r K2).typ).bind fun t => pnode 15 [] a (kids ++ [t])) s else (pnone.bind fun t => pnode 15 [] a (kids ++ [t])) s) (Sim.must hb) (Sim.bind (sP K2) (n2 K2 a)))
  rw [t0]; simp
theorem behind_eq {K : List Tk} (w : Wf K) {s : PS} (h : (s.tok K).1 ≠ 0) : min (s.i + 1) (K.length - 1) = s.i + 1 := by
  have h1 := tk_lt h
  have : s.i ≠ K.length - 1 := fun e => h (by show (tkAt K s.i).1 = 0; rw [e]; exact w.last)
  omega
theorem drop_two {K2 : List Tk} {i : Nat} {t : Tk} {r : List Tk} (h : K2.drop i = t :: r) (hr : r ≠ []) : min (i + 1) (K2.length - 1) = i + 1 ∧ ∃ u q, r = u :: q ∧ tkAt K2 (i + 1) = u := by
  obtain ⟨_, h2, h3⟩ := GJ h
  cases r with
  | nil => exact absurd rfl hr
  | cons u q =>
    obtain ⟨h4, _, h5⟩ := GJ h2
    exact ⟨by omega, u, q, rfl, h4⟩
theorem nb_ne {rest : List Tk} (h : NB rest) : rest ≠ [] := by obtain ⟨r, q | q⟩ := h <;> (rw [q]; simp)
theorem pfield_s (ko : KO K) (w : Wf K) (hr : RecS K r) : GvF K fun K => pfield K (r K) := fun s v s' h he => by
  replace h : pfield K (r K) s = .ok (v, s') := h
  unfold pfield at h
  split at h
  · rename_i hc
    obtain ⟨t, s1, h1, h2⟩ := Gt h
    obtain ⟨p, g, _⟩ := hr.typ _ _ _ h1
    obtain ⟨e3, e4⟩ := GI h2
    obtain ⟨p', hp'⟩ := g.hd
    have sm : ∀ K2 a, Sim K K2 ((r K2).typ.bind fun t => pnode 18 [] a [t]) s v s' (toks p) := fun K2 a => Sim.cast (by simp) (Sim.bind (g.sim K2) (Sim.node h2))
    refine ⟨p, ?_, g.hd, (sm [] 0).src, fun K2 rest σ hd hn hq => ?_⟩
    · subst e3 e4; exact Pt.bare (.inl rfl) g.pt
    have hs : σ.tok K2 = s.tok K := (GJ (by rw [hd, hp']; rfl)).1
    unfold pfield
    rw [hs, if_pos hc]
    exact (sm K2 σ.i).run rest σ hd (hn.nx he.stop) hq
  rename_i hc
  split at h
  · rename_i hc2
    obtain ⟨t, s1, h1, h2⟩ := Gt h
    obtain ⟨p', g, _, hnx, k1⟩ := pnamed_s ko hr h1
    obtain ⟨e3, e4⟩ := GI h2
    rw [behind_eq w (by rw [k1]; decide)] at hc2
    have sm : ∀ K2 a, Sim K K2 ((pnamed K2 (r K2)).bind fun t => pnode 18 [] a [t]) s v s' (toks (some (s.tok K) :: p')) := fun K2 a => Sim.cast (by simp) (Sim.bind (g.sim K2) (Sim.node h2))
    refine ⟨some (s.tok K) :: p', ?_, ⟨_, rfl⟩, (sm [] 0).src, fun K2 rest σ hd hn hq => ?_⟩
    · subst e3 e4; exact Pt.bare (.inl rfl) g.pt
    have hs : σ.tok K2 = s.tok K := (GJ (by rw [hd]; rfl)).1
    have hne : toks p' ++ rest ≠ [] := by
      intro e; exact nb_ne hn (List.append_eq_nil_iff.1 e).2
    obtain ⟨hmin, u, q, hu, ht⟩ := drop_two (show K2.drop σ.i = s.tok K :: (toks p' ++ rest) by rw [hd]; rfl) hne
    have htest : semiB u = true ∨ isB u [[125], [46]] = true := by
      rcases hnx with ⟨z1, _⟩ | ⟨z, z1⟩
      · rw [z1, List.nil_append] at hu
        obtain ⟨q2, h5 | h5⟩ := hn
        · rw [h5] at hu; injection hu with hu _; subst hu; exact .inl rfl
        rw [h5] at hu; injection hu with hu _; subst hu; exact .inr rfl
      rw [z1] at hu; injection hu with hu _
      rw [← hu]; exact hc2.2
    unfold pfield
    rw [hs, if_neg hc, hmin, ht, if_pos ⟨k1, htest⟩]
    exact (sm K2 σ.i).run rest σ hd (hn.nx he.stop) hq
  rename_i hc2
  obtain ⟨nm, s1, h1, h⟩ := Gt h
  obtain ⟨k1, e1, e2⟩ := pof_ok h1
  subst e1 e2
  obtain ⟨t, s2, h2, h3⟩ := Gt h
  obtain ⟨p, g, _⟩ := hr.typ _ _ _ h2
  obtain ⟨e3, e4⟩ := GI h3
  obtain ⟨p', hp'⟩ := g.hd
  have tS := ko.at (i := s.i) (show (s.tok K).1 ≠ 0 by rw [k1]; decide)
  rw [behind_eq w (by rw [k1]; decide)] at hc2
  have sm : ∀ K2 a, Sim K K2 ((pof K2 1).bind fun nm => (r K2).typ.bind fun t => pnode 18 nm a [t]) s v s' (toks (some (s.tok K) :: none :: p)) := fun K2 a => Sim.cast (by simp) (Sim.bind (Sim.of k1 (by decide)) (Sim.bind (g.sim K2) (Sim.node h3)))
  refine ⟨some (s.tok K) :: none :: p, ?_, ⟨_, rfl⟩, (sm [] 0).src, fun K2 rest σ hd hn hq => ?_⟩
  · subst e3 e4; exact Pt.named (.inl rfl) tS k1 g.pt
  have hs : σ.tok K2 = s.tok K := (GJ (by rw [hd]; rfl)).1
  obtain ⟨hmin, u, q, hu, ht⟩ := drop_two (show K2.drop σ.i = s.tok K :: (toks p ++ rest) by rw [hd]; rfl) (by rw [hp']; simp)
  have hu2 : u = tkAt K (s.i + 1) := by rw [hp'] at hu; injection hu with hu _; exact hu.symm
  unfold pfield
  rw [hs, if_neg hc, hmin, ht, hu2, if_neg hc2]
  exact (sm K2 σ.i).run rest σ hd (hn.nx he.stop) hq
def pelemA (K : List Tk) (r : Rec) (a : Nat) : PM Int := (pof K 1).bind fun nm => fun s1 => ((psignature K r s1.i).bind fun f => pnode 20 nm a [f]) s1
theorem pelem_s (ko : KO K) (_ : Wf K) (hr : RecS K r) (hx : RecX r) : GvF K fun K => pelem K (r K) := fun s v s' h he => by
  replace h : pelem K (r K) s = .ok (v, s') := h
  unfold pelem at h
  split at h
  · rename_i hc
    obtain ⟨nm, s1, h1, h⟩ := Gt h
    obtain ⟨k1, e1, e2⟩ := pof_ok h1
    subst e1 e2
    obtain ⟨f, s2, h2, h3⟩ := Gt h
    obtain ⟨B, g⟩ := psig_s ko hr h2
    obtain ⟨B', hB'⟩ := g.hd
    obtain ⟨e3, e4⟩ := GI h3
    have tS := ko.at (i := s.i) (show (s.tok K).1 ≠ 0 by rw [k1]; decide)
    have sm : ∀ K2 a, Sim K K2 (pelemA K2 (r K2) a) s v s' (toks (some (s.tok K) :: B)) := fun K2 a =>
      Sim.cast (by simp) (Sim.bind (Sim.of k1 (by decide)) (Sim.at (F := fun i => (psignature K2 (r K2) i).bind fun f => pnode 20 (s.tok K).2 a [f]) fun i => Sim.bind (g.sim K2 i) (Sim.node h3)))
    refine ⟨some (s.tok K) :: B, ?_, ⟨_, rfl⟩, (sm [] 0).src, fun K2 rest σ hd hn hq => ?_⟩
    · subst e3 e4; exact Pt.method tS k1 g.pt
    have hs : σ.tok K2 = s.tok K := (GJ (by rw [hd]; rfl)).1
    obtain ⟨hmin, u, q, hu, ht⟩ := drop_two (show K2.drop σ.i = s.tok K :: (toks B ++ rest) by rw [hd]; rfl) (by rw [hB']; simp)
    have hu2 : u = (6, [40]) := by rw [hB'] at hu; injection hu with hu _; exact hu.symm
    unfold pelem
    rw [hs, hmin, ht, hu2, if_pos ⟨k1, rfl⟩]
    exact (sm K2 σ.i).run rest σ hd (hn.nx he.stop) hq
  rename_i hc
  obtain ⟨p, g⟩ := hr.union _ _ _ h
  obtain ⟨p', hp'⟩ := g.hd
  refine ⟨p, g.pt, g.hd, (g.sim []).src, fun K2 rest σ hd hn hq => ?_⟩
  have hs : σ.tok K2 = s.tok K := (GJ (by rw [hd, hp']; rfl)).1
  obtain ⟨σ', r1, d1, q1⟩ := (g.sim K2).run rest σ hd (hn.nx he.stop) hq
  have hno : ¬ ((s.tok K).1 = 1 ∧ isB (tkAt K2 (min (σ.i + 1) (K2.length - 1))) [[40]] = true) := by
    rintro ⟨k1, hb⟩
    have hne : toks p' ++ rest ≠ [] := by
      intro e; exact nb_ne hn (List.append_eq_nil_iff.1 e).2
    obtain ⟨hmin, u, q, hu, ht⟩ := drop_two (show K2.drop σ.i = s.tok K :: (toks p' ++ rest) by rw [hd, hp']; rfl) hne
    rw [hmin] at hb
    rcases hx.union K2 _ _ _ r1 (by rw [hs]; exact k1) with hi | hi
    · rw [hi] at d1
      have d2 := (GJ (show K2.drop σ.i = s.tok K :: (toks p' ++ rest) by rw [hd, hp']; rfl)).2.1
      obtain ⟨q2, h5 | h5⟩ := hn
      · rw [h5] at d1
        rw [(GJ d1).1] at hb; exact absurd hb (by decide)
      rw [h5] at d1
      rw [(GJ d1).1] at hb; exact absurd hb (by decide)
    obtain ⟨_, e1⟩ := is_eq hb
    unfold isB at hi
    simp only [Bool.and_eq_true, List.contains_iff_mem, e1] at hi
    exact absurd hi.2 (by decide)
  refine ⟨σ', ?_, d1, q1⟩
  unfold pelem
  rw [hs, if_neg hno]
  exact r1
end
end Go.Sy
namespace Go.Sy
open Go
section
variable {K : List Tk} {r : List Tk → Rec}
theorem plines_s (ko : KO K) {one : List Tk → PM Int} (ho : GvF K one) {s s' : PS} {l : List Int} (h : plines K (one K) s = .ok (l, s')) :
    ∃ P, PtO s'.nodes l sepS P ∧ (l = [] ↔ P = []) ∧ ∀ K2, Sim K K2 (plines K2 (one K2)) s l s' ((6, [123]) :: (toks P ++ [(6, [125])])) := by
  unfold plines at h
  obtain ⟨u, s1, h1, h⟩ := Gt h
  obtain ⟨hb, e1⟩ := HJ h1
  subst e1
  have t0 := ko.op hb (by rw [GR]; decide)
  obtain ⟨l', P, el, hP, sm⟩ := plinesF_s ko ho _ _ _ _ _ h
  rw [List.nil_append] at el
  subst el
  have S : ∀ K2 f2, (toks P).length + 1 ≤ f2 → Sim K K2 ((pmust K2 [123]).bind fun _ => plinesF K2 (one K2) f2 []) s l s' ((6, [123]) :: (toks P ++ [(6, [125])])) := fun K2 f2 hl =>
    Sim.cast (by rw [t0]; rfl) (Sim.bind (Sim.must hb) (sm K2 f2 hl))
  refine ⟨P, ?_, ?_, fun K2 => ⟨(S [] _ (Nat.le_refl _)).src, Run.len fun hl => ?_⟩⟩
  · rcases hP with ⟨e1, e2, _⟩ | ⟨_, pl, _, _⟩
    · exact .inl ⟨e1, e2⟩
    exact .inr pl
  · rcases hP with ⟨e1, e2, _⟩ | ⟨hn, _, ⟨P', e⟩, _⟩
    · exact ⟨fun _ => e2, fun _ => e1⟩
    exact ⟨fun q => absurd q hn, fun q => by rw [e] at q; cases q⟩
  exact (S K2 K2.length (by simp at hl; omega)).run
def pliteralA (K : List Tk) (r : Rec) (a : Nat) : PM Int :=
  pwhen K [91] (pwhen K [93] (r.typ.bind fun t => pnode 12 [] a [t]) ((r.expr 1).bind fun m => (pmust K [93]).bind fun _ => r.typ.bind fun t => pnode 13 [] a [m, t]))
  (pwhen K [109, 97, 112] ((pmust K [91]).bind fun _ => r.typ.bind fun k => (pmust K [93]).bind fun _ => r.typ.bind fun t => pnode 14 [] a [k, t])
  (pwhen K [102, 117, 110, 99] (psignature K r a)
  (pwhen K [115, 116, 114, 117, 99, 116] ((plines K (pfield K r)).bind fun l => pnode 16 [] a l)
  (pwhen K [105, 110, 116, 101, 114, 102, 97, 99, 101] ((plines K (pelem K r)).bind fun l => pnode 17 [] a l)
  (pfail 5)))))
theorem key_not (x : Bs) (h : x ∈ [kwMap, kwFunc, kwStruct, kwIface]) : x ∉ opsB ∧ x ≠ [10] := by
  rw [opsB_eq]
  simp only [List.mem_cons, List.not_mem_nil, or_false] at h
  rcases h with h | h | h | h <;> (subst h; decide)
theorem pliteral_s (ko : KO K) (w : Wf K) (hr : RecS K r) (hx : RecX r) : GvD K fun K => pliteral K (r K) := fun s v s' h => by
  replace h : pliteral K (r K) s = .ok (v, s') := h
  unfold pliteral at h
  have fin : ∀ {p : Pcs}, (∀ K2 a, Sim K K2 (pliteralA K2 (r K2) a) s v s' (toks p)) → ∀ K2, Sim K K2 (pliteral K2 (r K2)) s v s' (toks p) := fun hp K2 => Sim.at (F := fun i => pliteralA K2 (r K2) i) fun a => hp K2 a
  rcases GV h with ⟨hb, h⟩ | ⟨hb, h⟩
  · have t0 := ko.op hb (by rw [GR]; decide)
    rcases GV h with ⟨hb2, h⟩ | ⟨hb2, h⟩
    · obtain ⟨t, s1, h1, h2⟩ := Gt h
      obtain ⟨p, g, gd⟩ := hr.typ _ _ _ h1
      obtain ⟨e3, e4⟩ := GI h2
      have t1 := ko.op hb2 (by rw [GR]; decide)
      have P := Pt.slice (tn := s.i) g.pt gd
      refine ⟨some (6, [91]) :: some (6, [93]) :: p, ⟨by subst e3 e4; exact P.1, ⟨_, by rw [t0]⟩, by rw [t0]; decide, fin fun K2 a => ?_⟩, P.2⟩
      unfold pliteralA
      exact Sim.cast (by rw [t0, t1]; simp) (Sim.whenT hb (Sim.whenT hb2 (Sim.bind (g.sim K2) (Sim.node h2))))
    obtain ⟨m, s1, h1, h⟩ := Gt h
    obtain ⟨pm, gm⟩ := hr.expr 1 _ _ _ h1
    obtain ⟨u, s2, h2, h⟩ := Gt h
    obtain ⟨hb3, e2⟩ := HJ h2
    subst e2
    obtain ⟨t, s3, h3, h4⟩ := Gt h
    obtain ⟨p, g, gd⟩ := hr.typ _ _ _ h3
    obtain ⟨e3, e4⟩ := GI h4
    have t1 := ko.op hb3 (by rw [GR]; decide)
    obtain ⟨new, en⟩ := (g.sim []).src.pre
    obtain ⟨p', hp'⟩ := gm.hd
    have P := Pt.array (tn := s.i) (show Pt s3.nodes m pm by rw [en]; exact gm.pt.more new) g.pt gd
    refine ⟨some (6, [91]) :: (pm ++ (some (6, [93]) :: p)), ⟨by subst e3 e4; exact P.1, ⟨_, by rw [t0]⟩, by rw [t0]; decide, fin fun K2 a => ?_⟩, P.2⟩
    unfold pliteralA
    exact Sim.cast (by rw [t0, t1]; simp) (Sim.whenT hb (Sim.whenF' (ts' := toks p' ++ ([s1.tok K] ++ (toks p ++ []))) hb2 (by rw [hp']; rfl) (Sim.bind (gm.sim K2) (Sim.bind (Sim.must hb3) (Sim.bind (g.sim K2) (Sim.node h4))))))
  rcases GV h with ⟨hb2, h⟩ | ⟨hb2, h⟩
  · have t0 := ko.key hb2 (key_not kwMap (by simp))
    obtain ⟨u, s1, h1, h⟩ := Gt h
    obtain ⟨hb3, e1⟩ := HJ h1
    subst e1
    obtain ⟨k, s2, h2, h⟩ := Gt h
    obtain ⟨pk, gk, _⟩ := hr.typ _ _ _ h2
    obtain ⟨u2, s3, h3, h⟩ := Gt h
    obtain ⟨hb4, e2⟩ := HJ h3
    subst e2
    obtain ⟨t, s4, h4, h5⟩ := Gt h
    obtain ⟨p, g, gd⟩ := hr.typ _ _ _ h4
    obtain ⟨e3, e4⟩ := GI h5
    have t1 := ko.op hb3 (by rw [GR]; decide)
    have t2 := ko.op hb4 (by rw [GR]; decide)
    obtain ⟨new, en⟩ := (g.sim []).src.pre
    have P := Pt.map (tn := s.i) (show Pt s4.nodes k pk by rw [en]; exact gk.pt.more new) g.pt gd
    refine ⟨some (7, kwMap) :: some (6, [91]) :: (pk ++ (some (6, [93]) :: p)), ⟨by subst e3 e4; exact P.1, ⟨_, by rw [t0]; rfl⟩, by rw [t0]; decide, fin fun K2 a => ?_⟩, P.2⟩
    unfold pliteralA
    exact Sim.cast (by rw [t0, t1, t2]; simp [kwMap]) (Sim.whenF hb (by decide) (Sim.whenT hb2 (Sim.bind (Sim.must hb3) (Sim.bind (gk.sim K2) (Sim.bind (Sim.must hb4) (Sim.bind (g.sim K2) (Sim.node h5)))))))
  rcases GV h with ⟨hb3, h⟩ | ⟨hb3, h⟩
  · have t0 := ko.key hb3 (key_not kwFunc (by simp))
    obtain ⟨B, g⟩ := psig_s ko hr h
    have P := g.pt.func
    refine ⟨some (7, kwFunc) :: B, ⟨P.1, ⟨_, by rw [t0]; rfl⟩, by rw [t0]; decide, fin fun K2 a => ?_⟩, P.2⟩
    unfold pliteralA
    exact Sim.cast (by rw [t0]; simp [kwFunc]) (Sim.whenF hb (by decide) (Sim.whenF hb2 (by decide) (Sim.whenT hb3 (g.sim K2 a))))
  rcases GV h with ⟨hb4, h⟩ | ⟨hb4, h⟩
  · have t0 := ko.key hb4 (key_not kwStruct (by simp))
    obtain ⟨l, s1, h1, h2⟩ := Gt h
    obtain ⟨P, pl, hne, sm⟩ := plines_s (one := fun K => pfield K (r K)) ko (pfield_s ko w hr) h1
    obtain ⟨e3, e4⟩ := GI h2
    obtain ⟨q, q1, q2, q3⟩ := Pt.braces (k := 16) (tn := s.i) (.inl ⟨rfl, rfl⟩) pl hne
    refine ⟨some (7, kwStruct) :: q, ⟨by subst e3 e4; exact q1, ⟨_, by rw [t0]; rfl⟩, by rw [t0]; decide, fin fun K2 a => ?_⟩, q2⟩
    unfold pliteralA
    exact Sim.cast (by rw [t0, GY, q3]; simp [kwStruct]) (Sim.whenF hb (by decide) (Sim.whenF hb2 (by decide) (Sim.whenF hb3 (by decide) (Sim.whenT hb4 (Sim.bind (sm K2) (Sim.node h2))))))
  rcases GV h with ⟨hb5, h⟩ | ⟨hb5, h⟩
  · have t0 := ko.key hb5 (key_not kwIface (by simp))
    obtain ⟨l, s1, h1, h2⟩ := Gt h
    obtain ⟨P, pl, hne, sm⟩ := plines_s (one := fun K => pelem K (r K)) ko (pelem_s ko w hr hx) h1
    obtain ⟨e3, e4⟩ := GI h2
    obtain ⟨q, q1, q2, q3⟩ := Pt.braces (k := 17) (tn := s.i) (.inr ⟨rfl, rfl⟩) pl hne
    refine ⟨some (7, kwIface) :: q, ⟨by subst e3 e4; exact q1, ⟨_, by rw [t0]; rfl⟩, by rw [t0]; decide, fin fun K2 a => ?_⟩, q2⟩
    unfold pliteralA
    exact Sim.cast (by rw [t0, GY, q3]; simp [kwIface]) (Sim.whenF hb (by decide) (Sim.whenF hb2 (by decide) (Sim.whenF hb3 (by decide) (Sim.whenF hb4 (by decide) (Sim.whenT hb5 (Sim.bind (sm K2) (Sim.node h2)))))))
  exact (Hx h).elim
theorem render_head {p p' : Pcs} {t : Tk} (h : p = some t :: p') (ht : TokS t) (hf : t.2.head? ≠ some 61) (s : Bs) : (render p ++ s).head? ≠ some 61 := by
  obtain ⟨c, q, e⟩ : ∃ c q, t.2 = c :: q := by
    cases e : t.2 with
    | nil => exact absurd e ht.ne
    | cons c q => exact ⟨c, q, rfl⟩
  rw [h, render_some, e]
  rw [e] at hf
  simpa using hf
theorem Gd.rh {m : List Tk → PM Int} {s s' : PS} {v : Int} {p : Pcs} (g : Gd K m s v s' p) (s0 : Bs) : (render p ++ s0).head? ≠ some 61 := by
  obtain ⟨p', hp'⟩ := g.hd
  exact render_head hp' (g.pt.sg.tk _ (by rw [hp']; simp)) g.fb s0
def pbareA (K : List Tk) (r : Rec) (a : Nat) : PM Int := fun s =>
  if (s.tok K).1 = 1 then pnamed K r s
  else pwhen K [42] (r.typ.bind fun t => pnode 9 [42] a [t])
    (pwhen K [40] (r.typ.bind fun t => (pmust K [41]).bind fun _ => pnode 11 [] a [t]) (pliteral K r)) s
theorem pbare_s (ko : KO K) (w : Wf K) (hr : RecS K r) (hx : RecX r) : GvD K fun K => pbare K (r K) := fun s v s' h => by
  replace h : pbare K (r K) s = .ok (v, s') := h
  unfold pbare at h
  split at h
  · rename_i hc
    obtain ⟨p', g, gd, _, k1⟩ := pnamed_s ko hr h
    refine ⟨_, ⟨g.pt, g.hd, g.fb, fun K2 => Sim.at (F := fun i => pbareA K2 (r K2) i) fun a => ?_⟩, gd⟩
    exact Sim.iteT (c := fun t => t.1 = 1) (ts' := toks p') hc rfl (g.sim K2)
  rename_i hc
  have fin : ∀ {p p' : Pcs}, p = some (s.tok K) :: p' → (∀ K2 a, Sim K K2 (pwhen K2 [42] ((r K2).typ.bind fun t => pnode 9 [42] a [t]) (pwhen K2 [40] ((r K2).typ.bind fun t => (pmust K2 [41]).bind fun _ => pnode 11 [] a [t]) (pliteral K2 (r K2)))) s v s' (toks p)) → ∀ K2, Sim K K2 (pbare K2 (r K2)) s v s' (toks p) := fun {p p'} e hp K2 =>
    Sim.at (F := fun i => pbareA K2 (r K2) i) fun a => Sim.iteF' (c := fun t => t.1 = 1) (ts' := toks p') hc (by rw [e]; rfl) (hp K2 a)
  rcases GV h with ⟨hb, h⟩ | ⟨hb, h⟩
  · have t0 := ko.op hb (by rw [GR]; decide)
    obtain ⟨t, s1, h1, h2⟩ := Gt h
    obtain ⟨p, g, gd⟩ := hr.typ _ _ _ h1
    obtain ⟨e3, e4⟩ := GI h2
    have P := Pt.unary (tn := s.i) (t := [42]) (by decide) g.pt g.rh
    refine ⟨some (6, [42]) :: p, ⟨by subst e3 e4; exact P.1, ⟨_, by rw [t0]⟩, by rw [t0]; decide, fin (p' := p) (by rw [t0]) fun K2 a => ?_⟩, P.2 gd⟩
    exact Sim.cast (by rw [t0]; simp) (Sim.whenT hb (Sim.bind (g.sim K2) (Sim.node h2)))
  rcases GV h with ⟨hb2, h⟩ | ⟨hb2, h⟩
  · have t0 := ko.op hb2 (by rw [GR]; decide)
    obtain ⟨t, s1, h1, h⟩ := Gt h
    obtain ⟨p, g, gd⟩ := hr.typ _ _ _ h1
    obtain ⟨u, s2, h2, h3⟩ := Gt h
    obtain ⟨hb3, e2⟩ := HJ h2
    subst e2
    obtain ⟨e3, e4⟩ := GI h3
    have t1 := ko.op hb3 (by rw [GR]; decide)
    have P := Pt.paren (tn := s.i) (a := s1.next.nodes) g.pt
    refine ⟨some (6, [40]) :: (p ++ [some (6, [41])]), ⟨by subst e3 e4; exact P.1, ⟨_, by rw [t0]⟩, by rw [t0]; decide, fin (p' := p ++ [some (6, [41])]) (by rw [t0]) fun K2 a => ?_⟩, P.2⟩
    exact Sim.cast (by rw [t0, t1]; simp) (Sim.whenF hb (by decide) (Sim.whenT hb2 (Sim.bind (g.sim K2) (Sim.bind (Sim.must hb3) (Sim.node h3)))))
  obtain ⟨p, g, gd⟩ := pliteral_s ko w hr hx _ _ _ h
  obtain ⟨p', hp'⟩ := g.hd
  exact ⟨p, ⟨g.pt, g.hd, g.fb, fin hp' fun K2 a => Sim.whenF hb (by decide) (Sim.whenF hb2 (by decide) (g.sim K2))⟩, gd⟩
def ptermA (K : List Tk) (r : Rec) (a : Nat) (f : Int → PM Int) : PM Int := (pwhen K [126] (PM.ret [126]) (PM.ret [])).bind fun x => r.typ.bind fun t => (pnode 22 x a [t]).bind f
theorem pterm_s (ko : KO K) (hr : RecS K r) {s s' : PS} {f : Int → PM Int} {v : Int} {a0 : Nat} (h : ptermA K (r K) a0 f s = .ok (v, s')) : ∃ p x s1, Pt s1.nodes x p ∧ (∃ p', p = some (s.tok K) :: p') ∧ (s.tok K).2.head? ≠ some 61 ∧ f x s1 = .ok (v, s') ∧ (∃ new, s1.nodes = s.nodes ++ new) ∧
    ∀ K2 a (f2 : Int → PM Int) ts, Sim K K2 (f2 x) s1 v s' ts → Sim K K2 (ptermA K2 (r K2) a f2) s v s' (toks p ++ ts) := by
  unfold ptermA at h
  obtain ⟨x0, s1, h1, h⟩ := Gt h
  obtain ⟨t, s2, h2, h⟩ := Gt h
  obtain ⟨p, g, _⟩ := hr.typ _ _ _ h2
  obtain ⟨x, s3, h3, h4⟩ := Gt h
  obtain ⟨e3, e4⟩ := GI h3
  rcases GV h1 with ⟨hb, h1⟩ | ⟨hb, h1⟩
  · have t0 := ko.op hb (by rw [GR]; decide)
    obtain ⟨e1, e2⟩ := HL h1
    subst e1 e2
    obtain ⟨new, en⟩ := (g.sim []).src.pre
    refine ⟨some (6, [126]) :: p, x, s3, by subst e3 e4; exact Pt.term1 g.pt, ⟨_, by rw [t0]⟩, by rw [t0]; decide, h4, ⟨new ++ [⟨22, [126], [t], a0⟩], by rw [e4]; simp [en]⟩, fun K2 a f2 ts k => ?_⟩
    unfold ptermA
    exact Sim.cast (by rw [t0]; simp) (Sim.bind (f := fun x => (r K2).typ.bind fun t => (pnode 22 x a [t]).bind f2) (Sim.whenT hb Sim.ret) (Sim.bind (g.sim K2) (Sim.bind (Sim.node h3) k)))
  obtain ⟨e1, e2⟩ := HL h1
  subst e1 e2
  obtain ⟨new, en⟩ := (g.sim []).src.pre
  refine ⟨p, x, s3, by subst e3 e4; exact Pt.term0 g.pt, g.hd, g.fb, h4, ⟨new ++ [⟨22, [], [t], a0⟩], by rw [e4]; simp [en]⟩, fun K2 a f2 ts k => ?_⟩
  unfold ptermA
  exact Sim.cast (by simp) (Sim.bind (f := fun x => (r K2).typ.bind fun t => (pnode 22 x a [t]).bind f2) (Sim.whenF hb (by decide) Sim.ret) (Sim.bind (g.sim K2) (Sim.bind (Sim.node h3) k)))
theorem punionF_s (ko : KO K) (hr : RecS K r) (a0 : Nat) : ∀ (f : Nat) (s : PS) (out : List Int) (v : Int) (s' : PS), punionF K (r K) a0 f out s = .ok (v, s') →
    ∃ (l : List Int) (P : Pcs) (s0 : PS), l ≠ [] ∧ PtL s0.nodes l sepU P ∧ (∃ P', P = some (s.tok K) :: P') ∧ (s.tok K).2.head? ≠ some 61 ∧ (∃ new, s0.nodes = s.nodes ++ new) ∧ s'.nodes = s0.nodes ++ [⟨21, [], out ++ l, a0⟩] ∧ v = (s0.nodes.length : Int) ∧ ∀ K2 a2 f2, (toks P).length ≤ f2 → Sim K K2 (punionF K2 (r K2) a2 f2 out) s v s' (toks P)
  | 0, s, out, v, s', h => (Hx h).elim
  | f + 1, s, out, v, s', h => by
    replace h : ptermA K (r K) s.i (fun v => pwhen K [124] (punionF K (r K) a0 f (out ++ [v])) (pnode 21 [] a0 (out ++ [v]))) s = .ok (v, s') := h
    obtain ⟨p, x, s1, pt, hd, hf, h1, ⟨new1, en1⟩, sm⟩ := pterm_s ko hr h
    have hne : 0 < (toks p).length := List.length_pos_iff.2 pt.en.ne
    have fin : ∀ {K2 a2 f2 ts}, Sim K K2 (pwhen K2 [124] (punionF K2 (r K2) a2 f2 (out ++ [x])) (pnode 21 [] a2 (out ++ [x]))) s1 v s' ts → Sim K K2 (punionF K2 (r K2) a2 (f2 + 1) out) s v s' (toks p ++ ts) := fun {K2 a2 f2 ts} k =>
      Sim.at (F := fun i => ptermA K2 (r K2) i (fun v => pwhen K2 [124] (punionF K2 (r K2) a2 f2 (out ++ [v])) (pnode 21 [] a2 (out ++ [v])))) fun i => sm K2 i _ ts k
    rcases GV h1 with ⟨hb, h1⟩ | ⟨hb, h1⟩
    · have t0 := ko.op hb (by rw [GR]; decide)
      obtain ⟨l, P, s0, hn, pl, _, _, ⟨new, en2⟩, en, ev, sm2⟩ := punionF_s ko hr a0 f _ _ _ _ h1
      have pt0 : Pt s0.nodes x p := by rw [en2]; exact pt.more new
      refine ⟨x :: l, p ++ sepU ++ P, s0, by simp, PtL.cons sepU_ok pt0 pl hn, ?_, hf, ⟨new1 ++ new, by rw [en2, ← List.append_assoc, ← en1]⟩, by rw [en]; simp, ev, fun K2 a2 f2 hl => ?_⟩
      · obtain ⟨p', hp'⟩ := hd
        exact ⟨p' ++ sepU ++ P, by rw [hp']; rfl⟩
      simp only [GU, List.length_append] at hl
      obtain ⟨f2', rfl⟩ : ∃ f2', f2 = f2' + 1 := ⟨f2 - 1, by omega⟩
      refine Sim.cast ?_ (fin (Sim.whenT hb (sm2 K2 a2 f2' (by have : (toks sepU).length = 1 := rfl; omega))))
      rw [t0]; simp [sepU]
    obtain ⟨e3, e4⟩ := GI h1
    refine ⟨[x], p, s1, by simp, PtL.one pt, hd, hf, ⟨new1, en1⟩, by rw [e4], e3, fun K2 a2 f2 hl => ?_⟩
    obtain ⟨f2', rfl⟩ : ∃ f2', f2 = f2' + 1 := ⟨f2 - 1, by omega⟩
    exact Sim.cast (by simp) (fin (Sim.whenF hb (by decide) (Sim.node h1)))
end
end Go.Sy
namespace Go.Sy
open Go
section
variable {K : List Tk} {r : List Tk → Rec}
theorem punion_s (ko : KO K) (hr : RecS K r) : Gv K fun K => punion K (r K) := fun s v s' h => by
  replace h : punionF K (r K) s.i K.length [] s = .ok (v, s') := h
  obtain ⟨l, P, s0, hn, pl, hd, hf, _, en, ev, sm⟩ := punionF_s ko hr s.i _ _ _ _ _ h
  rw [List.nil_append] at en
  refine ⟨P, ⟨by rw [en, ev]; exact Pt.union pl, hd, hf, fun K2 => Sim.at (F := fun i => punionF K2 (r K2) i K2.length []) fun a => ⟨(sm [] 0 _ (Nat.le_refl _)).src, Run.len fun hl => (sm K2 a K2.length hl).run⟩⟩⟩
theorem binds_is {t : Tk} (h : bindsB t ≠ 0) : isB t binOps = true := by
  unfold bindsB at h
  split at h
  · rename_i q; exact isB_more q (by decide)
  split at h
  · rename_i q; exact isB_more q (by decide)
  split at h
  · rename_i q; exact isB_more q (by decide)
  split at h
  · rename_i q; exact isB_more q (by decide)
  split at h
  · rename_i q; exact isB_more q (by decide)
  exact absurd rfl h
theorem binds_stop {t : Tk} (h : stopT t = true) : bindsB t = 0 := by
  rcases Nat.eq_zero_or_pos (bindsB t) with q | q
  · exact q
  have := binds_is (t := t) HS
  rw [stop_no (by decide) h] at this; cases this
theorem KO.isOp {s : PS} (ko : KO K) {x : List Bs} (h : isB (s.tok K) x = true) (hx : ∀ z ∈ x, z ∉ keysB) : (s.tok K).2 ∈ x ∧ s.tok K = (6, (s.tok K).2) := by
  have ht := ko.at (GS h)
  unfold isB at h
  simp only [Bool.and_eq_true, Bool.or_eq_true, beq_iff_eq, List.contains_iff_mem] at h
  refine ⟨h.2, ?_⟩
  rcases h.1 with q | q
  · exact Prod.ext q rfl
  exact absurd (ht.key q) (hx _ h.2)
theorem pexprF_s (ko : KO K) (hr : RecS K r) (least a0 : Nat) : ∀ (f : Nat) (s : PS) (x : Int) (px : Pcs) (v : Int) (s' : PS), Pt s.nodes x px → pexprF K (r K) least a0 f x s = .ok (v, s') →
    ∃ q, Pt s'.nodes v (px ++ q) ∧ ∀ K2 a2 f2, (toks q).length + 1 ≤ f2 → Sim K K2 (pexprF K2 (r K2) least a2 f2 x) s v s' (toks q)
  | 0, s, x, px, v, s', _, h => (Hx h).elim
  | f + 1, s, x, px, v, s', hx, h => by
    unfold pexprF at h
    split at h
    · rename_i hc
      injection h with h; injection h with h1 h2
      subst h1 h2
      refine ⟨[], by simpa using hx, fun K2 a2 f2 hl => ⟨Src.nil, fun rest σ hd hn he => ?_⟩⟩
      obtain ⟨f2', rfl⟩ : ∃ f2', f2 = f2' + 1 := ⟨f2 - 1, by omega⟩
      refine ⟨σ, ?_, hd, he⟩
      obtain ⟨t', q, e, ht⟩ := hn
      have d1 : σ.tok K2 = t' := (GJ (show K2.drop σ.i = t' :: q by rw [hd, e]; rfl)).1
      unfold pexprF
      rw [d1, if_pos]
      rcases ht with ht | ⟨_, ht⟩
      · rw [ht]; exact hc
      exact .inr (binds_stop ht)
    rename_i hc
    obtain ⟨y, s1, h1, h⟩ := Gt h
    obtain ⟨py, gy⟩ := hr.expr _ _ _ _ h1
    obtain ⟨x2, s2, h2, h3⟩ := Gt h
    obtain ⟨e3, e4⟩ := GI h2
    have hb : bindsB (s.tok K) ≠ 0 := fun e => hc (.inr e)
    obtain ⟨hm, t0⟩ := ko.isOp (binds_is hb) fun z hz => (binOps_ok z hz).2.2
    obtain ⟨new, en⟩ := (gy.sim []).src.pre
    have pt2 : Pt s2.nodes x2 (px ++ (none :: some (6, (s.tok K).2) :: none :: py)) := by
      subst e3 e4
      exact Pt.bin hm (show Pt s1.nodes x px by rw [en]; exact hx.more new) gy.pt
    obtain ⟨q, hq, sm⟩ := pexprF_s ko hr least a0 f s2 x2 _ v s' pt2 h3
    refine ⟨(none :: some (6, (s.tok K).2) :: none :: py) ++ q, by rw [← List.append_assoc]; exact hq, fun K2 a2 f2 hl => ?_⟩
    simp only [GU, GY, HK, List.length_append, List.length_cons] at hl
    obtain ⟨f2', rfl⟩ : ∃ f2', f2 = f2' + 1 := ⟨f2 - 1, by omega⟩
    have S : Sim K K2 (((r K2).expr (bindsB (s.tok K) + 1)).bind fun y => (pnode 10 (s.tok K).2 a2 [x, y]).bind fun v => pexprF K2 (r K2) least a2 f2' v) s.next v s' (toks py ++ toks q) :=
      Sim.cast (by simp) (Sim.bind (gy.sim K2) (Sim.bind (Sim.node h2) (sm K2 a2 f2' HS)))
    have et : toks ((none :: some (6, (s.tok K).2) :: none :: py) ++ q) = s.tok K :: (toks py ++ toks q) := by rw [t0]; simp
    rw [et]
    refine ⟨(Src.tok (GS (binds_is hb))).trans S.src, fun rest σ hd hn he => ?_⟩
    obtain ⟨d1, d2, _⟩ := GJ hd
    have e1 : σ.tok K2 = s.tok K := d1
    obtain ⟨σ', r1, d3, q3⟩ := S.run rest σ.next d2 hn ⟨he.nodes, he.deep⟩
    refine ⟨σ', ?_, d3, q3⟩
    unfold pexprF
    rw [e1, if_neg hc]; exact r1
def pexprA (K : List Tk) (r : Rec) (least a : Nat) : PM Int := r.unary.bind fun x => pexprF K r least a K.length x
theorem pexpr_s (ko : KO K) (hr : RecS K r) (least : Nat) : Gv K fun K => pexpr K (r K) least := fun s v s' h => by
  obtain ⟨x, s1, h1, h2⟩ := Gt h
  obtain ⟨px, gx⟩ := hr.unary _ _ _ h1
  obtain ⟨q, hq, sm⟩ := pexprF_s ko hr least _ _ _ _ _ _ _ gx.pt h2
  obtain ⟨p', hp'⟩ := gx.hd
  have hne : 0 < (toks px).length := List.length_pos_iff.2 gx.pt.en.ne
  refine ⟨px ++ q, ⟨hq, ⟨p' ++ q, by rw [hp']; rfl⟩, gx.fb, fun K2 => Sim.at (F := fun i => pexprA K2 (r K2) least i) fun a => ?_⟩⟩
  rw [GU]
  refine ⟨(gx.sim []).src.trans (sm [] 0 _ (Nat.le_refl _)).src, Run.len fun hl => ?_⟩
  rw [List.length_append] at hl
  exact (Sim.bind (gx.sim K2) (sm K2 a K2.length HS)).run
structure PtE (nodes : List Nd) (v : Int) (p : Pcs) : Prop where
  pt : Pt nodes v p
  dk : ∃ k, Kd nodes v k ∧ (k ≠ 2 → k ≠ 3 → Sg CD p)
theorem PtE.of {nodes : List Nd} {v : Int} {p : Pcs} (h : Pt nodes v p) (hd : Sg CD p) : PtE nodes v p := ⟨h, by obtain ⟨k, _, hk⟩ := h.kd; exact ⟨k, hk, fun _ _ => hd⟩⟩
theorem PtE.more {a : List Nd} (b : List Nd) {v : Int} {p : Pcs} (h : PtE a v p) : PtE (a ++ b) v p := ⟨h.pt.more b, by obtain ⟨k, h1, h2⟩ := h.dk; exact ⟨k, h1.more b, h2⟩⟩
theorem poperand_s (ko : KO K) (w : Wf K) (hr : RecS K r) (hx : RecX r) {s s' : PS} {v : Int} (h : poperand K (r K) s = .ok (v, s')) : ∃ p, Gd K (fun K => poperand K (r K)) s v s' p ∧ PtE s'.nodes v p := by
  unfold poperand at h
  split at h
  · rename_i hc
    obtain ⟨e3, e4⟩ := GI h
    have h0 : (s.tok K).1 ≠ 0 := by omega
    have tS := ko.at (i := s.i) h0
    have P := Pt.leaf (a := s.next.nodes) (tn := s.i) tS rfl (show 1 ≤ (s.tok K).1 ∧ (s.tok K).1 ≤ 5 by omega)
    have ek : Kd s'.nodes v (s.tok K).1 := by subst e3 e4; exact Kd.new _ ⟨(s.tok K).1, (s.tok K).2, [], s.i⟩
    have pt : Pt s'.nodes v [some (s.tok K)] := by subst e3 e4; exact P.1
    refine ⟨[some (s.tok K)], ⟨pt, ⟨_, rfl⟩, tS.fb (by show (s.tok K).1 ≤ 5; omega), fun K2 => ⟨(Src.tok h0).trans (Sim.node (K2 := []) (tn2 := 0) h).src, fun rest σ hd hn he => ?_⟩⟩, ⟨pt, _, ek, P.2⟩⟩
    obtain ⟨d1, d2, _⟩ := GJ hd
    have e1 : σ.tok K2 = s.tok K := d1
    obtain ⟨σ', r1, d3, q3⟩ := (Sim.node (K := K) (K2 := K2) (tn2 := σ.i) h).run rest σ.next d2 hn ⟨he.nodes, he.deep⟩
    refine ⟨σ', ?_, d3, q3⟩
    unfold poperand
    rw [e1, if_pos hc]; exact r1
  rename_i hc
  have fin : ∀ {p p' : Pcs}, p = some (s.tok K) :: p' → (∀ K2 a, Sim K K2 (pwhen K2 [40] (((r K2).expr 1).bind fun x => (pmust K2 [41]).bind fun _ => pnode 11 [] a [x]) (pliteral K2 (r K2))) s v s' (toks p)) → ∀ K2, Sim K K2 (poperand K2 (r K2)) s v s' (toks p) := fun {p p'} e hp K2 =>
    ⟨(hp [] 0).src, fun rest σ hd hn he => by
      have d1 : σ.tok K2 = s.tok K := (GJ (by rw [hd, e]; rfl)).1
      obtain ⟨σ', r1, d3, q3⟩ := (hp K2 σ.i).run rest σ hd hn he
      refine ⟨σ', ?_, d3, q3⟩
      unfold poperand
      rw [d1, if_neg hc]; exact r1⟩
  rcases GV h with ⟨hb, h⟩ | ⟨hb, h⟩
  · have t0 := ko.op hb (by rw [GR]; decide)
    obtain ⟨x, s1, h1, h⟩ := Gt h
    obtain ⟨p, g⟩ := hr.expr 1 _ _ _ h1
    obtain ⟨u, s2, h2, h3⟩ := Gt h
    obtain ⟨hb3, e2⟩ := HJ h2
    subst e2
    obtain ⟨e3, e4⟩ := GI h3
    have t1 := ko.op hb3 (by rw [GR]; decide)
    have P := Pt.paren (tn := s.i) (a := s1.next.nodes) g.pt
    have P' : Pt s'.nodes v (some (6, [40]) :: (p ++ [some (6, [41])])) := by subst e3 e4; exact P.1
    refine ⟨some (6, [40]) :: (p ++ [some (6, [41])]), ⟨P', ⟨_, by rw [t0]⟩, by rw [t0]; decide, fin (p' := p ++ [some (6, [41])]) (by rw [t0]) fun K2 a => ?_⟩, PtE.of P' P.2⟩
    exact Sim.cast (by rw [t0, t1]; simp) (Sim.whenT hb (Sim.bind (g.sim K2) (Sim.bind (Sim.must hb3) (Sim.node h3))))
  obtain ⟨p, g, gd⟩ := pliteral_s ko w hr hx _ _ _ h
  obtain ⟨p', hp'⟩ := g.hd
  exact ⟨p, ⟨g.pt, g.hd, g.fb, fin hp' fun K2 a => Sim.whenF hb (by decide) (g.sim K2)⟩, PtE.of g.pt gd⟩
theorem pprimF_s (ko : KO K) (hr : RecS K r) (a0 : Nat) : ∀ (f : Nat) (s : PS) (x : Int) (px : Pcs) (v : Int) (s' : PS), PtE s.nodes x px → pprimF K (r K) a0 f x s = .ok (v, s') →
    ∃ q, Pt s'.nodes v (px ++ q) ∧ ∀ K2 a2 f2, (toks q).length + 1 ≤ f2 → Sim K K2 (pprimF K2 (r K2) a2 f2 x) s v s' (toks q)
  | 0, s, x, px, v, s', _, h => (Hx h).elim
  | f + 1, s, x, px, v, s', hx, h => by
    unfold pprimF at h
    rcases GV h with ⟨hb, h⟩ | ⟨hb, h⟩
    · have t0 := ko.op hb (by rw [GR]; decide)
      obtain ⟨t, s1, h1, h⟩ := Gt h
      obtain ⟨k1, e1, e2⟩ := pof_ok h1
      subst e1 e2
      obtain ⟨x2, s2, h2, h3⟩ := Gt h
      obtain ⟨e3, e4⟩ := GI h2
      have tS := ko.at (i := s.next.i) (show (s.next.tok K).1 ≠ 0 by rw [k1]; decide)
      obtain ⟨k, hk, hkd⟩ := hx.dk
      have P := Pt.sel (tn := a0) hx.pt hk hkd tS k1
      have pt2 : Pt s2.nodes x2 (px ++ ((if k = 2 ∨ k = 3 then [none] else []) ++ [some (6, [46]), some (s.next.tok K)])) := by subst e3 e4; exact P.1
      obtain ⟨q, hq, sm⟩ := pprimF_s ko hr a0 f s2 x2 _ v s' (PtE.of pt2 P.2) h3
      have et : toks (((if k = 2 ∨ k = 3 then [none] else []) ++ [some (6, [46]), some (s.next.tok K)]) ++ q) = (6, [46]) :: s.next.tok K :: toks q := by split <;> simp
      refine ⟨((if k = 2 ∨ k = 3 then [none] else []) ++ [some (6, [46]), some (s.next.tok K)]) ++ q, by rw [← List.append_assoc]; exact hq, fun K2 a2 f2 hl => ?_⟩
      rw [et] at hl ⊢
      simp only [List.length_cons] at hl
      obtain ⟨f2', rfl⟩ : ∃ f2', f2 = f2' + 1 := ⟨f2 - 1, by omega⟩
      unfold pprimF
      exact Sim.cast (by rw [t0]; simp) (Sim.whenT hb (Sim.bind (Sim.of k1 (by decide)) (Sim.bind (Sim.node h2) (sm K2 a2 f2' HS))))
    rcases GV h with ⟨hb2, h⟩ | ⟨hb2, h⟩
    · have t0 := ko.op hb2 (by rw [GR]; decide)
      obtain ⟨kids, s1, h1, h⟩ := Gt h
      have M : ∃ l P, kids = x :: l ∧ PtO s1.nodes l sepC P ∧ ∀ K2, Sim K K2 (pwhen K2 [41] (PM.ret [x]) ((plist K2 [41] ((r K2).expr 1)).bind fun l => PM.ret (x :: l))) s.next kids s1 (toks P ++ [(6, [41])]) := by
        rcases GV h1 with ⟨hb3, h1⟩ | ⟨hb3, h1⟩
        · obtain ⟨e5, e6⟩ := HL h1
          subst e5 e6
          have t1 := ko.op hb3 (by rw [GR]; decide)
          exact ⟨[], [], rfl, .inl ⟨rfl, rfl⟩, fun K2 => Sim.cast (by rw [t1]; rfl) (Sim.whenT hb3 Sim.ret)⟩
        obtain ⟨l, s3, h4, h5⟩ := Gt h1
        obtain ⟨e5, e6⟩ := HL h5
        subst e5 e6
        obtain ⟨P, hn, pl, ⟨P', hP'⟩, sm⟩ := plist_s (one := fun K => (r K).expr 1) ko (.inr rfl) (hr.expr 1) h4
        exact ⟨l, P, rfl, .inr pl, fun K2 => Sim.whenF' (ts' := toks P' ++ [(6, [41])]) hb3 (by rw [hP']; rfl) (Sim.cast (by simp) (Sim.bind (sm K2) Sim.ret))⟩
      obtain ⟨l, P, el, pl, sM⟩ := M
      obtain ⟨x2, s2, h2, h3⟩ := Gt h
      obtain ⟨e3, e4⟩ := GI h2
      obtain ⟨new, en⟩ := (sM []).src.pre
      have P1 := Pt.call (tn := a0) (show Pt s1.nodes x px by rw [en]; exact hx.pt.more new) pl
      have pt2 : Pt s2.nodes x2 (px ++ (some (6, [40]) :: (P ++ [some (6, [41])]))) := by subst e3 e4 el; exact P1.1
      obtain ⟨q, hq, sm⟩ := pprimF_s ko hr a0 f s2 x2 _ v s' (PtE.of pt2 P1.2) h3
      refine ⟨(some (6, [40]) :: (P ++ [some (6, [41])])) ++ q, by rw [← List.append_assoc]; exact hq, fun K2 a2 f2 hl => ?_⟩
      simp only [GU, GY, toks_nil, List.length_append, List.length_cons, List.length_nil] at hl
      obtain ⟨f2', rfl⟩ : ∃ f2', f2 = f2' + 1 := ⟨f2 - 1, by omega⟩
      unfold pprimF
      exact Sim.cast (by rw [t0]; simp) (Sim.whenF hb (by decide) (Sim.whenT hb2 (Sim.bind (sM K2) (Sim.bind (Sim.node h2) (sm K2 a2 f2' HS)))))
    rcases GV h with ⟨hb3, h⟩ | ⟨hb3, h⟩
    · have t0 := ko.op hb3 (by rw [GR]; decide)
      obtain ⟨l, s1, h1, h⟩ := Gt h
      obtain ⟨P, hn, pl, _, sM⟩ := plist_s (one := fun K => (r K).expr 1) ko (.inl rfl) (hr.expr 1) h1
      obtain ⟨x2, s2, h2, h3⟩ := Gt h
      obtain ⟨e3, e4⟩ := GI h2
      obtain ⟨new, en⟩ := (sM []).src.pre
      have P1 := Pt.index (tn := a0) (show Pt s1.nodes x px by rw [en]; exact hx.pt.more new) pl
      have pt2 : Pt s2.nodes x2 (px ++ (some (6, [91]) :: (P ++ [some (6, [93])]))) := by subst e3 e4; exact P1.1
      obtain ⟨q, hq, sm⟩ := pprimF_s ko hr a0 f s2 x2 _ v s' (PtE.of pt2 P1.2) h3
      refine ⟨(some (6, [91]) :: (P ++ [some (6, [93])])) ++ q, by rw [← List.append_assoc]; exact hq, fun K2 a2 f2 hl => ?_⟩
      simp only [GU, GY, toks_nil, List.length_append, List.length_cons, List.length_nil] at hl
      obtain ⟨f2', rfl⟩ : ∃ f2', f2 = f2' + 1 := ⟨f2 - 1, by omega⟩
      unfold pprimF
      exact Sim.cast (by rw [t0]; simp) (Sim.whenF hb (by decide) (Sim.whenF hb2 (by decide) (Sim.whenT hb3 (Sim.bind (sM K2) (Sim.bind (Sim.node h2) (sm K2 a2 f2' HS))))))
    obtain ⟨e5, e6⟩ := HL h
    subst e5 e6
    refine ⟨[], by simpa using hx.pt, fun K2 a2 f2 hl => ?_⟩
    obtain ⟨f2', rfl⟩ : ∃ f2', f2 = f2' + 1 := ⟨f2 - 1, by omega⟩
    unfold pprimF
    exact Sim.whenF hb (by decide) (Sim.whenF hb2 (by decide) (Sim.whenF hb3 (by decide) Sim.ret))
def pprimaryA (K : List Tk) (r : Rec) (a : Nat) : PM Int := (poperand K r).bind fun x => pprimF K r a K.length x
theorem pprimary_s (ko : KO K) (w : Wf K) (hr : RecS K r) (hx : RecX r) : Gv K fun K => pprimary K (r K) := fun s v s' h => by
  obtain ⟨x, s1, h1, h2⟩ := Gt h
  obtain ⟨px, gx, ex⟩ := poperand_s ko w hr hx h1
  obtain ⟨q, hq, sm⟩ := pprimF_s ko hr _ _ _ _ _ _ _ ex h2
  obtain ⟨p', hp'⟩ := gx.hd
  have hne : 0 < (toks px).length := List.length_pos_iff.2 gx.pt.en.ne
  refine ⟨px ++ q, ⟨hq, ⟨p' ++ q, by rw [hp']; rfl⟩, gx.fb, fun K2 => Sim.at (F := fun i => pprimaryA K2 (r K2) i) fun a => ?_⟩⟩
  rw [GU]
  refine ⟨(gx.sim []).src.trans (sm [] 0 _ (Nat.le_refl _)).src, Run.len fun hl => ?_⟩
  rw [List.length_append] at hl
  exact (Sim.bind (gx.sim K2) (sm K2 a K2.length HS)).run
theorem unOps_ok : ∀ t ∈ unOps, t ∉ keysB := by rw [GR]; decide
theorem punary_s (ko : KO K) (w : Wf K) (hr : RecS K r) (hx : RecX r) : Gv K fun K => punary K (r K) := fun s v s' h => by
  replace h : punary K (r K) s = .ok (v, s') := h
  unfold punary at h
  split at h
  · rename_i hc
    obtain ⟨hm, t0⟩ := ko.isOp (x := unOps) hc unOps_ok
    obtain ⟨x, s1, h1, h2⟩ := Gt h
    obtain ⟨p, g⟩ := hr.unary _ _ _ h1
    obtain ⟨e3, e4⟩ := GI h2
    have P := Pt.unary (tn := s.i) hm g.pt g.rh
    refine ⟨some (6, (s.tok K).2) :: p, ⟨by subst e3 e4; exact P.1, ⟨p, by rw [← t0]⟩, ?_, fun K2 => ?_⟩⟩
    · unfold unOps at hm
      simp only [List.mem_cons, List.not_mem_nil, or_false] at hm
      rcases hm with e | e | e | e | e <;> (rw [e]; decide)
    have S : Sim K K2 ((r K2).unary.bind fun x => pnode 9 (s.tok K).2 0 [x]) s.next v s' (toks p) := Sim.cast (by simp) (Sim.bind (g.sim K2) (Sim.node h2))
    have S' : ∀ i, Sim K K2 ((r K2).unary.bind fun x => pnode 9 (s.tok K).2 i [x]) s.next v s' (toks p) := fun i => Sim.cast (by simp) (Sim.bind (g.sim K2) (Sim.node h2))
    rw [GY, ← t0]
    refine ⟨(Src.tok (GS hc)).trans S.src, fun rest σ hd hn he => ?_⟩
    obtain ⟨d1, d2, _⟩ := GJ hd
    have e1 : σ.tok K2 = s.tok K := d1
    obtain ⟨σ', r1, d3, q3⟩ := (S' σ.i).run rest σ.next d2 hn ⟨he.nodes, he.deep⟩
    refine ⟨σ', ?_, d3, q3⟩
    unfold punary
    rw [e1, if_pos hc]; exact r1
  rename_i hc
  obtain ⟨p, g⟩ := pprimary_s ko w hr hx _ _ _ h
  obtain ⟨p', hp'⟩ := g.hd
  refine ⟨p, ⟨g.pt, g.hd, g.fb, fun K2 => ⟨(g.sim []).src, fun rest σ hd hn he => ?_⟩⟩⟩
  have d1 : σ.tok K2 = s.tok K := (GJ (by rw [hd, hp']; rfl)).1
  obtain ⟨σ', r1, d3, q3⟩ := (g.sim K2).run rest σ hd hn he
  refine ⟨σ', ?_, d3, q3⟩
  unfold punary
  rw [d1, if_neg hc]; exact r1
theorem nested_s {m : List Tk → PM Int} (h : Gv K m) : Gv K fun K => pnested (m K) := fun s v s' e => by
  have hd : ∃ s1, m K s.down = .ok (v, s1) ∧ s' = s1.up := by
    replace e : pnested (m K) s = .ok (v, s') := e
    unfold pnested at e
    split at e
    · cases e
    obtain ⟨a, s1, h1, h2⟩ := Gt e
    injection h2 with h2; injection h2 with h2 h3
    subst h2 h3
    exact ⟨s1, h1, rfl⟩
  obtain ⟨s1, h1, e2⟩ := hd
  obtain ⟨p, g⟩ := h _ _ _ h1
  subst e2
  refine ⟨p, ⟨g.pt, g.hd, g.fb, fun K2 => Sim.nested e fun s3 h3 => ?_⟩⟩
  rw [h1] at h3
  injection h3 with h3; injection h3 with _ h3
  subst h3
  exact g.sim K2
theorem nested_sD {m : List Tk → PM Int} (h : GvD K m) : GvD K fun K => pnested (m K) := fun s v s' e => by
  have hd : ∃ s1, m K s.down = .ok (v, s1) ∧ s' = s1.up := by
    replace e : pnested (m K) s = .ok (v, s') := e
    unfold pnested at e
    split at e
    · cases e
    obtain ⟨a, s1, h1, h2⟩ := Gt e
    injection h2 with h2; injection h2 with h2 h3
    subst h2 h3
    exact ⟨s1, h1, rfl⟩
  obtain ⟨s1, h1, e2⟩ := hd
  obtain ⟨p, g, gd⟩ := h _ _ _ h1
  subst e2
  refine ⟨p, ⟨g.pt, g.hd, g.fb, fun K2 => Sim.nested e fun s3 h3 => ?_⟩, gd⟩
  rw [h1] at h3
  injection h3 with h3; injection h3 with _ h3
  subst h3
  exact g.sim K2
theorem nested_x {m : PM Int} {s s' : PS} {v : Int} (e : pnested m s = .ok (v, s')) : ∃ s1, m s.down = .ok (v, s1) ∧ s'.i = s1.i := by
  unfold pnested at e
  split at e
  · cases e
  obtain ⟨a, s1, h1, h2⟩ := Gt e
  injection h2 with h2; injection h2 with h2 h3
  subst h2 h3
  exact ⟨s1, h1, rfl⟩
theorem isB_in {t : Tk} {x : Bs} {y : List Bs} (h : isB t [x] = true) (hx : x ∈ y) : isB t y = true := isB_more h (by intro z hz; simp at hz; subst hz; exact hx)
theorem bare_x {K : List Tk} {r : Rec} {s s' : PS} {v : Int} (h : pbare K r s = .ok (v, s')) (k1 : (s.tok K).1 = 1) : s'.i = s.i + 1 ∨ isB (tkAt K (s.i + 1)) [[46], [91]] = true := by
  unfold pbare at h
  rw [if_pos k1] at h
  unfold pnamed at h
  obtain ⟨nm, s1, h1, h⟩ := Gt h
  obtain ⟨_, e1, e2⟩ := pof_ok h1
  subst e1 e2
  obtain ⟨x0, s2, h2, h⟩ := Gt h
  obtain ⟨e3, e4⟩ := GI h2
  obtain ⟨x1, s3, h3, h4⟩ := Gt h
  have i2 : s2.i = s.i + 1 := by rw [e4]
  rcases GV h3 with ⟨hb, _⟩ | ⟨hb, h3⟩
  · exact .inr (isB_in (x := [46]) (by rw [← i2]; exact hb) (by decide))
  obtain ⟨_, e6⟩ := HL h3
  subst e6
  rcases GV h4 with ⟨hb, _⟩ | ⟨hb, h4⟩
  · exact .inr (isB_in (x := [91]) (by rw [← i2]; exact hb) (by decide))
  obtain ⟨_, e6⟩ := HL h4
  subst e6
  exact .inl i2
theorem prim_x {K : List Tk} {r : Rec} {a : Nat} : ∀ {f : Nat} {x v : Int} {s s' : PS}, pprimF K r a f x s = .ok (v, s') → s'.i = s.i ∨ isB (s.tok K) [[46], [40], [91]] = true
  | 0, x, v, s, s', h => (Hx h).elim
  | f + 1, x, v, s, s', h => by
    unfold pprimF at h
    rcases GV h with ⟨hb, h⟩ | ⟨hb, h⟩
    · exact .inr (isB_in hb (by decide))
    rcases GV h with ⟨hb2, h⟩ | ⟨hb2, h⟩
    · exact .inr (isB_in hb2 (by decide))
    rcases GV h with ⟨hb3, h⟩ | ⟨hb3, h⟩
    · exact .inr (isB_in hb3 (by decide))
    obtain ⟨_, e6⟩ := HL h
    subst e6; exact .inl rfl
theorem unary_x {K : List Tk} {r : Rec} {s s' : PS} {v : Int} (h : punary K r s = .ok (v, s')) (k1 : (s.tok K).1 = 1) : s'.i = s.i + 1 ∨ isB (tkAt K (s.i + 1)) [[46], [40], [91]] = true := by
  unfold punary at h
  rw [if_neg (by rw [is_no k1]; decide)] at h
  obtain ⟨x, s1, h1, h2⟩ := Gt h
  unfold poperand at h1
  rw [if_pos (.inl k1)] at h1
  obtain ⟨_, e4⟩ := GI h1
  have i1 : s1.i = s.i + 1 := by rw [e4]
  rcases prim_x h2 with q | q
  · exact .inl HS
  exact .inr (by rw [← i1]; exact q)
theorem lev_x : ∀ d, RecX fun K => lev K d
  | 0 => ⟨fun _ _ _ _ h => (Hx h).elim, fun _ _ _ _ h => (Hx h).elim, fun _ _ _ _ h => (Hx h).elim, fun _ _ _ _ _ h => (Hx h).elim⟩
  | d + 1 => by
    have ih := lev_x d
    refine ⟨fun K s v s' h k1 => ?_, fun K s v s' h k1 => ?_, fun K s v s' h k1 => ?_, fun n K s v s' h k1 => ?_⟩
    · obtain ⟨s1, h1, e1⟩ := nested_x h
      rw [e1]; exact bare_x (s := s.down) h1 k1
    · obtain ⟨s1, h1, e1⟩ := nested_x h
      rw [e1]
      replace h1 : punionF K (lev K d) s.down.i K.length [] s.down = .ok (v, s1) := h1
      cases hl : K.length with
      | zero => rw [hl] at h1; exact (Hx h1).elim
      | succ n =>
        rw [hl] at h1
        unfold punionF at h1
        obtain ⟨x0, s2, h2, h1⟩ := Gt h1
        have hno : isB (s.down.tok K) [[126]] = false := is_no k1
        have e2 : s2 = s.down := by
          rcases GV h2 with ⟨hb, _⟩ | ⟨_, h2⟩
          · rw [hno] at hb; cases hb
          exact (HL h2).2
        subst e2
        obtain ⟨t, s3, h3, h1⟩ := Gt h1
        have hx := ih.typ K _ _ _ h3 k1
        obtain ⟨x, s4, h4, h1⟩ := Gt h1
        obtain ⟨_, e4⟩ := GI h4
        have i4 : s4.i = s3.i := by rw [e4]
        rcases hx with q | q
        · rcases GV h1 with ⟨hb, _⟩ | ⟨_, h1⟩
          · refine .inr (isB_in (x := [124]) ?_ (by decide))
            have : s4.tok K = tkAt K (s.i + 1) := by show tkAt K s4.i = _; rw [i4, q]
            rw [← this]; exact hb
          obtain ⟨_, e5⟩ := GI h1
          left; rw [e5]; show s4.i = _; rw [i4, q]
        exact .inr (isB_more q (by decide))
    · obtain ⟨s1, h1, e1⟩ := nested_x h
      rw [e1]; exact unary_x (s := s.down) h1 k1
    obtain ⟨s1, h1, e1⟩ := nested_x h
    rw [e1]
    obtain ⟨x, s2, h2, h3⟩ := Gt h1
    rcases ih.unary K _ _ _ h2 k1 with q | q
    · replace h3 : pexprF K (lev K d) n s.down.i K.length x s2 = .ok (v, s1) := h3
      cases hl : K.length with
      | zero => rw [hl] at h3; exact (Hx h3).elim
      | succ m =>
        rw [hl] at h3
        unfold pexprF at h3
        split at h3
        · injection h3 with h3; injection h3 with _ h3
          subst h3; exact .inl q
        rename_i hc
        right; right
        have : s2.tok K = tkAt K (s.i + 1) := by show tkAt K s2.i = _; rw [q]
        rw [← this]; exact fun e => hc (.inr e)
    exact .inr (.inl q)
theorem lev_s (ko : KO K) (w : Wf K) : ∀ d, RecS K fun K => lev K d
  | 0 => ⟨fun _ _ _ h => (Hx h).elim, fun _ _ _ h => (Hx h).elim, fun _ _ _ _ h => (Hx h).elim, fun _ _ _ h => (Hx h).elim⟩
  | d + 1 => by
    have hr := lev_s ko w d
    have hx := lev_x d
    exact ⟨nested_sD (m := fun K => pbare K (lev K d)) (pbare_s ko w hr hx), nested_s (m := fun K => punion K (lev K d)) (punion_s ko hr), fun n => nested_s (m := fun K => pexpr K (lev K d) n) (pexpr_s ko hr n), nested_s (m := fun K => punary K (lev K d)) (punary_s ko w hr hx)⟩
end
end Go.Sy
