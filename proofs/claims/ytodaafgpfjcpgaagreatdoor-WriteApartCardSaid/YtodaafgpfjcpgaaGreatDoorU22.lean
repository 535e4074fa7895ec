/- Joined of my own texts: WrG, WrH, WrI, WrK, WrJ. -/
import Derived.Test.YtodaafgpfjcpgaaGreatDoorU21
import Derived.KernelRfl
namespace Go.Sy
open Go Go.Proofs Go.RowKit
noncomputable abbrev tabW : Int → Option Nat := (upd (upd (upd (upd (upd (upd (upd (upd (upd (upd (upd (upd (upd (upd (upd (upd (upd (upd (upd (upd (upd (upd (upd (upd (upd (upd (upd (upd (upd (upd (upd (upd (upd (fun _ => none) 0 36) 1 37) 2 37) 3 37) 4 37) 5 37) 6 38) 7 39) 8 40) 9 41) 10 42) 11 43) 12 44) 13 45) 14 46) 15 47) 16 48) 17 49) 18 50) 19 50) 20 51) 21 52) 22 41) 23 53) 24 54) 25 55) 26 56) 27 50) 28 57) 29 50) 30 58) 31 59) 32 60)
attribute [local irreducible] AC AT AO AK AH ACalls ACallsX ACallsD Sub Res.cells Res.obj Res.nix Res.own Res.map Exit.then Exit.inBlock Exit.noGoto bodyPost bodyPostD Code.wp Code.wpIn WL Next Post PostX Kont
section
variable {W0 : World} {L : List Res} {F : List Fact} {R : Value → List Res → List Fact → Prop}
set_option maxRecDepth 100000
set_option maxHeartbeats 4000000
def WrC (W0 : World) (l : List Nod) (T : Nat → Bs) (n : Nod) (f : Nat) : Prop :=
  ∀ {L : List Res} {F : List Fact} {R : Value → List Res → List Fact → Prop} {a a1 : Option Addr} {k c k1 c1 : Nat}, fNod l a k c ∈ F → fKs n a1 k1 c1 ∈ F → R (S (nodeB l T n)) L F → ACalls Tryz.prog W0 f #[vW a k c, vNod n a1 k1 c1] L F R
theorem disp0 (l : List Nod) (T : Nat → Bs) {i : Nat} (_ : RightN l) (_ : i ≤ l.length) (_ : TxC W0 l T i) (n : Nod) (hk : n.kind = 0) (_ : ∀ x ∈ n.kids, 0 ≤ x ∧ x < (i : Int)) (_ : n.kids.length ≤ 4000) (_ : kidsOk n.kind n.kids.length = true) (_ : n.text.length ≤ 1000000) (_ : (nodeB l T n).length ≤ 100000000) : WrC W0 l T n 36 := by
  intro L F R a a1 k c k1 c1 mL mK h
  have e : nodeB l T n = [] := by unfold nodeB; rw [hk]; rfl
  rw [e] at h
  exact wnothing_c n h
theorem disp1 (l : List Nod) (T : Nat → Bs) {i : Nat} (_ : RightN l) (_ : i ≤ l.length) (_ : TxC W0 l T i) (n : Nod) (hk : n.kind = 1) (_ : ∀ x ∈ n.kids, 0 ≤ x ∧ x < (i : Int)) (_ : n.kids.length ≤ 4000) (_ : kidsOk n.kind n.kids.length = true) (_ : n.text.length ≤ 1000000) (_ : (nodeB l T n).length ≤ 100000000) : WrC W0 l T n 37 := by
  intro L F R a a1 k c k1 c1 mL mK h
  have e : nodeB l T n = n.text := by unfold nodeB; rw [hk]; rfl
  rw [e] at h
  exact wplain_c n h
theorem disp2 (l : List Nod) (T : Nat → Bs) {i : Nat} (_ : RightN l) (_ : i ≤ l.length) (_ : TxC W0 l T i) (n : Nod) (hk : n.kind = 2) (_ : ∀ x ∈ n.kids, 0 ≤ x ∧ x < (i : Int)) (_ : n.kids.length ≤ 4000) (_ : kidsOk n.kind n.kids.length = true) (_ : n.text.length ≤ 1000000) (_ : (nodeB l T n).length ≤ 100000000) : WrC W0 l T n 37 := by
  intro L F R a a1 k c k1 c1 mL mK h
  have e : nodeB l T n = n.text := by unfold nodeB; rw [hk]; rfl
  rw [e] at h
  exact wplain_c n h
theorem disp3 (l : List Nod) (T : Nat → Bs) {i : Nat} (_ : RightN l) (_ : i ≤ l.length) (_ : TxC W0 l T i) (n : Nod) (hk : n.kind = 3) (_ : ∀ x ∈ n.kids, 0 ≤ x ∧ x < (i : Int)) (_ : n.kids.length ≤ 4000) (_ : kidsOk n.kind n.kids.length = true) (_ : n.text.length ≤ 1000000) (_ : (nodeB l T n).length ≤ 100000000) : WrC W0 l T n 37 := by
  intro L F R a a1 k c k1 c1 mL mK h
  have e : nodeB l T n = n.text := by unfold nodeB; rw [hk]; rfl
  rw [e] at h
  exact wplain_c n h
theorem disp4 (l : List Nod) (T : Nat → Bs) {i : Nat} (_ : RightN l) (_ : i ≤ l.length) (_ : TxC W0 l T i) (n : Nod) (hk : n.kind = 4) (_ : ∀ x ∈ n.kids, 0 ≤ x ∧ x < (i : Int)) (_ : n.kids.length ≤ 4000) (_ : kidsOk n.kind n.kids.length = true) (_ : n.text.length ≤ 1000000) (_ : (nodeB l T n).length ≤ 100000000) : WrC W0 l T n 37 := by
  intro L F R a a1 k c k1 c1 mL mK h
  have e : nodeB l T n = n.text := by unfold nodeB; rw [hk]; rfl
  rw [e] at h
  exact wplain_c n h
theorem disp5 (l : List Nod) (T : Nat → Bs) {i : Nat} (_ : RightN l) (_ : i ≤ l.length) (_ : TxC W0 l T i) (n : Nod) (hk : n.kind = 5) (_ : ∀ x ∈ n.kids, 0 ≤ x ∧ x < (i : Int)) (_ : n.kids.length ≤ 4000) (_ : kidsOk n.kind n.kids.length = true) (_ : n.text.length ≤ 1000000) (_ : (nodeB l T n).length ≤ 100000000) : WrC W0 l T n 37 := by
  intro L F R a a1 k c k1 c1 mL mK h
  have e : nodeB l T n = n.text := by unfold nodeB; rw [hk]; rfl
  rw [e] at h
  exact wplain_c n h
theorem disp6 (l : List Nod) (T : Nat → Bs) {i : Nat} (hr : RightN l) (hi : i ≤ l.length) (ih : TxC W0 l T i) (n : Nod) (hk : n.kind = 6) (hks : ∀ x ∈ n.kids, 0 ≤ x ∧ x < (i : Int)) (_ : n.kids.length ≤ 4000) (hko : kidsOk n.kind n.kids.length = true) (_ : n.text.length ≤ 1000000) (hlen : (nodeB l T n).length ≤ 100000000) : WrC W0 l T n 38 := by
  intro L F R a a1 k c k1 c1 mL mK h
  have e : nodeB l T n = (if kindAt l (kid n 0) = 2 ∨ kindAt l (kid n 0) = 3 then tx T (kid n 0) ++ [32] else tx T (kid n 0)) ++ [46] ++ n.text := by unfold nodeB; rw [hk]; rfl
  rw [e] at h hlen
  rw [hk] at hko
  have k1 : n.kids.length = 1 := by
    have q := hko
    simp [kidsOk] at q
    omega
  have hb : ∀ j, j < n.kids.length → 0 ≤ kid n j ∧ kid n j < (i : Int) := fun j hj => hks _ (Hj hj)
  exact wsel_c l T hr hi ih n k1 (hb 0 HF) mL mK hlen h
theorem disp7 (l : List Nod) (T : Nat → Bs) {i : Nat} (hr : RightN l) (hi : i ≤ l.length) (ih : TxC W0 l T i) (n : Nod) (hk : n.kind = 7) (hks : ∀ x ∈ n.kids, 0 ≤ x ∧ x < (i : Int)) (hfew : n.kids.length ≤ 4000) (hko : kidsOk n.kind n.kids.length = true) (_ : n.text.length ≤ 1000000) (hlen : (nodeB l T n).length ≤ 100000000) : WrC W0 l T n 39 := by
  intro L F R a a1 k c k1 c1 mL mK h
  have e : nodeB l T n = tx T (kid n 0) ++ [40] ++ allB T (n.kids.drop 1) [44, 32] ++ [41] := by unfold nodeB; rw [hk]; rfl
  rw [e] at h hlen
  rw [hk] at hko
  have k1 : 0 < n.kids.length := by
    have q := hko
    simp [kidsOk, Nat.ble_eq] at q
    omega
  have hb : ∀ j, j < n.kids.length → 0 ≤ kid n j ∧ kid n j < (i : Int) := fun j hj => hks _ (Hj hj)
  exact wcall_c l T hr hi ih n k1 hks hfew mL mK hlen h
theorem disp8 (l : List Nod) (T : Nat → Bs) {i : Nat} (hr : RightN l) (hi : i ≤ l.length) (ih : TxC W0 l T i) (n : Nod) (hk : n.kind = 8) (hks : ∀ x ∈ n.kids, 0 ≤ x ∧ x < (i : Int)) (hfew : n.kids.length ≤ 4000) (hko : kidsOk n.kind n.kids.length = true) (_ : n.text.length ≤ 1000000) (hlen : (nodeB l T n).length ≤ 100000000) : WrC W0 l T n 40 := by
  intro L F R a a1 k c k1 c1 mL mK h
  have e : nodeB l T n = tx T (kid n 0) ++ [91] ++ allB T (n.kids.drop 1) [44, 32] ++ [93] := by unfold nodeB; rw [hk]; rfl
  rw [e] at h hlen
  rw [hk] at hko
  have k1 : 2 ≤ n.kids.length := by
    have q := hko
    simp [kidsOk, Nat.ble_eq] at q
    omega
  have hb : ∀ j, j < n.kids.length → 0 ≤ kid n j ∧ kid n j < (i : Int) := fun j hj => hks _ (Hj hj)
  exact windex_c l T hr hi ih n HF hks hfew mL mK hlen h
theorem disp9 (l : List Nod) (T : Nat → Bs) {i : Nat} (_ : RightN l) (_ : i ≤ l.length) (ih : TxC W0 l T i) (n : Nod) (hk : n.kind = 9) (hks : ∀ x ∈ n.kids, 0 ≤ x ∧ x < (i : Int)) (_ : n.kids.length ≤ 4000) (hko : kidsOk n.kind n.kids.length = true) (_ : n.text.length ≤ 1000000) (hlen : (nodeB l T n).length ≤ 100000000) : WrC W0 l T n 41 := by
  intro L F R a a1 k c k1 c1 mL mK h
  have e : nodeB l T n = n.text ++ tx T (kid n 0) := by unfold nodeB; rw [hk]; rfl
  rw [e] at h hlen
  rw [hk] at hko
  have k1 : n.kids.length = 1 := by
    have q := hko
    simp [kidsOk] at q
    omega
  have hb : ∀ j, j < n.kids.length → 0 ≤ kid n j ∧ kid n j < (i : Int) := fun j hj => hks _ (Hj hj)
  exact wprefix_c l T ih n HF (hb 0 HF) (by simpa using hlen) mL mK h
theorem disp10 (l : List Nod) (T : Nat → Bs) {i : Nat} (_ : RightN l) (_ : i ≤ l.length) (ih : TxC W0 l T i) (n : Nod) (hk : n.kind = 10) (hks : ∀ x ∈ n.kids, 0 ≤ x ∧ x < (i : Int)) (hfew : n.kids.length ≤ 4000) (hko : kidsOk n.kind n.kids.length = true) (htx : n.text.length ≤ 1000000) (hlen : (nodeB l T n).length ≤ 100000000) : WrC W0 l T n 42 := by
  intro L F R a a1 k c k1 c1 mL mK h
  have e : nodeB l T n = allB T n.kids ([32] ++ n.text ++ [32]) := by unfold nodeB; rw [hk]; rfl
  rw [e] at h hlen
  rw [hk] at hko
  have k1 : n.kids.length = 2 := by
    have q := hko
    simp [kidsOk] at q
    omega
  have hb : ∀ j, j < n.kids.length → 0 ≤ kid n j ∧ kid n j < (i : Int) := fun j hj => hks _ (Hj hj)
  exact wbinary_c l T ih n hks hfew htx hlen mL mK h
theorem disp11 (l : List Nod) (T : Nat → Bs) {i : Nat} (_ : RightN l) (_ : i ≤ l.length) (ih : TxC W0 l T i) (n : Nod) (hk : n.kind = 11) (hks : ∀ x ∈ n.kids, 0 ≤ x ∧ x < (i : Int)) (_ : n.kids.length ≤ 4000) (hko : kidsOk n.kind n.kids.length = true) (_ : n.text.length ≤ 1000000) (hlen : (nodeB l T n).length ≤ 100000000) : WrC W0 l T n 43 := by
  intro L F R a a1 k c k1 c1 mL mK h
  have e : nodeB l T n = [40] ++ tx T (kid n 0) ++ [41] := by unfold nodeB; rw [hk]; rfl
  rw [e] at h hlen
  rw [hk] at hko
  have k1 : n.kids.length = 1 := by
    have q := hko
    simp [kidsOk] at q
    omega
  have hb : ∀ j, j < n.kids.length → 0 ≤ kid n j ∧ kid n j < (i : Int) := fun j hj => hks _ (Hj hj)
  exact wparen_c l T ih n HF (hb 0 HF) (by simp at hlen; omega) mL mK h
theorem disp12 (l : List Nod) (T : Nat → Bs) {i : Nat} (_ : RightN l) (_ : i ≤ l.length) (ih : TxC W0 l T i) (n : Nod) (hk : n.kind = 12) (hks : ∀ x ∈ n.kids, 0 ≤ x ∧ x < (i : Int)) (_ : n.kids.length ≤ 4000) (hko : kidsOk n.kind n.kids.length = true) (_ : n.text.length ≤ 1000000) (hlen : (nodeB l T n).length ≤ 100000000) : WrC W0 l T n 44 := by
  intro L F R a a1 k c k1 c1 mL mK h
  have e : nodeB l T n = [91, 93] ++ tx T (kid n 0) := by unfold nodeB; rw [hk]; rfl
  rw [e] at h hlen
  rw [hk] at hko
  have k1 : n.kids.length = 1 := by
    have q := hko
    simp [kidsOk] at q
    omega
  have hb : ∀ j, j < n.kids.length → 0 ≤ kid n j ∧ kid n j < (i : Int) := fun j hj => hks _ (Hj hj)
  exact wslice_c l T ih n HF (hb 0 HF) (by simp at hlen; omega) mL mK h
theorem disp13 (l : List Nod) (T : Nat → Bs) {i : Nat} (_ : RightN l) (_ : i ≤ l.length) (ih : TxC W0 l T i) (n : Nod) (hk : n.kind = 13) (hks : ∀ x ∈ n.kids, 0 ≤ x ∧ x < (i : Int)) (_ : n.kids.length ≤ 4000) (hko : kidsOk n.kind n.kids.length = true) (_ : n.text.length ≤ 1000000) (hlen : (nodeB l T n).length ≤ 100000000) : WrC W0 l T n 45 := by
  intro L F R a a1 k c k1 c1 mL mK h
  have e : nodeB l T n = [91] ++ tx T (kid n 0) ++ [93] ++ tx T (kid n 1) := by unfold nodeB; rw [hk]; rfl
  rw [e] at h hlen
  rw [hk] at hko
  have k1 : n.kids.length = 2 := by
    have q := hko
    simp [kidsOk] at q
    omega
  have hb : ∀ j, j < n.kids.length → 0 ≤ kid n j ∧ kid n j < (i : Int) := fun j hj => hks _ (Hj hj)
  exact warray_c l T ih n k1 (fun j hj => hb j HF) (by simp at hlen; omega) mL mK h
theorem disp14 (l : List Nod) (T : Nat → Bs) {i : Nat} (_ : RightN l) (_ : i ≤ l.length) (ih : TxC W0 l T i) (n : Nod) (hk : n.kind = 14) (hks : ∀ x ∈ n.kids, 0 ≤ x ∧ x < (i : Int)) (_ : n.kids.length ≤ 4000) (hko : kidsOk n.kind n.kids.length = true) (_ : n.text.length ≤ 1000000) (hlen : (nodeB l T n).length ≤ 100000000) : WrC W0 l T n 46 := by
  intro L F R a a1 k c k1 c1 mL mK h
  have e : nodeB l T n = [109, 97, 112, 91] ++ tx T (kid n 0) ++ [93] ++ tx T (kid n 1) := by unfold nodeB; rw [hk]; rfl
  rw [e] at h hlen
  rw [hk] at hko
  have k1 : n.kids.length = 2 := by
    have q := hko
    simp [kidsOk] at q
    omega
  have hb : ∀ j, j < n.kids.length → 0 ≤ kid n j ∧ kid n j < (i : Int) := fun j hj => hks _ (Hj hj)
  exact wtable_c l T ih n k1 (fun j hj => hb j HF) (by simp at hlen; omega) mL mK h
theorem disp15 (l : List Nod) (T : Nat → Bs) {i : Nat} (hr : RightN l) (hi : i ≤ l.length) (ih : TxC W0 l T i) (n : Nod) (hk : n.kind = 15) (hks : ∀ x ∈ n.kids, 0 ≤ x ∧ x < (i : Int)) (hfew : n.kids.length ≤ 4000) (hko : kidsOk n.kind n.kids.length = true) (_ : n.text.length ≤ 1000000) (hlen : (nodeB l T n).length ≤ 100000000) : WrC W0 l T n 47 := by
  intro L F R a a1 k c k1 c1 mL mK h
  have e : nodeB l T n = [102, 117, 110, 99] ++ bareB l T n := by unfold nodeB; rw [hk]; rfl
  rw [e] at h hlen
  rw [hk] at hko
  have k1 : 0 < n.kids.length := by
    have q := hko
    simp [kidsOk, Nat.ble_eq] at q
    omega
  have hb : ∀ j, j < n.kids.length → 0 ≤ kid n j ∧ kid n j < (i : Int) := fun j hj => hks _ (Hj hj)
  exact wfunction_c l T hr hi ih n k1 hks hfew mL mK hlen h
theorem disp16 (l : List Nod) (T : Nat → Bs) {i : Nat} (hr : RightN l) (hi : i ≤ l.length) (ih : TxC W0 l T i) (n : Nod) (hk : n.kind = 16) (hks : ∀ x ∈ n.kids, 0 ≤ x ∧ x < (i : Int)) (hfew : n.kids.length ≤ 4000) (_ : kidsOk n.kind n.kids.length = true) (_ : n.text.length ≤ 1000000) (hlen : (nodeB l T n).length ≤ 100000000) : WrC W0 l T n 48 := by
  intro L F R a a1 k c k1 c1 mL mK h
  have e : nodeB l T n = bracesB T [115, 116, 114, 117, 99, 116] n := by unfold nodeB; rw [hk]; rfl
  rw [e] at h hlen
  exact wfields_c l T hr hi ih n hks hfew mL mK hlen h
theorem disp17 (l : List Nod) (T : Nat → Bs) {i : Nat} (hr : RightN l) (hi : i ≤ l.length) (ih : TxC W0 l T i) (n : Nod) (hk : n.kind = 17) (hks : ∀ x ∈ n.kids, 0 ≤ x ∧ x < (i : Int)) (hfew : n.kids.length ≤ 4000) (_ : kidsOk n.kind n.kids.length = true) (_ : n.text.length ≤ 1000000) (hlen : (nodeB l T n).length ≤ 100000000) : WrC W0 l T n 49 := by
  intro L F R a a1 k c k1 c1 mL mK h
  have e : nodeB l T n = bracesB T [105, 110, 116, 101, 114, 102, 97, 99, 101] n := by unfold nodeB; rw [hk]; rfl
  rw [e] at h hlen
  exact welems_c l T hr hi ih n hks hfew mL mK hlen h
theorem disp18 (l : List Nod) (T : Nat → Bs) {i : Nat} (hr : RightN l) (hi : i ≤ l.length) (ih : TxC W0 l T i) (n : Nod) (hk : n.kind = 18) (hks : ∀ x ∈ n.kids, 0 ≤ x ∧ x < (i : Int)) (_ : n.kids.length ≤ 4000) (hko : kidsOk n.kind n.kids.length = true) (_ : n.text.length ≤ 1000000) (hlen : (nodeB l T n).length ≤ 100000000) : WrC W0 l T n 50 := by
  intro L F R a a1 k c k1 c1 mL mK h
  have e : nodeB l T n = namedB T n := by unfold nodeB; rw [hk]; rfl
  rw [e] at h hlen
  rw [hk] at hko
  have k1 : n.kids.length = 1 := by
    have q := hko
    simp [kidsOk] at q
    omega
  have hb : ∀ j, j < n.kids.length → 0 ≤ kid n j ∧ kid n j < (i : Int) := fun j hj => hks _ (Hj hj)
  exact wnamed_c l T hr hi ih n k1 (hb 0 HF) mL mK hlen h
theorem disp19 (l : List Nod) (T : Nat → Bs) {i : Nat} (hr : RightN l) (hi : i ≤ l.length) (ih : TxC W0 l T i) (n : Nod) (hk : n.kind = 19) (hks : ∀ x ∈ n.kids, 0 ≤ x ∧ x < (i : Int)) (_ : n.kids.length ≤ 4000) (hko : kidsOk n.kind n.kids.length = true) (_ : n.text.length ≤ 1000000) (hlen : (nodeB l T n).length ≤ 100000000) : WrC W0 l T n 50 := by
  intro L F R a a1 k c k1 c1 mL mK h
  have e : nodeB l T n = namedB T n := by unfold nodeB; rw [hk]; rfl
  rw [e] at h hlen
  rw [hk] at hko
  have k1 : n.kids.length = 1 := by
    have q := hko
    simp [kidsOk] at q
    omega
  have hb : ∀ j, j < n.kids.length → 0 ≤ kid n j ∧ kid n j < (i : Int) := fun j hj => hks _ (Hj hj)
  exact wnamed_c l T hr hi ih n k1 (hb 0 HF) mL mK hlen h
theorem disp20 (l : List Nod) (T : Nat → Bs) {i : Nat} (hr : RightN l) (hi : i ≤ l.length) (ih : TxC W0 l T i) (n : Nod) (hk : n.kind = 20) (hks : ∀ x ∈ n.kids, 0 ≤ x ∧ x < (i : Int)) (_ : n.kids.length ≤ 4000) (hko : kidsOk n.kind n.kids.length = true) (_ : n.text.length ≤ 1000000) (hlen : (nodeB l T n).length ≤ 100000000) : WrC W0 l T n 51 := by
  intro L F R a a1 k c k1 c1 mL mK h
  have e : nodeB l T n = n.text ++ signB l T (kid n 0) := by unfold nodeB; rw [hk]; rfl
  rw [e] at h hlen
  rw [hk] at hko
  have k1 : n.kids.length = 1 := by
    have q := hko
    simp [kidsOk] at q
    omega
  have hb : ∀ j, j < n.kids.length → 0 ≤ kid n j ∧ kid n j < (i : Int) := fun j hj => hks _ (Hj hj)
  exact wmethod_c l T hr hi ih n k1 (hb 0 HF) mL mK hlen h
theorem disp21 (l : List Nod) (T : Nat → Bs) {i : Nat} (_ : RightN l) (_ : i ≤ l.length) (ih : TxC W0 l T i) (n : Nod) (hk : n.kind = 21) (hks : ∀ x ∈ n.kids, 0 ≤ x ∧ x < (i : Int)) (hfew : n.kids.length ≤ 4000) (_ : kidsOk n.kind n.kids.length = true) (_ : n.text.length ≤ 1000000) (hlen : (nodeB l T n).length ≤ 100000000) : WrC W0 l T n 52 := by
  intro L F R a a1 k c k1 c1 mL mK h
  have e : nodeB l T n = allB T n.kids [32, 124, 32] := by unfold nodeB; rw [hk]; rfl
  rw [e] at h hlen
  exact wunion_c l T ih n hks hfew hlen mL mK h
theorem disp22 (l : List Nod) (T : Nat → Bs) {i : Nat} (_ : RightN l) (_ : i ≤ l.length) (ih : TxC W0 l T i) (n : Nod) (hk : n.kind = 22) (hks : ∀ x ∈ n.kids, 0 ≤ x ∧ x < (i : Int)) (_ : n.kids.length ≤ 4000) (hko : kidsOk n.kind n.kids.length = true) (_ : n.text.length ≤ 1000000) (hlen : (nodeB l T n).length ≤ 100000000) : WrC W0 l T n 41 := by
  intro L F R a a1 k c k1 c1 mL mK h
  have e : nodeB l T n = n.text ++ tx T (kid n 0) := by unfold nodeB; rw [hk]; rfl
  rw [e] at h hlen
  rw [hk] at hko
  have k1 : n.kids.length = 1 := by
    have q := hko
    simp [kidsOk] at q
    omega
  have hb : ∀ j, j < n.kids.length → 0 ≤ kid n j ∧ kid n j < (i : Int) := fun j hj => hks _ (Hj hj)
  exact wprefix_c l T ih n HF (hb 0 HF) (by simpa using hlen) mL mK h
theorem disp23 (l : List Nod) (T : Nat → Bs) {i : Nat} (hr : RightN l) (hi : i ≤ l.length) (ih : TxC W0 l T i) (n : Nod) (hk : n.kind = 23) (hks : ∀ x ∈ n.kids, 0 ≤ x ∧ x < (i : Int)) (_ : n.kids.length ≤ 4000) (hko : kidsOk n.kind n.kids.length = true) (_ : n.text.length ≤ 1000000) (hlen : (nodeB l T n).length ≤ 100000000) : WrC W0 l T n 53 := by
  intro L F R a a1 k c k1 c1 mL mK h
  have e : nodeB l T n = valueB l T [99, 111, 110, 115, 116] n := by unfold nodeB; rw [hk]; rfl
  rw [e] at h hlen
  rw [hk] at hko
  have k1 : n.kids.length = 2 := by
    have q := hko
    simp [kidsOk] at q
    omega
  have hb : ∀ j, j < n.kids.length → 0 ≤ kid n j ∧ kid n j < (i : Int) := fun j hj => hks _ (Hj hj)
  exact wconstant_c l T hr hi ih n k1 (hb 0 HF) (hb 1 HF) mL mK hlen h
theorem disp24 (l : List Nod) (T : Nat → Bs) {i : Nat} (hr : RightN l) (hi : i ≤ l.length) (ih : TxC W0 l T i) (n : Nod) (hk : n.kind = 24) (hks : ∀ x ∈ n.kids, 0 ≤ x ∧ x < (i : Int)) (_ : n.kids.length ≤ 4000) (hko : kidsOk n.kind n.kids.length = true) (_ : n.text.length ≤ 1000000) (hlen : (nodeB l T n).length ≤ 100000000) : WrC W0 l T n 54 := by
  intro L F R a a1 k c k1 c1 mL mK h
  have e : nodeB l T n = valueB l T [118, 97, 114] n := by unfold nodeB; rw [hk]; rfl
  rw [e] at h hlen
  rw [hk] at hko
  have k1 : n.kids.length = 2 := by
    have q := hko
    simp [kidsOk] at q
    omega
  have hb : ∀ j, j < n.kids.length → 0 ≤ kid n j ∧ kid n j < (i : Int) := fun j hj => hks _ (Hj hj)
  exact wvariable_c l T hr hi ih n k1 (hb 0 HF) (hb 1 HF) mL mK hlen h
theorem disp25 (l : List Nod) (T : Nat → Bs) {i : Nat} (hr : RightN l) (hi : i ≤ l.length) (ih : TxC W0 l T i) (n : Nod) (hk : n.kind = 25) (hks : ∀ x ∈ n.kids, 0 ≤ x ∧ x < (i : Int)) (_ : n.kids.length ≤ 4000) (hko : kidsOk n.kind n.kids.length = true) (_ : n.text.length ≤ 1000000) (hlen : (nodeB l T n).length ≤ 100000000) : WrC W0 l T n 55 := by
  intro L F R a a1 k c k1 c1 mL mK h
  have e : nodeB l T n = [116, 121, 112, 101, 32] ++ n.text ++ tx T (kid n 0) ++ [32] ++ tx T (kid n 1) := by unfold nodeB; rw [hk]; rfl
  rw [e] at h hlen
  rw [hk] at hko
  have k1 : n.kids.length = 2 := by
    have q := hko
    simp [kidsOk] at q
    omega
  have hb : ∀ j, j < n.kids.length → 0 ≤ kid n j ∧ kid n j < (i : Int) := fun j hj => hks _ (Hj hj)
  exact wtyp_c l T hr hi ih n k1 (hb 0 HF) (hb 1 HF) mL mK hlen h
theorem disp26 (l : List Nod) (T : Nat → Bs) {i : Nat} (hr : RightN l) (hi : i ≤ l.length) (ih : TxC W0 l T i) (n : Nod) (hk : n.kind = 26) (hks : ∀ x ∈ n.kids, 0 ≤ x ∧ x < (i : Int)) (hfew : n.kids.length ≤ 4000) (_ : kidsOk n.kind n.kids.length = true) (_ : n.text.length ≤ 1000000) (hlen : (nodeB l T n).length ≤ 100000000) : WrC W0 l T n 56 := by
  intro L F R a a1 k c k1 c1 mL mK h
  have e : nodeB l T n = if n.kids.length = 0 then [] else [91] ++ allB T n.kids [44, 32] ++ [93] := by unfold nodeB; rw [hk]; rfl
  rw [e] at h hlen
  exact wtypes_c l T hr hi ih n hks hfew mL mK hlen h
theorem disp27 (l : List Nod) (T : Nat → Bs) {i : Nat} (hr : RightN l) (hi : i ≤ l.length) (ih : TxC W0 l T i) (n : Nod) (hk : n.kind = 27) (hks : ∀ x ∈ n.kids, 0 ≤ x ∧ x < (i : Int)) (_ : n.kids.length ≤ 4000) (hko : kidsOk n.kind n.kids.length = true) (_ : n.text.length ≤ 1000000) (hlen : (nodeB l T n).length ≤ 100000000) : WrC W0 l T n 50 := by
  intro L F R a a1 k c k1 c1 mL mK h
  have e : nodeB l T n = namedB T n := by unfold nodeB; rw [hk]; rfl
  rw [e] at h hlen
  rw [hk] at hko
  have k1 : n.kids.length = 1 := by
    have q := hko
    simp [kidsOk] at q
    omega
  have hb : ∀ j, j < n.kids.length → 0 ≤ kid n j ∧ kid n j < (i : Int) := fun j hj => hks _ (Hj hj)
  exact wnamed_c l T hr hi ih n k1 (hb 0 HF) mL mK hlen h
theorem disp28 (l : List Nod) (T : Nat → Bs) {i : Nat} (hr : RightN l) (hi : i ≤ l.length) (ih : TxC W0 l T i) (n : Nod) (hk : n.kind = 28) (hks : ∀ x ∈ n.kids, 0 ≤ x ∧ x < (i : Int)) (_ : n.kids.length ≤ 4000) (hko : kidsOk n.kind n.kids.length = true) (_ : n.text.length ≤ 1000000) (hlen : (nodeB l T n).length ≤ 100000000) : WrC W0 l T n 57 := by
  intro L F R a a1 k c k1 c1 mL mK h
  have e : nodeB l T n = (if kindAt l (kid n 0) = 0 then [102, 117, 110, 99, 32] else [102, 117, 110, 99, 32] ++ ([40] ++ tx T (kid n 0) ++ [41, 32])) ++ n.text ++ tx T (kid n 1) ++ signB l T (kid n 2) ++ [32] ++ tx T (kid n 3) := by unfold nodeB; rw [hk]; rfl
  rw [e] at h hlen
  rw [hk] at hko
  have k1 : n.kids.length = 4 := by
    have q := hko
    simp [kidsOk] at q
    omega
  have hb : ∀ j, j < n.kids.length → 0 ≤ kid n j ∧ kid n j < (i : Int) := fun j hj => hks _ (Hj hj)
  exact wdecl_c l T hr hi ih n k1 (hb 0 HF) (hb 1 HF) (hb 2 HF) (hb 3 HF) mL mK hlen h
theorem disp29 (l : List Nod) (T : Nat → Bs) {i : Nat} (hr : RightN l) (hi : i ≤ l.length) (ih : TxC W0 l T i) (n : Nod) (hk : n.kind = 29) (hks : ∀ x ∈ n.kids, 0 ≤ x ∧ x < (i : Int)) (_ : n.kids.length ≤ 4000) (hko : kidsOk n.kind n.kids.length = true) (_ : n.text.length ≤ 1000000) (hlen : (nodeB l T n).length ≤ 100000000) : WrC W0 l T n 50 := by
  intro L F R a a1 k c k1 c1 mL mK h
  have e : nodeB l T n = namedB T n := by unfold nodeB; rw [hk]; rfl
  rw [e] at h hlen
  rw [hk] at hko
  have k1 : n.kids.length = 1 := by
    have q := hko
    simp [kidsOk] at q
    omega
  have hb : ∀ j, j < n.kids.length → 0 ≤ kid n j ∧ kid n j < (i : Int) := fun j hj => hks _ (Hj hj)
  exact wnamed_c l T hr hi ih n k1 (hb 0 HF) mL mK hlen h
theorem disp30 (l : List Nod) (T : Nat → Bs) {i : Nat} (hr : RightN l) (hi : i ≤ l.length) (ih : TxC W0 l T i) (n : Nod) (hk : n.kind = 30) (hks : ∀ x ∈ n.kids, 0 ≤ x ∧ x < (i : Int)) (_ : n.kids.length ≤ 4000) (hko : kidsOk n.kind n.kids.length = true) (_ : n.text.length ≤ 1000000) (hlen : (nodeB l T n).length ≤ 100000000) : WrC W0 l T n 58 := by
  intro L F R a a1 k c k1 c1 mL mK h
  have e : nodeB l T n = if kindAt l (kid n 0) = 0 then [123, 125] else [123, 32, 114, 101, 116, 117, 114, 110, 32] ++ tx T (kid n 0) ++ [32, 125] := by unfold nodeB; rw [hk]; rfl
  rw [e] at h hlen
  rw [hk] at hko
  have k1 : n.kids.length = 1 := by
    have q := hko
    simp [kidsOk] at q
    omega
  have hb : ∀ j, j < n.kids.length → 0 ≤ kid n j ∧ kid n j < (i : Int) := fun j hj => hks _ (Hj hj)
  exact wbody_c l T hr hi ih n k1 (hb 0 HF) mL mK hlen h
theorem disp31 (l : List Nod) (T : Nat → Bs) {i : Nat} (_ : RightN l) (_ : i ≤ l.length) (_ : TxC W0 l T i) (n : Nod) (hk : n.kind = 31) (_ : ∀ x ∈ n.kids, 0 ≤ x ∧ x < (i : Int)) (_ : n.kids.length ≤ 4000) (_ : kidsOk n.kind n.kids.length = true) (htx : n.text.length ≤ 1000000) (_ : (nodeB l T n).length ≤ 100000000) : WrC W0 l T n 59 := by
  intro L F R a a1 k c k1 c1 mL mK h
  have e : nodeB l T n = [105, 109, 112, 111, 114, 116, 32] ++ n.text := by unfold nodeB; rw [hk]; rfl
  rw [e] at h
  exact wimports_c n HF h
theorem disp32 (l : List Nod) (T : Nat → Bs) {i : Nat} (_ : RightN l) (_ : i ≤ l.length) (ih : TxC W0 l T i) (n : Nod) (hk : n.kind = 32) (hks : ∀ x ∈ n.kids, 0 ≤ x ∧ x < (i : Int)) (hfew : n.kids.length ≤ 4000) (_ : kidsOk n.kind n.kids.length = true) (_ : n.text.length ≤ 1000000) (hlen : (nodeB l T n).length ≤ 100000000) : WrC W0 l T n 60 := by
  intro L F R a a1 k c k1 c1 mL mK h
  have e : nodeB l T n = [112, 97, 99, 107, 97, 103, 101, 32] ++ n.text ++ [10] ++ lineB T n.kids := by unfold nodeB; rw [hk]; rfl
  rw [e] at h hlen
  exact wfile_c l T ih n hks hfew mL mK hlen h
end
end Go.Sy
namespace Go.Sy
open Go Go.Proofs Go.RowKit
attribute [local irreducible] AC AT AO AK AH ACalls ACallsX ACallsD Sub Res.cells Res.obj Res.nix Res.own Res.map Exit.then Exit.inBlock Exit.noGoto bodyPost bodyPostD Code.wp Code.wpIn WL Next Post PostX Kont
section
variable {W0 : World} {L : List Res} {F : List Fact} {R : Value → List Res → List Fact → Prop}
set_option maxRecDepth 100000
set_option maxHeartbeats 4000000
theorem disp_c (l : List Nod) (T : Nat → Bs) {i : Nat} (hr : RightN l) (hi : i ≤ l.length) (ih : TxC W0 l T i) (n : Nod) (hn : 0 ≤ n.kind ∧ n.kind ≤ 32) (hks : ∀ x ∈ n.kids, 0 ≤ x ∧ x < (i : Int)) (hfew : n.kids.length ≤ 4000) (hko : kidsOk n.kind n.kids.length = true) (htx : n.text.length ≤ 1000000) (hlen : (nodeB l T n).length ≤ 100000000) : ∃ f, FnT Tryz.prog f ∧ tabW n.kind = some f ∧ WrC W0 l T n f := by
  have hc : n.kind = 0 ∨ n.kind = 1 ∨ n.kind = 2 ∨ n.kind = 3 ∨ n.kind = 4 ∨ n.kind = 5 ∨ n.kind = 6 ∨ n.kind = 7 ∨ n.kind = 8 ∨ n.kind = 9 ∨ n.kind = 10 ∨ n.kind = 11 ∨ n.kind = 12 ∨ n.kind = 13 ∨ n.kind = 14 ∨ n.kind = 15 ∨ n.kind = 16 ∨ n.kind = 17 ∨ n.kind = 18 ∨ n.kind = 19 ∨ n.kind = 20 ∨ n.kind = 21 ∨ n.kind = 22 ∨ n.kind = 23 ∨ n.kind = 24 ∨ n.kind = 25 ∨ n.kind = 26 ∨ n.kind = 27 ∨ n.kind = 28 ∨ n.kind = 29 ∨ n.kind = 30 ∨ n.kind = 31 ∨ n.kind = 32 := by omega
  rcases hc with e | e | e | e | e | e | e | e | e | e | e | e | e | e | e | e | e | e | e | e | e | e | e | e | e | e | e | e | e | e | e | e | e
  · exact ⟨_, inferInstance, by rw [e]; simp [upd], disp0 l T hr hi ih n e hks hfew hko htx hlen⟩
  · exact ⟨_, inferInstance, by rw [e]; simp [upd], disp1 l T hr hi ih n e hks hfew hko htx hlen⟩
  · exact ⟨_, inferInstance, by rw [e]; simp [upd], disp2 l T hr hi ih n e hks hfew hko htx hlen⟩
  · exact ⟨_, inferInstance, by rw [e]; simp [upd], disp3 l T hr hi ih n e hks hfew hko htx hlen⟩
  · exact ⟨_, inferInstance, by rw [e]; simp [upd], disp4 l T hr hi ih n e hks hfew hko htx hlen⟩
  · exact ⟨_, inferInstance, by rw [e]; simp [upd], disp5 l T hr hi ih n e hks hfew hko htx hlen⟩
  · exact ⟨_, inferInstance, by rw [e]; simp [upd], disp6 l T hr hi ih n e hks hfew hko htx hlen⟩
  · exact ⟨_, inferInstance, by rw [e]; simp [upd], disp7 l T hr hi ih n e hks hfew hko htx hlen⟩
  · exact ⟨_, inferInstance, by rw [e]; simp [upd], disp8 l T hr hi ih n e hks hfew hko htx hlen⟩
  · exact ⟨_, inferInstance, by rw [e]; simp [upd], disp9 l T hr hi ih n e hks hfew hko htx hlen⟩
  · exact ⟨_, inferInstance, by rw [e]; simp [upd], disp10 l T hr hi ih n e hks hfew hko htx hlen⟩
  · exact ⟨_, inferInstance, by rw [e]; simp [upd], disp11 l T hr hi ih n e hks hfew hko htx hlen⟩
  · exact ⟨_, inferInstance, by rw [e]; simp [upd], disp12 l T hr hi ih n e hks hfew hko htx hlen⟩
  · exact ⟨_, inferInstance, by rw [e]; simp [upd], disp13 l T hr hi ih n e hks hfew hko htx hlen⟩
  · exact ⟨_, inferInstance, by rw [e]; simp [upd], disp14 l T hr hi ih n e hks hfew hko htx hlen⟩
  · exact ⟨_, inferInstance, by rw [e]; simp [upd], disp15 l T hr hi ih n e hks hfew hko htx hlen⟩
  · exact ⟨_, inferInstance, by rw [e]; simp [upd], disp16 l T hr hi ih n e hks hfew hko htx hlen⟩
  · exact ⟨_, inferInstance, by rw [e]; simp [upd], disp17 l T hr hi ih n e hks hfew hko htx hlen⟩
  · exact ⟨_, inferInstance, by rw [e]; simp [upd], disp18 l T hr hi ih n e hks hfew hko htx hlen⟩
  · exact ⟨_, inferInstance, by rw [e]; simp [upd], disp19 l T hr hi ih n e hks hfew hko htx hlen⟩
  · exact ⟨_, inferInstance, by rw [e]; simp [upd], disp20 l T hr hi ih n e hks hfew hko htx hlen⟩
  · exact ⟨_, inferInstance, by rw [e]; simp [upd], disp21 l T hr hi ih n e hks hfew hko htx hlen⟩
  · exact ⟨_, inferInstance, by rw [e]; simp [upd], disp22 l T hr hi ih n e hks hfew hko htx hlen⟩
  · exact ⟨_, inferInstance, by rw [e]; simp [upd], disp23 l T hr hi ih n e hks hfew hko htx hlen⟩
  · exact ⟨_, inferInstance, by rw [e]; simp [upd], disp24 l T hr hi ih n e hks hfew hko htx hlen⟩
  · exact ⟨_, inferInstance, by rw [e]; simp [upd], disp25 l T hr hi ih n e hks hfew hko htx hlen⟩
  · exact ⟨_, inferInstance, by rw [e]; simp [upd], disp26 l T hr hi ih n e hks hfew hko htx hlen⟩
  · exact ⟨_, inferInstance, by rw [e]; simp [upd], disp27 l T hr hi ih n e hks hfew hko htx hlen⟩
  · exact ⟨_, inferInstance, by rw [e]; simp [upd], disp28 l T hr hi ih n e hks hfew hko htx hlen⟩
  · exact ⟨_, inferInstance, by rw [e]; simp [upd], disp29 l T hr hi ih n e hks hfew hko htx hlen⟩
  · exact ⟨_, inferInstance, by rw [e]; simp [upd], disp30 l T hr hi ih n e hks hfew hko htx hlen⟩
  · exact ⟨_, inferInstance, by rw [e]; simp [upd], disp31 l T hr hi ih n e hks hfew hko htx hlen⟩
  exact ⟨_, inferInstance, by rw [e]; simp [upd], disp32 l T hr hi ih n e hks hfew hko htx hlen⟩
abbrev encW (a : Option Addr) (k c : Nat) (f : Nat) : Value := .func (.func f) #[vW a k c] #[]
theorem text1_c (l : List Nod) (T : Nat → Bs) {i : Nat} (hr : RightN l) (hi : i < l.length) (ih : TxC W0 l T i) (htx : l[i].text.length ≤ 1000000) (hlen : (nodeB l T l[i]).length ≤ 100000000) {a : Option Addr} {k c : Nat} (mL : fNod l a k c ∈ F) (h : R (S (nodeB l T l[i])) L F) :
    ACalls Tryz.prog W0 19 #[vW a k c, .int .i64 (i : Int)] L F R := by
  have hn := hr.node i l[i] (List.getElem?_eq_getElem hi)
  obtain ⟨f, hF, hf, hW⟩ := disp_c l T hr HF ih l[i] hn.1 hn.2.2.2 (kids_few hr hi) hn.2.2.1 htx hlen
  refine Gm Tryz.func19 HD Tryz.ntmps19 HD ?_
  refine qs 2 ?_
  refine Gb (GE HD HD (fun b2 => ?_))
  refine qs 8 ?_
  refine Gb (GU HD HD HD HD (enc := eNod) (lst := l) memA hi (fun _ _ => ?_))
  refine Gb (AO.loadFA HD HD ?_)
  intro a11 k11 c11
  refine Gb (GW HD (fun b5 => ?_))
  refine qs 5 ?_
  refine Gb (AO.makeMap (fun i : Int => .int .i64 i) (encW a k c) HD (fun b12 => ?_))
  refine qs 1 ?_
  refine Gb (Gy (us := [vW a k c]) (vs := []) HD HD HD ?_)
  refine Gb (GI (κ := Int) 0 36 HD HD HD ?_)
  refine qs 1 ?_
  refine Gb (Gy (us := [vW a k c]) (vs := []) HD HD HD ?_)
  refine Gb (GI (κ := Int) 1 37 HD HD HD ?_)
  refine qs 1 ?_
  refine Gb (Gy (us := [vW a k c]) (vs := []) HD HD HD ?_)
  refine Gb (GI (κ := Int) 2 37 HD HD HD ?_)
  refine qs 1 ?_
  refine Gb (Gy (us := [vW a k c]) (vs := []) HD HD HD ?_)
  refine Gb (GI (κ := Int) 3 37 HD HD HD ?_)
  refine qs 1 ?_
  refine Gb (Gy (us := [vW a k c]) (vs := []) HD HD HD ?_)
  refine Gb (GI (κ := Int) 4 37 HD HD HD ?_)
  refine qs 1 ?_
  refine Gb (Gy (us := [vW a k c]) (vs := []) HD HD HD ?_)
  refine Gb (GI (κ := Int) 5 37 HD HD HD ?_)
  refine qs 1 ?_
  refine Gb (Gy (us := [vW a k c]) (vs := []) HD HD HD ?_)
  refine Gb (GI (κ := Int) 6 38 HD HD HD ?_)
  refine qs 1 ?_
  refine Gb (Gy (us := [vW a k c]) (vs := []) HD HD HD ?_)
  refine Gb (GI (κ := Int) 7 39 HD HD HD ?_)
  refine qs 1 ?_
  refine Gb (Gy (us := [vW a k c]) (vs := []) HD HD HD ?_)
  refine Gb (GI (κ := Int) 8 40 HD HD HD ?_)
  refine qs 1 ?_
  refine Gb (Gy (us := [vW a k c]) (vs := []) HD HD HD ?_)
  refine Gb (GI (κ := Int) 9 41 HD HD HD ?_)
  refine qs 1 ?_
  refine Gb (Gy (us := [vW a k c]) (vs := []) HD HD HD ?_)
  refine Gb (GI (κ := Int) 10 42 HD HD HD ?_)
  refine qs 1 ?_
  refine Gb (Gy (us := [vW a k c]) (vs := []) HD HD HD ?_)
  refine Gb (GI (κ := Int) 11 43 HD HD HD ?_)
  refine qs 1 ?_
  refine Gb (Gy (us := [vW a k c]) (vs := []) HD HD HD ?_)
  refine Gb (GI (κ := Int) 12 44 HD HD HD ?_)
  refine qs 1 ?_
  refine Gb (Gy (us := [vW a k c]) (vs := []) HD HD HD ?_)
  refine Gb (GI (κ := Int) 13 45 HD HD HD ?_)
  refine qs 1 ?_
  refine Gb (Gy (us := [vW a k c]) (vs := []) HD HD HD ?_)
  refine Gb (GI (κ := Int) 14 46 HD HD HD ?_)
  refine qs 1 ?_
  refine Gb (Gy (us := [vW a k c]) (vs := []) HD HD HD ?_)
  refine Gb (GI (κ := Int) 15 47 HD HD HD ?_)
  refine qs 1 ?_
  refine Gb (Gy (us := [vW a k c]) (vs := []) HD HD HD ?_)
  refine Gb (GI (κ := Int) 16 48 HD HD HD ?_)
  refine qs 1 ?_
  refine Gb (Gy (us := [vW a k c]) (vs := []) HD HD HD ?_)
  refine Gb (GI (κ := Int) 17 49 HD HD HD ?_)
  refine qs 1 ?_
  refine Gb (Gy (us := [vW a k c]) (vs := []) HD HD HD ?_)
  refine Gb (GI (κ := Int) 18 50 HD HD HD ?_)
  refine qs 1 ?_
  refine Gb (Gy (us := [vW a k c]) (vs := []) HD HD HD ?_)
  refine Gb (GI (κ := Int) 19 50 HD HD HD ?_)
  refine qs 1 ?_
  refine Gb (Gy (us := [vW a k c]) (vs := []) HD HD HD ?_)
  refine Gb (GI (κ := Int) 20 51 HD HD HD ?_)
  refine qs 1 ?_
  refine Gb (Gy (us := [vW a k c]) (vs := []) HD HD HD ?_)
  refine Gb (GI (κ := Int) 21 52 HD HD HD ?_)
  refine qs 1 ?_
  refine Gb (Gy (us := [vW a k c]) (vs := []) HD HD HD ?_)
  refine Gb (GI (κ := Int) 22 41 HD HD HD ?_)
  refine qs 1 ?_
  refine Gb (Gy (us := [vW a k c]) (vs := []) HD HD HD ?_)
  refine Gb (GI (κ := Int) 23 53 HD HD HD ?_)
  refine qs 1 ?_
  refine Gb (Gy (us := [vW a k c]) (vs := []) HD HD HD ?_)
  refine Gb (GI (κ := Int) 24 54 HD HD HD ?_)
  refine qs 1 ?_
  refine Gb (Gy (us := [vW a k c]) (vs := []) HD HD HD ?_)
  refine Gb (GI (κ := Int) 25 55 HD HD HD ?_)
  refine qs 1 ?_
  refine Gb (Gy (us := [vW a k c]) (vs := []) HD HD HD ?_)
  refine Gb (GI (κ := Int) 26 56 HD HD HD ?_)
  refine qs 1 ?_
  refine Gb (Gy (us := [vW a k c]) (vs := []) HD HD HD ?_)
  refine Gb (GI (κ := Int) 27 50 HD HD HD ?_)
  refine qs 1 ?_
  refine Gb (Gy (us := [vW a k c]) (vs := []) HD HD HD ?_)
  refine Gb (GI (κ := Int) 28 57 HD HD HD ?_)
  refine qs 1 ?_
  refine Gb (Gy (us := [vW a k c]) (vs := []) HD HD HD ?_)
  refine Gb (GI (κ := Int) 29 50 HD HD HD ?_)
  refine qs 1 ?_
  refine Gb (Gy (us := [vW a k c]) (vs := []) HD HD HD ?_)
  refine Gb (GI (κ := Int) 30 58 HD HD HD ?_)
  refine qs 1 ?_
  refine Gb (Gy (us := [vW a k c]) (vs := []) HD HD HD ?_)
  refine Gb (GI (κ := Int) 31 59 HD HD HD ?_)
  refine qs 1 ?_
  refine Gb (Gy (us := [vW a k c]) (vs := []) HD HD HD ?_)
  refine Gb (GI (κ := Int) 32 60 HD HD HD ?_)
  refine qs 9 ?_
  refine Gb (AO.lookupS (i := 0) (κ := Int) l[i].kind (v := f) hf HD HD HD HD ?_)
  refine qs 1 ?_
  refine Gb (AO.callB (fi := [vW a k c]) (cs := []) HD HD HD (hW (a1 := a11) (k1 := k11) (c1 := c11) memA memA ?_))
  refine qs 4 ?_
  exact Gf (L' := L) (F' := F) Tryz.results19 rfl subA h
theorem text_all (l : List Nod) (hr : RightN l) (hl : ownAll l ≤ 100000000) (ht : ∀ n ∈ l, n.text.length ≤ 1000000) : ∀ i, i ≤ l.length → TxC W0 l (txtB l) i
  | 0, _ => fun j h0 h1 => absurd h1 HF
  | i + 1, hi => fun j h0 h1 L F R a k c mL h => by
    have ih := text_all l hr hl ht i HF
    rcases (show j < (i : Int) ∨ j = (i : Int) by omega) with q | rfl
    · exact ih j h0 q mL h
    have he := txtB_eq hr (show i < l.length by omega)
    refine text1_c l (txtB l) hr HF ih (ht _ (List.getElem_mem _)) (by rw [← he]; exact Nat.le_trans (txtB_len hr HF) HF) mL ?_
    rw [← he]
    have : tx (txtB l) (i : Int) = txtB l i := by unfold tx; rw [if_neg HF, Int.toNat_natCast]
    rw [← this]; exact h
theorem text_c (l : List Nod) (hr : RightN l) (hl : ownAll l ≤ 100000000) (ht : ∀ n ∈ l, n.text.length ≤ 1000000) {i : Nat} (hi : i < l.length) {a : Option Addr} {k c : Nat} (mL : fNod l a k c ∈ F) (h : R (S (txtB l i)) L F) : ACalls Tryz.prog W0 19 #[vW a k c, .int .i64 (i : Int)] L F R := by
  have : tx (txtB l) (i : Int) = txtB l i := by unfold tx; rw [if_neg HF, Int.toNat_natCast]
  exact text_all l hr hl ht (i + 1) hi (i : Int) HF HF mL (by rw [this]; exact h)
end
end Go.Sy
namespace Go.Sy
open Go Go.Proofs Go.RowKit
theorem take_step {α : Type} {l m : List α} {k : Nat} (h : l.take k = m.take k) (hl : k < l.length) (hm : k < m.length) (he : l[k] = m[k]) : l.take (k + 1) = m.take (k + 1) := by
  rw [List.take_succ_eq_append_getElem hl, List.take_succ_eq_append_getElem hm, h, he]
theorem ne_at {α : Type} {l m : List α} {k : Nat} (hl : k < l.length) (hm : k < m.length) (he : l[k] ≠ m[k]) : l ≠ m := fun e => he (by subst e; rfl)
theorem all_of_take {α : Type} {l m : List α} {k : Nat} (h : l.take k = m.take k) (hl : l.length ≤ k) (hm : m.length ≤ k) : l = m := by
  rwa [List.take_of_length_le hl, List.take_of_length_le hm] at h
abbrev keyN (n : Nod) : Int × Bs × List Int := (n.kind, n.text, n.kids)
theorem keyN_eq {x y : Nod} : keyN x = keyN y ↔ x.kind = y.kind ∧ x.text = y.text ∧ x.kids = y.kids := by
  unfold keyN; simp only [Prod.mk.injEq]
theorem keys_len {l m : List Nod} (he : l.map keyN = m.map keyN) : l.length = m.length := by
  have := congrArg List.length he
  simpa using this
theorem keys_at {l m : List Nod} (he : l.map keyN = m.map keyN) {q : Nat} (h1 : q < l.length) (h2 : q < m.length) : keyN l[q] = keyN m[q] := by
  have h := congrArg (fun x => x[q]?) he
  simpa only [List.getElem?_map, List.getElem?_eq_getElem h1, List.getElem?_eq_getElem h2, Option.map_some, Option.some.injEq] using h
theorem keys_step {l m : List Nod} {q : Nat} (h : (l.take q).map keyN = (m.take q).map keyN) (h1 : q < l.length) (h2 : q < m.length) (he : l[q].kind = m[q].kind ∧ l[q].text = m[q].text ∧ l[q].kids = m[q].kids) : (l.take (q + 1)).map keyN = (m.take (q + 1)).map keyN := by
  rw [List.take_succ_eq_append_getElem h1, List.take_succ_eq_append_getElem h2, List.map_append, List.map_append, h]
  simp only [List.map_cons, List.map_nil, keyN, he.1, he.2.1, he.2.2]
theorem keys_all {l m : List Nod} {q : Nat} (h : (l.take q).map keyN = (m.take q).map keyN) (h1 : l.length ≤ q) (h2 : m.length ≤ q) : l.map keyN = m.map keyN := by
  rwa [List.take_of_length_le h1, List.take_of_length_le h2] at h
def cutN (n : Nod) : Nod := ⟨n.kind, n.text.take (min n.text.length 40), n.kids.take (min n.kids.length 60), n.pos⟩
def fewN (l : List Nod) : List Nod := (l.take (min l.length 120)).map cutN
theorem fewN_step {l : List Nod} {q : Nat} (hq : q < l.length) : (l.take q).map cutN ++ [cutN l[q]] = (l.take (q + 1)).map cutN := by
  rw [List.take_succ_eq_append_getElem hq, List.map_append]; rfl
attribute [local irreducible] AC AT AO AK AH ACalls ACallsX ACallsD Sub Res.cells Res.obj Res.nix Res.own Res.map Exit.then Exit.inBlock Exit.noGoto bodyPost bodyPostD Code.wp Code.wpIn WL Next Post PostX Kont
section
variable {W0 : World} {L : List Res} {F : List Fact} {R : Value → List Res → List Fact → Prop}
set_option maxRecDepth 100000
set_option maxHeartbeats 4000000
theorem eqI_c (l m : List Int) {a1 a2 : Option Addr} {k1 c1 k2 c2 : Nat} (m1 : Fact.slc (.slice a1 k1 c1) 1 (l.map eInt) ∈ F) (m2 : Fact.slc (.slice a2 k2 c2) 1 (m.map eInt) ∈ F) (hT : l = m → R (.bool true) L F) (hF : l ≠ m → R (.bool false) L F) :
    ACalls Tryz.prog W0 63 #[.slice a1 k1 c1, .slice a2 k2 c2] L F R := by
  refine Gm Tryz.func63 HD Tryz.ntmps63 HD ?_
  refine qs 9 ?_
  refine Gb (Hf HD HD (fun hl1 => ?_) (enc := eInt) (lst := l) (hm := m1))
  refine qs 1 ?_
  refine Gb (Hf HD HD (fun hl2 => ?_) (enc := eInt) (lst := m) (hm := m2))
  refine Gb (Hy HD HD HD (fun c10 => ?_) (fun c10 => ?_))
  ·refine qs 10 ?_
   first | refine Gf Tryz.results63 HD subA (hT ?_) | refine Gf Tryz.results63 HD subA (hF ?_)
   first
   | exact ne_at hkl hkm c24
   | exact fun e => c10 (by rw [e])
   | exact all_of_take hok HF HF
  refine qs 9 ?_
  refine Gb (Hf HD HD (fun hl3 => ?_) (enc := eInt) (lst := l) (hm := m1))
  refine qs 4 ?_
  refine GZ (fun k => k ≤ l.length ∧ l.take k = m.take k) (fun k => [(0, .slice a1 k1 c1), (1, .slice a2 k2 c2), (12, .int .i64 l.length), (13, .int .i64 (k : Int))]) (fun _ => L) (fun _ => F) (fun k => l.length - k) 0 ⟨by omega, by simp⟩ srA (Ga _ _) ?_
  rintro k ⟨hk, hok⟩
  refine qs 2 ?_
  refine Gb (He HD HD HD (fun c14 => ?_) (fun c14 => ?_))
  ·refine qs 15 ?_
   refine GJ (fun _ => false) [] bxA HD (fun hx hX => ?_)
   have hkl : k < l.length := by omega
   have hkm : k < m.length := by omega
   have hkk1 := (GX (hX _ m1)).1
   have hkk3 := (GX (hX _ m2)).1
   obtain ⟨p1, o1, rfl, at1⟩ := Hi (hX _ m1) hkl
   obtain ⟨p2, o2, rfl, at2⟩ := Hi (hX _ m2) hkm
   obtain ⟨v1, hv1, hc1⟩ := at1 0 _ rfl
   obtain ⟨v2, hv2, hc2⟩ := at2 0 _ rfl
   cases hc1
   cases hc2
   refine qt [0, 1, 2, 3, 4, 5, 6, 7] ?_
   refine AH.takeB (i := 8) HD (Y.neq HD HD) HE HD HD (fun c24 => ?_) (fun c24 => ?_)
   ·replace c24 := ne_of_bne c24
    refine GC HE ?_
    refine qs 13 ?_
    first | refine Gf Tryz.results63 HD subA (hT ?_) | refine Gf Tryz.results63 HD subA (hF ?_)
    first
    | exact ne_at hkl hkm c24
    | exact fun e => c10 (by rw [e])
    | exact all_of_take hok HF HF
   replace c24 := eq_of_bneF c24
   refine GC HE ?_
   refine qs 9 ?_
   refine GN (k + 1) ⟨by omega, take_step hok hkl hkm c24⟩ HF srA subF
  refine qs 15 ?_
  first | refine Gf Tryz.results63 HD subA (hT ?_) | refine Gf Tryz.results63 HD subA (hF ?_)
  first
  | exact ne_at hkl hkm c24
  | exact fun e => c10 (by rw [e])
  | exact all_of_take hok HF HF
theorem same1_c (x y : Nod) {a1 a2 : Option Addr} {k1 c1 k2 c2 : Nat} (m1 : fKs x a1 k1 c1 ∈ F) (m2 : fKs y a2 k2 c2 ∈ F) (hT : keyN x = keyN y → R (.bool true) L F) (hF : keyN x ≠ keyN y → R (.bool false) L F) :
    ACalls Tryz.prog W0 62 #[vNod x a1 k1 c1, vNod y a2 k2 c2] L F R := by
  refine Gm Tryz.func62 HD Tryz.ntmps62 HD ?_
  refine qs 2 ?_
  refine Gb (GE HD HD (fun b2 => (Gb (GE HD HD (fun b3 => ?_)))))
  refine qs 9 ?_
  refine Gb (Gx HD HD HD (fun c9 => ?_) (fun c9 => ?_))
  ·refine qs 5 ?_
   refine Gq HD HD (AO.eqlS HD HD HD (fun c15 => ?_) (fun c15 => ?_))
   ·refine qs 6 ?_
    refine Gq HD HD (Gh HD HD (eqI_c x.kids y.kids (show fKs x _ _ _ ∈ _ from memA) (show fKs y _ _ _ ∈ _ from memA) (fun c22 => ?_) (fun c22 => ?_)))
    ·refine qs 5 ?_
     exact Gf (L' := L) (F' := F) Tryz.results62 rfl subA (hT (keyN_eq.2 ⟨c9, c15, c22⟩))
    refine qs 5 ?_
    exact Gf (L' := L) (F' := F) Tryz.results62 rfl subA (hF (fun e => c22 (keyN_eq.1 e).2.2))
   refine qs 12 ?_
   exact Gf (L' := L) (F' := F) Tryz.results62 rfl subA (hF (fun e => c15 (keyN_eq.1 e).2.1))
  refine qs 18 ?_
  exact Gf (L' := L) (F' := F) Tryz.results62 rfl subA (hF (fun e => ‹¬_› (keyN_eq.1 e).1))
theorem equalF_c (l m : List Nod) {a1 a2 : Option Addr} {k1 c1 k2 c2 : Nat} (m1 : fNod l a1 k1 c1 ∈ F) (m2 : fNod m a2 k2 c2 ∈ F) (hT : l.map keyN = m.map keyN → R (.bool true) L F) (hF : l.map keyN ≠ m.map keyN → R (.bool false) L F) :
    ACalls Tryz.prog W0 61 #[.slice a1 k1 c1, .slice a2 k2 c2, .func (.func 62) #[] #[]] L F R := by
  refine Gm Tryz.func61 HD Tryz.ntmps61 HD ?_
  refine qs 9 ?_
  refine Gb (Hf HD HD (fun hl11 => ?_) (enc := eNod) (lst := l) (hm := memA))
  refine qs 1 ?_
  refine Gb (Hf HD HD (fun hl13 => ?_) (enc := eNod) (lst := m) (hm := memA))
  refine Gb (Hy HD HD HD (fun c14 => ?_) (fun c14 => ?_))
  ·refine qs 10 ?_
   exact Gf (L' := L) (F' := F) Tryz.results61 rfl subA (hF (fun e => by have := keys_len e; omega))
  refine qs 9 ?_
  refine Gb (Hf HD HD (fun hl16 => ?_) (enc := eNod) (lst := l) (hm := memA))
  refine qs 4 ?_
  refine GZ (fun (q : Nat) => q ≤ l.length ∧ (l.take q).map keyN = (m.take q).map keyN) (fun q => [(1, .slice a2 k2 c2), (2, .func (.func 62) #[] #[]), (15, .slice a1 k1 c1), (16, .int .i64 l.length), (17, .int .i64 (q : Int))]) (fun _ => L) (fun _ => F) (fun q => l.length - q) 0 ⟨by omega, by simp⟩ srA (Ga _ _) ?_
  rintro q ⟨hq, hok⟩
  refine qs 2 ?_
  refine Gb (He HD HD HD (fun c18 => ?_) (fun c18 => ?_))
  ·refine qs 11 ?_
   have hql : q < l.length := by omega
   have hqm : q < m.length := by omega
   refine Gb (GU HD HD HD HD (enc := eNod) (lst := l) memA hql (fun _ _ => ?_))
   refine Gb (AO.loadFA HD HD ?_)
   intro a21 k21 c21
   refine Gb (GW HD (fun b8 => ?_))
   refine qs 8 ?_
   refine Gb (GU HD HD HD HD (enc := eNod) (lst := m) memA hqm (fun _ _ => ?_))
   refine Gb (AO.loadFA HD HD ?_)
   intro a25 k25 c25
   refine Gb (GW HD (fun b9 => ?_))
   refine qs 8 ?_
   refine Gb (AO.callC HD HD HD (same1_c l[q] m[q] memA memA (fun c29 => ?_) (fun c29 => ?_)))
   ·refine qs 11 ?_
    refine GN (q + 1) ⟨by omega, keys_step hok hql hqm (keyN_eq.1 c29)⟩ HF srA subA
   refine qs 15 ?_
   exact Gf (L' := L) (F' := F) Tryz.results61 rfl subA (hF (fun e => c29 (keys_at e hql hqm)))
  refine qs 15 ?_
  exact Gf (L' := L) (F' := F) Tryz.results61 rfl subA (hT (keys_all hok HF HF))
theorem alike_c (l m : List Nod) {a1 a2 : Option Addr} {k1 c1 k2 c2 : Nat} (m1 : fNod l a1 k1 c1 ∈ F) (m2 : fNod m a2 k2 c2 ∈ F) (hT : l.map keyN = m.map keyN → R (.bool true) L F) (hF : l.map keyN ≠ m.map keyN → R (.bool false) L F) :
    ACalls Tryz.prog W0 20 #[.slice a1 k1 c1, .slice a2 k2 c2] L F R := by
  refine Gm Tryz.func20 HD Tryz.ntmps20 HD ?_
  refine qs 9 ?_
  refine Gb (Gh HD HD (equalF_c l m memA memA (fun c7 => ?_) (fun c7 => ?_)))
  ·refine qs 4 ?_
   exact Gf (L' := L) (F' := F) Tryz.results20 rfl subA (hT c7)
  refine qs 4 ?_
  exact Gf (L' := L) (F' := F) Tryz.results20 rfl subA (hF c7)
theorem like2_c (l m : List Nod) {a1 a2 : Option Addr} {k1 c1 k2 c2 : Nat} (m1 : fNod l a1 k1 c1 ∈ F) (m2 : fNod m a2 k2 c2 ∈ F) (hT : l.map keyN = m.map keyN → R (.bool true) L F) (hF : l.map keyN ≠ m.map keyN → R (.bool false) L F) : ACalls Tryz.prog W0 8 #[.slice a1 k1 c1, .slice a2 k2 c2] L F R := by
  refine Gm Tryz.func8 HD Tryz.ntmps8 HD ?_
  refine qs 9 ?_
  refine Gb (Hf HD HD (fun hl8 => ?_) (enc := eNod) (lst := l) (hm := memA))
  refine qs 1 ?_
  refine Gb (Hf HD HD (fun hl10 => ?_) (enc := eNod) (lst := m) (hm := memA))
  refine Gb (Hy HD HD HD (fun c11 => ?_) (fun c11 => ?_))
  ·refine qs 10 ?_
   exact Gf (L' := L) (F' := F) Tryz.results8 rfl subA (hF (fun e => by have := keys_len e; omega))
  refine qs 9 ?_
  refine Gb (Hf HD HD (fun hl13 => ?_) (enc := eNod) (lst := l) (hm := memA))
  refine qs 4 ?_
  refine GZ (fun (q : Nat) => q ≤ l.length ∧ (l.take q).map keyN = (m.take q).map keyN) (fun q => [(0, .slice a1 k1 c1), (1, .slice a2 k2 c2), (13, .int .i64 l.length), (14, .int .i64 (q : Int))]) (fun _ => L) (fun _ => F) (fun q => l.length - q) 0 ⟨by omega, by simp⟩ srA (Ga _ _) ?_
  rintro q ⟨hq, hok⟩
  refine qs 2 ?_
  refine Gb (He HD HD HD (fun c15 => ?_) (fun c15 => ?_))
  ·refine qs 16 ?_
   refine GJ (fun _ => false) [] bxA HD (fun hx hX => ?_)
   have hkl : q < l.length := by omega
   have hkm : q < m.length := by omega
   have hkk1 := (GX (hX _ m1)).1
   have hkk3 := (GX (hX _ m2)).1
   obtain ⟨p1, o1, rfl, at1⟩ := Hi (hX _ m1) hkl
   obtain ⟨p2, o2, rfl, at2⟩ := Hi (hX _ m2) hkm
   obtain ⟨w1, x1, y1, hv1, hw1⟩ := nod_cells at1
   obtain ⟨w2, x2, y2, hv2, hw2⟩ := nod_cells at2
   have d0 := hv1 0 _ rfl
   have d1 := hv1 1 _ rfl
   have d2 := hv1 2 _ rfl
   have f0 := hv2 0 _ rfl
   have f1 := hv2 1 _ rfl
   have f2 := hv2 2 _ rfl
   have hx1 := (GX hw1).1
   have hx2 := (GX hw2).1
   refine qt [0, 1, 2, 3, 4, 5, 6, 7, 8, 9] ?_
   refine AH.takeB (i := 10) HD (Y.neq HD HD) HE HD HD (fun c27 => ?_) (fun c27 => ?_)
   ·replace c27 := ne_of_bne c27
    refine qt [11, 12, 13, 14, 15, 16, 17, 18, 19, 20, 21, 22, 23, 24, 25, 26, 27, 28, 29, 30, 31, 32, 33, 34, 35, 36, 37, 38] ?_
    refine GC HE ?_
    refine qs 14 ?_
    exact Gf (L' := L) (F' := F) Tryz.results8 rfl subA (hF (fun e => c27 (keyN_eq.1 (keys_at e hkl hkm)).1))
   replace c27 := eq_of_bneF c27
   refine qt [11, 12, 13, 14, 15, 16, 17, 18, 19, 20, 21] ?_
   refine AH.takeB (i := 22) HD (Y.neqS HD HD) HE HD HD (fun c39 => ?_) (fun c39 => ?_)
   ·replace c39 := ne_of_nbeq c39
    refine qt [23, 24, 25, 26, 27, 28, 29, 30, 31, 32, 33, 34, 35, 36, 37, 38] ?_
    refine GC HE ?_
    refine qs 14 ?_
    exact Gf (L' := L) (F' := F) Tryz.results8 rfl subA (hF (fun e => c39 (keyN_eq.1 (keys_at e hkl hkm)).2.1))
   replace c39 := eq_of_nbeqF c39
   refine qt [23, 24, 25, 26, 27, 28, 29, 30, 31, 32, 33, 34, 35, 36] ?_
   refine AH.takeB (i := 37) HD (Y.neq HD HD) HE HD HD (fun c54 => ?_) (fun c54 => ?_)
   ·replace c54 := ne_of_bne c54
    refine qt [38] ?_
    refine GC HE ?_
    refine qs 14 ?_
    exact Gf (L' := L) (F' := F) Tryz.results8 rfl subA (hF (fun e => by have := congrArg List.length (keyN_eq.1 (keys_at e hkl hkm)).2.2; omega))
   replace c54 := eq_of_bneF c54
   refine qt [38] ?_
   refine GC HE ?_
   refine qs 8 ?_
   refine Gb (GU HD HD HD HD (enc := eNod) (lst := l) memA hkl (fun _ _ => ?_))
   refine Gb (AO.fieldAt HD HD (fun _ => ?_))
   refine Gb (Hz HD HD ?_)
   intro a60 k60 c60
   refine Gb (Hf HD HD (fun hl61 => ?_) (enc := eInt) (lst := l[q].kids) (hm := memA))
   refine qs 4 ?_
   have hkkl : l[q].kids.length = m[q].kids.length := by omega
   refine GZ (fun (v : Nat) => v ≤ l[q].kids.length ∧ l[q].kids.take v = m[q].kids.take v) (fun v => [(0, .slice _ k1 c1), (1, .slice _ k2 c2), (5, .int .i64 (q : Int)), (13, .int .i64 l.length), (14, .int .i64 (q : Int)), (61, .int .i64 l[q].kids.length), (62, .int .i64 (v : Int))]) (fun _ => L) (fun _ => F) (fun v => l[q].kids.length - v) 0 ⟨by omega, by simp⟩ srA subF ?_
   rintro v ⟨hv, hvk⟩
   refine qs 2 ?_
   refine Gb (He HD HD HD (fun c63 => ?_) (fun c63 => ?_))
   ·refine qs 15 ?_
    refine GJ (fun _ => false) [] bxA HD (fun hx hX => ?_)
    have hvl : v < l[q].kids.length := by omega
    have hvm : v < m[q].kids.length := by omega
    have hkk1 := (GX (hX _ m1)).1
    have hkk3 := (GX (hX _ m2)).1
    obtain ⟨p1, o1, e1, at1⟩ := Hi (hX _ m1) hkl
    obtain ⟨p2, o2, e2, at2⟩ := Hi (hX _ m2) hkm
    injection e1 with e1; injection e1 with e1a e1b; subst e1a; subst e1b
    injection e2 with e2; injection e2 with e2a e2b; subst e2a; subst e2b
    obtain ⟨w1, x1, y1, hv1, hw1⟩ := nod_cells at1
    obtain ⟨w2, x2, y2, hv2, hw2⟩ := nod_cells at2
    have hx1 := (GX hw1).1
    have hx2 := (GX hw2).1
    obtain ⟨p3, o3, rfl, at3⟩ := Hi hw1 hvl
    obtain ⟨p4, o4, rfl, at4⟩ := Hi hw2 hvm
    have d2 := hv1 2 _ rfl
    have f2 := hv2 2 _ rfl
    obtain ⟨u3, g3, hc3⟩ := at3 0 _ rfl
    obtain ⟨u4, g4, hc4⟩ := at4 0 _ rfl
    cases hc3
    cases hc4
    refine qt [0, 1, 2, 3, 4, 5, 6, 7, 8, 9, 10, 11, 12, 13, 14, 15] ?_
    refine AH.takeB (i := 16) HD (Y.neq HD HD) HE HD HD (fun c81 => ?_) (fun c81 => ?_)
    ·replace c81 := ne_of_bne c81
     refine GC HE ?_
     refine qs 17 ?_
     exact Gf (L' := L) (F' := F) Tryz.results8 rfl subA (hF (fun e => ne_at hvl hvm c81 (keyN_eq.1 (keys_at e hkl hkm)).2.2))
    replace c81 := eq_of_bneF c81
    refine GC HE ?_
    refine qs 9 ?_
    refine GN (v + 1) ⟨by omega, take_step hvk hvl hvm c81⟩ HF srA subF
   refine qs 14 ?_
   have hkids : l[q].kids = m[q].kids := all_of_take hvk HF HF
   refine GN (q + 1) ⟨by omega, keys_step hok hkl hkm ⟨c27, c39, hkids⟩⟩ HF srA subF
  refine qs 15 ?_
  exact Gf (L' := L) (F' := F) Tryz.results8 rfl subA (hT (keys_all hok HF HF))
theorem few_c (l : List Nod) {a : Option Addr} {k c : Nat} (m1 : fNod l a k c ∈ F) (h : ∀ a k c, R (.slice a k c) L (fNod (fewN l) a k c :: F)) : ACalls Tryz.prog W0 10 #[.slice a k c] L F R := by
  refine Gm Tryz.func10 HD Tryz.ntmps10 HD ?_
  refine qs 15 ?_
  refine Gb (Hf HD HD (fun hl8 => ?_) (hm := by repeat (first | exact mem0 | assumption | refine memS ?_)))
  refine Gb (AO.min HD HD HD ?_)
  refine Gb (AO.sliceH (j' := min l.length 120) HD HD HD HF (enc := eNod) (lst := l) memA HF (fun a10 k10 c10 => ?_))
  refine Gb (Hf HD HD (fun hl11 => ?_) (hm := by repeat (first | exact mem0 | assumption | refine memS ?_)))
  refine qs 4 ?_
  have hfew : fewN l = (l.take (min l.length 120)).map cutN := rfl
  have hwl : (l.take (min l.length 120)).length ≤ 120 := by simp only [List.length_take]; omega
  generalize l.take (min l.length 120) = l' at hwl hfew ⊢
  refine GZ (fun (i : Nat × Option Addr × Nat × Nat) => i.1 ≤ l'.length) (fun i => [(3, .slice i.2.1 i.2.2.1 i.2.2.2), (10, .slice a10 k10 c10), (11, .int .i64 l'.length), (12, .int .i64 (i.1 : Int))]) (fun i => Res.own (.slice i.2.1 i.2.2.1 i.2.2.2) 50 4 (((l'.take i.1).map cutN).map eNod) :: _) (fun _ => fNod l' a10 k10 c10 :: F) (fun i => l'.length - i.1) (0, none, 0, 0) (by simp) srA Sub.ownNil ?_
  rintro ⟨q, a3, k3, c3⟩ hq
  simp only at hq ⊢
  refine qs 2 ?_
  refine Gb (He HD HD HD (fun c13 => ?_) (fun c13 => ?_))
  ·refine qs 10 ?_
   have hql : q < l'.length := by omega
   refine Gb (GU HD HD HD HD memA hql (fun _ _ => ?_))
   refine Gb (AO.loadFA HD HD ?_)
   intro a15 k15 c15
   refine Gb (GW HD (fun b5 => ?_))
   refine qs 4 ?_
   refine GJ (fun i => Nat.beq i 15 || Nat.beq i 17) [(b5, _, _)] bxA HD (fun hx hX => ?_)
   have hk1 := (GX (hX (fKs l'[q] a15 k15 c15) memA)).1
   have hc1 := (GX (hX (fKs l'[q] a15 k15 c15) memA)).2
   subst hk1
   refine AH.weak (Sub.init (enc := eInt) (lst := l'[q].kids) (min l'[q].kids.length 60) (show fKs l'[q] _ _ c15 ∈ _ from memA) HF HF) ?_
   refine qt [0, 1, 2, 3, 4, 5] ?_
   refine Gn (i := 6) HD (Y.sliceSH (j' := min l'[q].text.length 40) HD HD HF HF) HE HD HD ?_
   refine qt [7, 8, 9, 10, 11, 12] ?_
   refine Gn (i := 13) HD (Y.sliceH (j' := min l'[q].kids.length 60) HD HD HF HF) HE HD HD ?_
   refine qt [14] ?_
   refine Gz (i := 15) HE HD HD (fun _ => ?_)
   refine Ho HD HD HD ?_
   refine AT.spoilt HD ?_
   refine qt [16] ?_
   refine Gz (i := 17) HE HD HD (fun _ => ?_)
   refine Ho HD HD HD ?_
   refine AT.spoilt HD ?_
   refine GC HE ?_
   refine qs 4 ?_
   refine Gb (GF HD HD HD HD HD (fun b34 => ?_))
   have htl : ((l'.take q).map cutN).length = q := by rw [List.length_map, List.length_take]; omega
   refine Gb (Hc (i := 1) (enc := eNod) (lst := (l'.take q).map cutN) [cutN l'[q]] HD HD HD HD (.val (.val (.slc (.val .nil) memA))) HD HD (fun _ => rfl) (by rw [htl]; simp only [maxLen]; omega) (by rw [htl]; omega) (fun a35 k35 c35 => ?_))
   rw [fewN_step hql]
   refine qs 8 ?_
   refine GN (q + 1, a35, k35, c35) (by simp only; omega) (by simp only; omega) srA (Sub.drop.trans subF)
  refine qs 11 ?_
  refine Gb (AO.move HD HD ?_)
  have hall : l'.take q = l' := List.take_of_length_le HF
  rw [hall]
  refine GM (GR (i := 0) HD) ?_
  refine qs 4 ?_
  rw [hfew] at h
  exact Gf (L' := L) (F' := fNod (l'.map cutN) a3 k3 c3 :: F) Tryz.results10 rfl (Sub.drop.trans (Sub.headF (fun x hx => by repeat (first | exact hx | refine List.mem_cons_of_mem _ ?_)))) (h _ _ _)
end
end Go.Sy
namespace Go.Sy
open Go
section
variable {a b : List Nod} {T : Nat → Bs}
theorem kindAt_keys (h : a.map keyN = b.map keyN) (i : Int) : kindAt a i = kindAt b i := by
  unfold kindAt
  have := congrArg (fun x => (x[i.toNat]?).map fun y => y.1) h
  simp only [List.getElem?_map, Option.map_map] at this
  have e : (fun y : Int × Bs × List Int => y.1) ∘ keyN = Nod.kind := rfl
  rw [e] at this
  rw [this]
theorem kidsAt_keys (h : a.map keyN = b.map keyN) (i : Int) : (nodOf a i).kids = (nodOf b i).kids := by
  unfold nodOf
  have := congrArg (fun x => ((x[i.toNat]?).map fun y => y.2.2)) h
  simp only [List.getElem?_map, Option.map_map] at this
  have e : (fun y : Int × Bs × List Int => y.2.2) ∘ keyN = Nod.kids := rfl
  rw [e] at this
  have e2 : ∀ x : Option Nod, (x.getD ⟨0, [], [], 0⟩).kids = (x.map Nod.kids).getD [] := by intro x; cases x <;> rfl
  rw [e2, e2, this]
theorem bareB_keys (h : a.map keyN = b.map keyN) {n m : Nod} (hk : n.kids = m.kids) : bareB a T n = bareB b T m := by
  unfold bareB kid
  simp only [hk, kindAt_keys h]
theorem signB_keys (h : a.map keyN = b.map keyN) (i : Int) : signB a T i = signB b T i := by
  unfold signB
  rw [kindAt_keys h, bareB_keys h (kidsAt_keys h i)]
theorem nodeB_keys (h : a.map keyN = b.map keyN) {n m : Nod} (hn : keyN n = keyN m) : nodeB a T n = nodeB b T m := by
  obtain ⟨h1, h2, h3⟩ := keyN_eq.1 hn
  have hb : bareB a T n = bareB b T m := bareB_keys h h3
  have hk : kindAt a = kindAt b := funext fun i => kindAt_keys h i
  have hs : signB a T = signB b T := funext fun i => signB_keys h i
  obtain ⟨k1, t1, c1, p1⟩ := n
  obtain ⟨k2, t2, c2, p2⟩ := m
  simp only at h1 h2 h3
  subst h1 h2 h3
  unfold nodeB valueB
  rw [hk, hs, hb]
  rfl
theorem tabB_keys (h : a.map keyN = b.map keyN) : ∀ i, tabB a i = tabB b i
  | 0 => rfl
  | i + 1 => by
    unfold tabB
    rw [tabB_keys h i]
    have hi := congrArg (fun x => x[i]?) h
    simp only [List.getElem?_map] at hi
    cases ha : a[i]? <;> cases hb : b[i]? <;> rw [ha, hb] at hi
    · cases hi
    · cases hi
    simp only [Option.map_some, Option.some.injEq] at hi
    show tabB b i ++ [nodeB a _ _] = tabB b i ++ [nodeB b _ _]
    rw [nodeB_keys h hi]
theorem txtB_keys (h : a.map keyN = b.map keyN) (i : Nat) : txtB a i = txtB b i := by
  unfold txtB
  rw [tabB_keys h, keys_len h]
end
def readB (l : List Nod) (s : Bs) : Except (Nat × Int) (List Nod) := if kindAt l ((l.length - 1 : Nat) : Int) = 32 then fileB s else exprB s
def rootB (l : List Nod) : Bs := txtB l (l.length - 1)
structure TextR (l : List Nod) (s : Bs) (e : Int) : Prop where
  ok : e = 0 → RightN l ∧ s = rootB l ∧ ∃ back, readB l s = .ok back ∧ back.map keyN = l.map keyN
  bad : e ≠ 0 → s = [] ∧ (RightN l → ∀ back, readB l (rootB l) = .ok back → back.map keyN ≠ l.map keyN)
theorem rootB_keys {a b : List Nod} (h : a.map keyN = b.map keyN) : rootB a = rootB b := by
  unfold rootB
  rw [keys_len h, txtB_keys h]
theorem apart_law {a b : List Nod} {s t : Bs} (ha : TextR a s 0) (hb : TextR b t 0) : s = t ↔ a.map keyN = b.map keyN := by
  obtain ⟨ra, ea, x, xa, ka⟩ := ha.ok rfl
  obtain ⟨rb, eb, y, yb, kb⟩ := hb.ok rfl
  constructor
  · intro e
    subst e
    unfold readB at xa yb
    split at xa <;> split at yb
    · rw [xa] at yb; injection yb with yb; subst yb; rw [← ka, ← kb]
    · obtain ⟨⟨z, hz⟩, _⟩ := fileB_not_expr xa
      rw [hz] at yb; cases yb
    · obtain ⟨⟨z, hz⟩, _⟩ := fileB_not_expr yb
      rw [hz] at xa; cases xa
    rw [xa] at yb; injection yb with yb; subst yb; rw [← ka, ← kb]
  intro h
  rw [ea, eb, rootB_keys h]
theorem ownAll_le {l : List Nod} {m : Nat} (h : ∀ n ∈ l, ownC n ≤ m) : ownAll l ≤ l.length * m := by
  unfold ownAll
  induction l with
  | nil => simp
  | cons n l ih =>
    have h1 := h n (List.mem_cons_self ..)
    have h2 := ih fun x hx => h x (List.mem_cons_of_mem _ hx)
    simp only [List.map_cons, List.sum_cons, List.length_cons, Nat.add_mul, Nat.one_mul]
    omega
theorem fewN_own (l : List Nod) : ownAll (fewN l) ≤ 100000 ∧ ∀ n ∈ fewN l, n.text.length ≤ 40 := by
  have hlen : (fewN l).length ≤ 120 := by unfold fewN; rw [List.length_map, List.length_take]; omega
  have hn : ∀ n ∈ fewN l, n.text.length ≤ 40 ∧ n.kids.length ≤ 60 := by
    intro n hn
    unfold fewN at hn
    obtain ⟨m, _, rfl⟩ := List.mem_map.1 hn
    unfold cutN
    simp only [List.length_take]
    omega
  refine ⟨?_, fun n h => (hn n h).1⟩
  have := ownAll_le (l := fewN l) (m := 640) fun n h => by
    obtain ⟨h1, h2⟩ := hn n h
    unfold ownC; omega
  have : (fewN l).length * 640 ≤ 120 * 640 := Nat.mul_le_mul_right _ hlen
  omega
def aliveS : Bs := [102, 40, 32, 97, 43, 49, 44, 98, 32, 41]
def aliveT : Bs := [102, 40, 97, 32, 43, 32, 49, 44, 32, 98, 41]
def aliveW : List Nod := [⟨1, [102], [], 0⟩, ⟨1, [97], [], 3⟩, ⟨2, [49], [], 5⟩, ⟨10, [43], [1, 2], 3⟩, ⟨1, [98], [], 7⟩, ⟨7, [], [0, 3, 4], 0⟩]
def aliveV : List Nod := [⟨1, [102], [], 0⟩, ⟨1, [97], [], 2⟩, ⟨2, [49], [], 6⟩, ⟨10, [43], [1, 2], 2⟩, ⟨1, [98], [], 9⟩, ⟨7, [], [0, 3, 4], 0⟩]
theorem aliveW_eq : exprB aliveS = .ok aliveW := by kernel_rfl
theorem aliveV_eq : exprB aliveT = .ok aliveV := by kernel_rfl
theorem alive_root : rootB aliveW = aliveT := by kernel_rfl
theorem alive_own : ownAll aliveW ≤ 100000 ∧ ∀ n ∈ aliveW, n.text.length ≤ 40 := by decide
theorem right_of {s : Bs} {l : List Nod} (hs : s.length ≤ 4000) (h : exprB s = .ok l) : RightN l := by
  have := treeB_ok (rule := pexprAll) (fun _ w => exprAll_tree w) s hs
  rw [show treeB pexprAll s = .ok l from h] at this
  exact this.1
theorem treeB_long {rule : List Tk → Except (Nat × Int) (List Nd)} {s : Bs} (hs : ¬ s.length ≤ 4000) : treeB rule s = .error (0, 7) := by
  have : scanB s = .error (0, 7) := by
    unfold scanB checkB
    rw [if_pos HF]
  unfold treeB
  rw [this]
theorem treeB_bad {rule : List Tk → Except (Nat × Int) (List Nd)} (hr : ∀ K, Wf K → match rule K with
    | .ok l => ∃ v, TreeP l v
    | .error (i, e) => i < K.length ∧ (e = 5 ∨ e = 6 ∨ e = 7)) {s : Bs} {i : Nat} {e : Int} (h : treeB rule s = .error (i, e)) : e ≠ 0 := by
  by_cases hs : s.length ≤ 4000
  · have := treeB_ok hr s hs
    rw [h] at this
    rcases this.2 with q | q | q | q <;> omega
  rw [treeB_long hs] at h
  injection h with h
  injection h with _ h
  omega
theorem exprB_bad {s : Bs} {i : Nat} {e : Int} (h : exprB s = .error (i, e)) : e ≠ 0 := treeB_bad (rule := pexprAll) (fun _ w => exprAll_tree w) h
theorem fileB_bad {s : Bs} {i : Nat} {e : Int} (h : fileB s = .error (i, e)) : e ≠ 0 := treeB_bad (rule := pfileAll) (fun _ w => fileAll_tree w) h
theorem readB_expr {l : List Nod} (h : kindAt l ((l.length - 1 : Nat) : Int) ≠ 32) (s : Bs) : readB l s = exprB s := if_neg h
theorem readB_file {l : List Nod} (h : kindAt l ((l.length - 1 : Nat) : Int) = 32) (s : Bs) : readB l s = fileB s := if_pos h
theorem alive_right : RightN aliveW := right_of (s := aliveS) (by decide) aliveW_eq
theorem alive_kind : kindAt aliveW ((aliveW.length - 1 : Nat) : Int) ≠ 32 := by decide
theorem alive_keys : aliveV.map keyN = aliveW.map keyN := by decide
theorem alive_text {s : Bs} {e : Int} (h : TextR aliveW s e) : e = 0 ∧ s = aliveT := by
  by_cases he : e = 0
  · exact ⟨he, by rw [(h.ok he).2.1, alive_root]⟩
  exact absurd alive_keys ((h.bad he).2 alive_right aliveV (by rw [alive_root, readB_expr alive_kind]; exact aliveV_eq))
end Go.Sy
namespace Go.Sy
abbrev Hw := @apart_law
abbrev HB := @fileB_bad
abbrev HC := @exprB_bad
end Go.Sy
namespace Go.Sy
open Go Go.Proofs Go.RowKit
theorem ScanG.more {W0 : World} {F F' : List Fact} (g : ScanG W0 F) (h : ∀ x ∈ F, x ∈ F') : ScanG W0 F' := ⟨g.big, h _ g.ops, h _ g.keys⟩
theorem root_kind {l : List Nod} (hr : RightN l) : ∃ h : l.length - 1 < l.length, kindAt l ((l.length - 1 : Nat) : Int) = l[l.length - 1].kind := by
  have := hr.one
  have hl : l.length - 1 < l.length := by omega
  refine ⟨hl, ?_⟩
  unfold kindAt; rw [Int.toNat_natCast, List.getElem?_eq_getElem hl]; rfl
theorem textR_no {l : List Nod} (h : ¬ RightN l) : TextR l [] 1 := ⟨fun e => absurd e (by decide), fun _ => ⟨rfl, fun hr => absurd hr h⟩⟩
theorem textR_bad {l : List Nod} {x : Nat × Int} (h : readB l (rootB l) = .error x) : TextR l [] 1 := ⟨fun e => absurd e (by decide), fun _ => ⟨rfl, fun _ back hb => by rw [h] at hb; cases hb⟩⟩
theorem textR_ne {l back : List Nod} (h : readB l (rootB l) = .ok back) (hk : back.map keyN ≠ l.map keyN) : TextR l [] 1 := ⟨fun e => absurd e (by decide), fun _ => ⟨rfl, fun _ b hb => by rw [h] at hb; injection hb with hb; subst hb; exact hk⟩⟩
theorem textR_ok {l back : List Nod} (hr : RightN l) (h : readB l (rootB l) = .ok back) (hk : back.map keyN = l.map keyN) : TextR l (rootB l) 0 := ⟨fun _ => ⟨hr, rfl, back, h, hk⟩, fun e => absurd rfl e⟩
attribute [local irreducible] AC AT AO AK AH ACalls ACallsX ACallsD Sub Res.cells Res.obj Res.nix Res.own Res.map Exit.then Exit.inBlock Exit.noGoto bodyPost bodyPostD Code.wp Code.wpIn WL Next Post PostX Kont
attribute [local irreducible] exprB fileB rootB readB
section
variable {W0 : World} {L : List Res} {F : List Fact} {R : Value → List Res → List Fact → Prop}
set_option maxRecDepth 100000
set_option maxHeartbeats 4000000
theorem writeText_c (g : ScanG W0 F) (mN : fNo ∈ F) (l : List Nod) (hl : RightN l → ownAll l ≤ 100000000 ∧ (∀ n ∈ l, n.text.length ≤ 1000000) ∧ (rootB l).length ≤ 100000) {a : Option Addr} {k c : Nat} (mL : fNod l a k c ∈ F) (h : ∀ s e, TextR l s e → R (.tuple #[S s, .int .i64 e]) L F) :
    ACalls Tryz.prog W0 7 #[.slice a k c] L F R := by
  refine Gm Tryz.func7 HD Tryz.ntmps7 HD ?_
  refine qs 10 ?_
  refine Gb (Gh HD HD (right_c l memA (fun c11 => ?_) (fun c11 => ?_)))
  ·refine qs 9 ?_
   have hR : RightN l := c11
   obtain ⟨h1, h2, h3⟩ := hl hR
   obtain ⟨hlt, hkd⟩ := root_kind hR
   have hcast : ((l.length : Int) - 1) = ((l.length - 1 : Nat) : Int) := by omega
   refine Gb (Hf HD HD (fun hl14 => ?_) (enc := eNod) (lst := l) (hm := memA))
   refine Gb (AO.sub HD HD HD HF HF ?_)
   rw [hcast]
   refine qs 8 ?_
   refine Gb (Gh HD HD (text_c l hR h1 h2 hlt memA ?_))
   rw [show txtB l (l.length - 1) = rootB l from by unfold rootB; rfl]
   refine qs 13 ?_
   refine Gb (GU (k := l.length - 1) HD HD HD HD (enc := eNod) (lst := l) memA hlt (fun _ _ => ?_))
   refine Gb (AO.fieldAt HD HD (fun _ => ?_))
   refine Gb (Hz HD HD ?_)
   intros
   refine Gb (Gx HD HD HD (fun c25 => ?_) (fun c25 => ?_))
   ·refine qs 12 ?_
    have hrd := readB_file (l := l) (by rw [hkd]; exact c25) (rootB l)
    refine Gb (AO.callC HD HD HD (file_c (g.more (fun x hx => by repeat (first | exact hx | refine List.mem_cons_of_mem _ ?_))) memA (rootB l) h3 (fun back hB a29 k29 c29 => ?_) (fun i e hB => ?_)))
    all_goals rw [← hrd] at hB
    ·refine qs 12 ?_
     refine Gb (Hy HD HD HD (fun c34 => ?_) (fun c34 => ?_))
     ·refine qs 17 ?_
      first | (have hB' := hB; rw [hrd] at hB'; first | exact absurd c34 (HB hB') | exact absurd c34 (HC hB')) | exact GO (L' := L) (F' := F) Tryz.results7 rfl rfl subA (h _ _ (textR_bad hB)) | exact GO (L' := L) (F' := F) Tryz.results7 rfl rfl subA (h _ _ (textR_ne hB c38)) | exact GO (L' := L) (F' := F) Tryz.results7 rfl rfl subA (h _ _ (textR_ok hR hB c38)) | exact absurd rfl c34
     refine qs 3 ?_
     refine Gq HD HD (Gh HD HD (alike_c back l memA memA (fun c38 => ?_) (fun c38 => ?_)))
     ·refine qs 15 ?_
      first | (have hB' := hB; rw [hrd] at hB'; first | exact absurd c34 (HB hB') | exact absurd c34 (HC hB')) | exact GO (L' := L) (F' := F) Tryz.results7 rfl rfl subA (h _ _ (textR_bad hB)) | exact GO (L' := L) (F' := F) Tryz.results7 rfl rfl subA (h _ _ (textR_ne hB c38)) | exact GO (L' := L) (F' := F) Tryz.results7 rfl rfl subA (h _ _ (textR_ok hR hB c38)) | exact absurd rfl c34
     refine qs 13 ?_
     first | (have hB' := hB; rw [hrd] at hB'; first | exact absurd c34 (HB hB') | exact absurd c34 (HC hB')) | exact GO (L' := L) (F' := F) Tryz.results7 rfl rfl subA (h _ _ (textR_bad hB)) | exact GO (L' := L) (F' := F) Tryz.results7 rfl rfl subA (h _ _ (textR_ne hB c38)) | exact GO (L' := L) (F' := F) Tryz.results7 rfl rfl subA (h _ _ (textR_ok hR hB c38)) | exact absurd rfl c34
    refine qs 12 ?_
    refine Gb (Hy HD HD HD (fun c34 => ?_) (fun c34 => ?_))
    ·refine qs 17 ?_
     first | (have hB' := hB; rw [hrd] at hB'; first | exact absurd c34 (HB hB') | exact absurd c34 (HC hB')) | exact GO (L' := L) (F' := F) Tryz.results7 rfl rfl subA (h _ _ (textR_bad hB)) | exact GO (L' := L) (F' := F) Tryz.results7 rfl rfl subA (h _ _ (textR_ne hB c38)) | exact GO (L' := L) (F' := F) Tryz.results7 rfl rfl subA (h _ _ (textR_ok hR hB c38)) | exact absurd rfl c34
    refine qs 3 ?_
    rw [hrd] at hB
    exact (show False from by first | exact HB hB c34 | exact HC hB c34).elim
   refine qs 10 ?_
   have hrd := readB_expr (l := l) (by rw [hkd]; exact c25) (rootB l)
   refine Gb (AO.callC HD HD HD (expr_c (g.more (fun x hx => by repeat (first | exact hx | refine List.mem_cons_of_mem _ ?_))) memA (rootB l) h3 (fun back hB a29 k29 c29 => ?_) (fun i e hB => ?_)))
   all_goals rw [← hrd] at hB
   ·refine qs 12 ?_
    refine Gb (Hy HD HD HD (fun c34 => ?_) (fun c34 => ?_))
    ·refine qs 17 ?_
     first | (have hB' := hB; rw [hrd] at hB'; first | exact absurd c34 (HB hB') | exact absurd c34 (HC hB')) | exact GO (L' := L) (F' := F) Tryz.results7 rfl rfl subA (h _ _ (textR_bad hB)) | exact GO (L' := L) (F' := F) Tryz.results7 rfl rfl subA (h _ _ (textR_ne hB c38)) | exact GO (L' := L) (F' := F) Tryz.results7 rfl rfl subA (h _ _ (textR_ok hR hB c38)) | exact absurd rfl c34
    refine qs 3 ?_
    refine Gq HD HD (Gh HD HD (alike_c back l memA memA (fun c38 => ?_) (fun c38 => ?_)))
    ·refine qs 15 ?_
     first | (have hB' := hB; rw [hrd] at hB'; first | exact absurd c34 (HB hB') | exact absurd c34 (HC hB')) | exact GO (L' := L) (F' := F) Tryz.results7 rfl rfl subA (h _ _ (textR_bad hB)) | exact GO (L' := L) (F' := F) Tryz.results7 rfl rfl subA (h _ _ (textR_ne hB c38)) | exact GO (L' := L) (F' := F) Tryz.results7 rfl rfl subA (h _ _ (textR_ok hR hB c38)) | exact absurd rfl c34
    refine qs 13 ?_
    first | (have hB' := hB; rw [hrd] at hB'; first | exact absurd c34 (HB hB') | exact absurd c34 (HC hB')) | exact GO (L' := L) (F' := F) Tryz.results7 rfl rfl subA (h _ _ (textR_bad hB)) | exact GO (L' := L) (F' := F) Tryz.results7 rfl rfl subA (h _ _ (textR_ne hB c38)) | exact GO (L' := L) (F' := F) Tryz.results7 rfl rfl subA (h _ _ (textR_ok hR hB c38)) | exact absurd rfl c34
   refine qs 12 ?_
   refine Gb (Hy HD HD HD (fun c34 => ?_) (fun c34 => ?_))
   ·refine qs 17 ?_
    first | (have hB' := hB; rw [hrd] at hB'; first | exact absurd c34 (HB hB') | exact absurd c34 (HC hB')) | exact GO (L' := L) (F' := F) Tryz.results7 rfl rfl subA (h _ _ (textR_bad hB)) | exact GO (L' := L) (F' := F) Tryz.results7 rfl rfl subA (h _ _ (textR_ne hB c38)) | exact GO (L' := L) (F' := F) Tryz.results7 rfl rfl subA (h _ _ (textR_ok hR hB c38)) | exact absurd rfl c34
   refine qs 3 ?_
   rw [hrd] at hB
   exact (show False from by first | exact HB hB c34 | exact HC hB c34).elim
  refine qs 12 ?_
  exact GO (L' := L) (F' := F) Tryz.results7 rfl rfl subA (h [] 1 (textR_no c11))
theorem alive_c (g : ScanG W0 F) (mN : fNo ∈ F) (h : R (.bool true) L F) : ACalls Tryz.prog W0 9 #[] L F R := by
  refine Gm Tryz.func9 HD Tryz.ntmps9 HD ?_
  refine qs 7 ?_
  refine Gb (Gh HD HD (expr_c g mN aliveS (by decide) (fun l hl a7 k7 c7 => ?_) (fun i e hl => by rw [aliveW_eq] at hl; cases hl)))
  obtain rfl : aliveW = l := by rw [aliveW_eq] at hl; injection hl
  refine qs 12 ?_
  refine Gb (Gh HD HD (writeText_c (g.more (fun x hx => memS hx)) (memS mN) aliveW (fun _ => ⟨by have := alive_own.1; omega, fun n hn => by have := alive_own.2 n hn; omega, by rw [alive_root]; decide⟩) memA (fun s e hT => ?_)))
  obtain ⟨e1, e2⟩ := alive_text hT
  subst e1 e2
  refine qs 10 ?_
  refine Gb (Gx HD HD HD (fun c17 => ?_) (fun c17 => ?_))
  ·refine qs 2 ?_
   refine Gq HD HD (Gx HD HD HD (fun c20 => ?_) (fun c20 => ?_))
   ·refine qs 3 ?_
    refine Gq HD HD (AO.eqlS HD HD HD (fun c24 => ?_) (fun c24 => ?_))
    ·refine qs 5 ?_
     first | exact Gf (L' := L) (F' := F) Tryz.results9 rfl subF h | exact absurd rfl c17 | exact absurd rfl c20 | exact absurd rfl c24
    refine qs 5 ?_
    first | exact Gf (L' := L) (F' := F) Tryz.results9 rfl subF h | exact absurd rfl c17 | exact absurd rfl c20 | exact absurd rfl c24
   refine qs 9 ?_
   first | exact Gf (L' := L) (F' := F) Tryz.results9 rfl subF h | exact absurd rfl c17 | exact absurd rfl c20 | exact absurd rfl c24
  refine qs 12 ?_
  first | exact Gf (L' := L) (F' := F) Tryz.results9 rfl subF h | exact absurd rfl c17 | exact absurd rfl c20 | exact absurd rfl c24
theorem writeApart_c (g0 : ScanG W0 F) (a b : List Nod) {a1 a2 : Option Addr} {k1 c1 k2 c2 : Nat} (m1 : fNod a a1 k1 c1 ∈ F) (m2 : fNod b a2 k2 c2 ∈ F) (h : R (.bool true) L F) : ACalls Tryz.prog W0 4 #[.slice a1 k1 c1, .slice a2 k2 c2] L F R := by
  obtain ⟨oa, ta⟩ := fewN_own a
  obtain ⟨ob, tb⟩ := fewN_own b
  have hA : RightN (fewN a) → ownAll (fewN a) ≤ 100000000 ∧ (∀ n ∈ fewN a, n.text.length ≤ 1000000) ∧ (rootB (fewN a)).length ≤ 100000 := fun hr => ⟨by omega, fun n hn => by have := ta n hn; omega, by
    have := hr.one
    have := txtB_len hr (i := (fewN a).length - 1) HF
    rw [show rootB (fewN a) = txtB (fewN a) ((fewN a).length - 1) from by unfold rootB; rfl]
    omega⟩
  have hB : RightN (fewN b) → ownAll (fewN b) ≤ 100000000 ∧ (∀ n ∈ fewN b, n.text.length ≤ 1000000) ∧ (rootB (fewN b)).length ≤ 100000 := fun hr => ⟨by omega, fun n hn => by have := tb n hn; omega, by
    have := hr.one
    have := txtB_len hr (i := (fewN b).length - 1) HF
    rw [show rootB (fewN b) = txtB (fewN b) ((fewN b).length - 1) from by unfold rootB; rfl]
    omega⟩
  have g : ScanG W0 (fNo :: F) := g0.more (fun x hx => memS hx)
  have mN : fNo ∈ fNo :: F := mem0
  refine Gm Tryz.func4 HD Tryz.ntmps4 HD ?_
  refine qs 7 ?_
  refine Gb (AO.move HD HD ?_)
  refine GM (Sub.nilF (sz := 1)) ?_
  refine Gb (Gh HD HD (few_c a memA (fun a10 k10 c10 => ?_)))
  refine qs 1 ?_
  refine Gb (Gh HD HD (few_c b memA (fun a12 k12 c12 => ?_)))
  have g' : ScanG W0 (fNod (fewN b) a12 k12 c12 :: fNod (fewN a) a10 k10 c10 :: fNo :: F) := g.more (fun x hx => memS (memS hx))
  have mN' : fNo ∈ fNod (fewN b) a12 k12 c12 :: fNod (fewN a) a10 k10 c10 :: fNo :: F := memS (memS mN)
  refine qs 7 ?_
  refine Gb (Gh HD HD (writeText_c g' mN' (fewN a) hA memA (fun s e hs => ?_)))
  refine qs 10 ?_
  refine Gb (Gh HD HD (writeText_c g' mN' (fewN b) hB memA (fun t f ht => ?_)))
  refine qs 11 ?_
  refine Gb (Hy HD HD HD (fun c24 => ?_) (fun c24 => ?_))
  ·refine qs 9 ?_
   refine Gb (Gh HD HD (alive_c g' mN' ?_))
   refine qs 5 ?_
   first | exact Gf (L' := L) (F' := F) Tryz.results4 rfl subF h | (subst c24; subst c27; exact absurd ((Hw hs ht).1 c34) c37) | (subst c24; subst c27; exact absurd ((Hw hs ht).2 c37) c34)
  refine qs 2 ?_
  refine Gq HD HD (Hy HD HD HD (fun c27 => ?_) (fun c27 => ?_))
  ·refine qs 6 ?_
   refine Gb (Gh HD HD (alive_c g' mN' ?_))
   refine qs 5 ?_
   first | exact Gf (L' := L) (F' := F) Tryz.results4 rfl subF h | (subst c24; subst c27; exact absurd ((Hw hs ht).1 c34) c37) | (subst c24; subst c27; exact absurd ((Hw hs ht).2 c37) c34)
  refine qs 8 ?_
  refine Gb (Gh HD HD (alive_c g' mN' ?_))
  refine qs 3 ?_
  refine Gq HD HD (AO.eqlS HD HD HD (fun c34 => ?_) (fun c34 => ?_))
  ·refine qs 2 ?_
   refine Gq HD HD (Gh HD HD (like2_c (fewN a) (fewN b) memA memA (fun c37 => ?_) (fun c37 => ?_)))
   ·refine Gq HD HD (AO.eqlB HD HD HD ?_)
    refine qs 5 ?_
    first | exact Gf (L' := L) (F' := F) Tryz.results4 rfl subF h | (subst c24; subst c27; exact absurd ((Hw hs ht).1 c34) c37) | (subst c24; subst c27; exact absurd ((Hw hs ht).2 c37) c34)
   refine Gq HD HD (AO.eqlB HD HD HD ?_)
   refine qs 5 ?_
   first | exact Gf (L' := L) (F' := F) Tryz.results4 rfl subF h | (subst c24; subst c27; exact absurd ((Hw hs ht).1 c34) c37) | (subst c24; subst c27; exact absurd ((Hw hs ht).2 c37) c34)
  refine qs 2 ?_
  refine Gq HD HD (Gh HD HD (like2_c (fewN a) (fewN b) memA memA (fun c37 => ?_) (fun c37 => ?_)))
  ·refine Gq HD HD (AO.eqlB HD HD HD ?_)
   refine qs 5 ?_
   first | exact Gf (L' := L) (F' := F) Tryz.results4 rfl subF h | (subst c24; subst c27; exact absurd ((Hw hs ht).1 c34) c37) | (subst c24; subst c27; exact absurd ((Hw hs ht).2 c37) c34)
  refine Gq HD HD (AO.eqlB HD HD HD ?_)
  refine qs 5 ?_
  first | exact Gf (L' := L) (F' := F) Tryz.results4 rfl subF h | (subst c24; subst c27; exact absurd ((Hw hs ht).1 c34) c37) | (subst c24; subst c27; exact absurd ((Hw hs ht).2 c37) c34)
end
end Go.Sy
