/- Joined of my own texts: UnE, UnF, UnG, UnS, SeP, SeQ, TbB, TsP, TbC, UnV, SeA, SeB, SeC, FwAA, TsA, TsB, SeD, SeE. -/
import Derived.Test.YtinolpaapcpijaaGreatDoorW16
import Derived.Laws.StructEq
namespace Go.Sy
open Go Go.Proofs Go.RowKit
attribute [local irreducible] AC AT AO AK AH ACalls Sub Res.cells Res.obj Res.nix Res.own Res.map Exit.then Exit.inBlock bodyPost Code.wp Code.wpIn WL Next Post Kont
section
variable {W0 : World} {L : List Res} {F : List Fact} {R : Value → List Res → List Fact → Prop}
set_option maxRecDepth 100000
set_option maxHeartbeats 16000000
theorem rmethods_c (l m : List Mth) {a1 a2 : Option Addr} {k1 c1 k2 c2 : Nat} (m1 : fMs l a1 k1 c1 ∈ F) (m2 : fMs m a2 k2 c2 ∈ F) (hT : l = m → R (.bool true) L F) (hF : l ≠ m → R (.bool false) L F) :
    ACalls Tryz.prog W0 56 #[.slice a1 k1 c1, .slice a2 k2 c2] L F R := by
  refine Ge Tryz.func56 HU Tryz.ntmps56 HU ?_
  refine qs 9 ?_
  refine Ga (Gv HU HU (fun hl1 => ?_) (enc := eMt) (lst := l) (hm := m1))
  refine qs 1 ?_
  refine Ga (Gv HU HU (fun hl2 => ?_) (enc := eMt) (lst := m) (hm := m2))
  refine Ga (GK HU HU HU (fun c10 => ?_) (fun c10 => ?_))
  ·refine qs 10 ?_
   first | refine Gb Tryz.results56 HU subA (hT ?_) | refine Gb Tryz.results56 HU subA (hF ?_)
   first
   | exact GW hkl hkm (fun e => c26 (by rw [e]))
   | exact GW hkl hkm (fun e => c51 (by rw [e]))
   | exact GW hkl hkm (fun e => by rw [e] at c38; simp at c38)
   | exact fun e => c10 (by rw [e])
   | exact Hm hok HW HW
  refine qs 9 ?_
  refine Ga (Gv HU HU (fun hl3 => ?_) (enc := eMt) (lst := l) (hm := m1))
  refine qs 4 ?_
  refine GN (fun k => k ≤ l.length ∧ l.take k = m.take k) (fun k => [(0, .slice a1 k1 c1), (1, .slice a2 k2 c2), (12, .int .i64 l.length), (13, .int .i64 (k : Int))]) (fun _ => L) (fun _ => F) (fun k => l.length - k) 0 ⟨by omega, by simp⟩ srA (Gk _ _) ?_
  rintro k ⟨hk, hok⟩
  refine qs 2 ?_
  refine Ga (GB HU HU HU (fun c14 => ?_) (fun c14 => ?_))
  ·refine qs 15 ?_
   refine GO (fun _ => false) [] bxA HU (fun hx hX => ?_)
   have hkl : k < l.length := by omega
   have hkm : k < m.length := by omega
   have hkk1 := (Gy (hX _ m1)).1
   have hkk3 := (Gy (hX _ m2)).1
   obtain ⟨p1, o1, rfl, at1⟩ := GG (hX _ m1) hkl
   obtain ⟨p2, o2, rfl, at2⟩ := GG (hX _ m2) hkm
   have hv1 := mt_cells at1
   have hv2 := mt_cells at2
   have h10 := hv1 0 _ rfl
   have h11 := hv1 1 _ rfl
   have h12 := hv1 2 _ rfl
   have h20 := hv2 0 _ rfl
   have h21 := hv2 1 _ rfl
   have h22 := hv2 2 _ rfl
   refine qt [0, 1, 2, 3, 4, 5, 6, 7, 8, 9] ?_
   refine He (i := 10) HU (Y.neqS HU HU) HV HU HU (fun c26 => ?_) (fun c26 => ?_)
   ·replace c26 := ne_of_nbeq c26
    refine qt [11, 12, 13, 14, 15, 16, 17, 18, 19, 20, 21, 22, 23, 24, 25, 26, 27, 28, 29, 30, 31, 32, 33, 34, 35, 36] ?_
    refine Gm HV ?_
    refine qs 13 ?_
    first | refine Gb Tryz.results56 HU subA (hT ?_) | refine Gb Tryz.results56 HU subA (hF ?_)
    first
    | exact GW hkl hkm (fun e => c26 (by rw [e]))
    | exact GW hkl hkm (fun e => c51 (by rw [e]))
    | exact GW hkl hkm (fun e => by rw [e] at c38; simp at c38)
    | exact fun e => c10 (by rw [e])
    | exact Hm hok HW HW
   replace c26 := eq_of_nbeqF c26
   refine qt [11, 12, 13, 14, 15, 16, 17, 18, 19, 20, 21] ?_
   refine He (i := 22) HU (Y.neqB HU HU) HV HU HU (fun c38 => ?_) (fun c38 => ?_)
   ·refine qt [23, 24, 25, 26, 27, 28, 29, 30, 31, 32, 33, 34, 35, 36] ?_
    refine Gm HV ?_
    refine qs 13 ?_
    first | refine Gb Tryz.results56 HU subA (hT ?_) | refine Gb Tryz.results56 HU subA (hF ?_)
    first
    | exact GW hkl hkm (fun e => c26 (by rw [e]))
    | exact GW hkl hkm (fun e => c51 (by rw [e]))
    | exact GW hkl hkm (fun e => by rw [e] at c38; simp at c38)
    | exact fun e => c10 (by rw [e])
    | exact Hm hok HW HW
   refine qt [23, 24, 25, 26, 27, 28, 29, 30, 31, 32, 33, 34] ?_
   refine He (i := 35) HU (Y.neq HU HU) HV HU HU (fun c51 => ?_) (fun c51 => ?_)
   ·replace c51 := ne_of_bne c51
    refine qt [36] ?_
    refine Gm HV ?_
    refine qs 13 ?_
    first | refine Gb Tryz.results56 HU subA (hT ?_) | refine Gb Tryz.results56 HU subA (hF ?_)
    first
    | exact GW hkl hkm (fun e => c26 (by rw [e]))
    | exact GW hkl hkm (fun e => c51 (by rw [e]))
    | exact GW hkl hkm (fun e => by rw [e] at c38; simp at c38)
    | exact fun e => c10 (by rw [e])
    | exact Hm hok HW HW
   replace c51 := eq_of_bneF c51
   refine qt [36] ?_
   refine Gm HV ?_
   refine qs 9 ?_
   refine Gl (k + 1) ⟨by omega, take_step hok hkl hkm (mt_ext c26 (by simpa using c38) c51)⟩ HW srA subF
  refine qs 15 ?_
  first | refine Gb Tryz.results56 HU subA (hT ?_) | refine Gb Tryz.results56 HU subA (hF ?_)
  first
  | exact GW hkl hkm (fun e => c26 (by rw [e]))
  | exact GW hkl hkm (fun e => c51 (by rw [e]))
  | exact GW hkl hkm (fun e => by rw [e] at c38; simp at c38)
  | exact fun e => c10 (by rw [e])
  | exact Hm hok HW HW
theorem rulike_c (T U : List Ty) (N M : List Nmd) {a a2 a3 a4 : Option Addr} {k c k2 c2 k3 c3 k4 c4 : Nat} (m1 : fL T a k c ∈ F) (m2 : fN N a2 k2 c2 ∈ F) (m3 : fL U a3 k3 c3 ∈ F) (m4 : fN M a4 k4 c4 ∈ F) (hT : T = U → N = M → R (.bool true) L F) (hF : ¬(T = U ∧ N = M) → R (.bool false) L F) :
    ACalls Tryz.prog W0 16 #[.agg #[.slice a k c, .slice a2 k2 c2], .agg #[.slice a3 k3 c3, .slice a4 k4 c4]] L F R := by
  refine Ge Tryz.func16 HU Tryz.ntmps16 HU ?_
  refine qs 2 ?_
  refine Ga (GJ HU HU (fun b2 => (Ga (GJ HU HU (fun b3 => ?_)))))
  refine qs 10 ?_
  refine Ga (Gd HU HU (ref_Arenas_c T U (fun c13 => ?_) (fun c13 => ?_) m1 m3))
  ·refine qs 4 ?_
   refine Gh HU HU (Gv HU HU (fun hl18 => ?_) (enc := eNm) (lst := N) (hm := m2))
   refine qs 2 ?_
   refine Gh HU HU (Gv HU HU (fun hl21 => ?_) (enc := eNm) (lst := M) (hm := m4))
   refine Gh HU HU (GK HU HU HU (fun c22 => ?_) (fun c22 => ?_))
   ·refine qs 11 ?_
    first | refine Gb (L' := L) (F' := F) Tryz.results16 HU subA (hT ?_ ?_) | refine Gb (L' := L) (F' := F) Tryz.results16 HU subA (hF ?_)
    first
    | (exact c13; exact Hm hok HW HW)
    | exact fun e => c13 e.1
    | exact fun e => c22 (by rw [e.2])
    | exact fun e => GW hqn hqm (fun x => c44 (by rw [x])) e.2
    | exact fun e => GW hqn hqm (fun x => c50 (by rw [x])) e.2
    | exact fun e => GW hqn hqm (fun x => c59 (by rw [x])) e.2
    | exact fun e => GW hqn hqm (fun x => c66 (by rw [x])) e.2
    | exact fun e => GW hqn hqm (fun x => GW hkl hkm c85 (by rw [x])) e.2
   refine qs 11 ?_
   refine Ga (Gv HU HU (fun hl26 => ?_) (enc := eNm) (lst := N) (hm := m2))
   refine qs 4 ?_
   refine GN (fun q => q ≤ N.length ∧ N.take q = M.take q) (fun q => [(2, .pointer (some ⟨b2, 0, none⟩)), (3, .pointer (some ⟨b3, 0, none⟩)), (26, .int .i64 N.length), (27, .int .i64 (q : Int))]) (fun _ => _) (fun _ => F) (fun q => N.length - q) 0 ⟨Nat.zero_le _, by simp⟩ srA (Gk _ _) ?_
   rintro q ⟨hq, hok⟩
   refine qs 2 ?_
   refine Ga (GB HU HU HU (fun c28 => ?_) (fun c28 => ?_))
   ·refine qs 19 ?_
    have hqn : q < N.length := by omega
    have hqm : q < M.length := by omega
    refine Ga (Gj HU HU HU HU (enc := eNm) (lst := N) memA hqn (fun _ _ => ?_))
    refine Ga (GU HU HU ?_)
    intro a34 k34 z34 d34 e34 f34
    refine Ga (Gq HU (fun b6 => ?_))
    refine qs 8 ?_
    refine Ga (Gj HU HU HU HU (enc := eNm) (lst := M) memA hqm (fun _ _ => ?_))
    refine Ga (GU HU HU ?_)
    intro a39 k39 z39 d39 e39 f39
    refine Ga (Gq HU (fun b7 => ?_))
    refine qs 10 ?_
    refine Ga (AO.neqS HU HU HU (fun c44 => ?_) (fun c44 => ?_))
    ·refine qs 39 ?_
     first | refine Gb (L' := L) (F' := F) Tryz.results16 HU subA (hT ?_ ?_) | refine Gb (L' := L) (F' := F) Tryz.results16 HU subA (hF ?_)
     first
     | (exact c13; exact Hm hok HW HW)
     | exact fun e => c13 e.1
     | exact fun e => c22 (by rw [e.2])
     | exact fun e => GW hqn hqm (fun x => c44 (by rw [x])) e.2
     | exact fun e => GW hqn hqm (fun x => c50 (by rw [x])) e.2
     | exact fun e => GW hqn hqm (fun x => c59 (by rw [x])) e.2
     | exact fun e => GW hqn hqm (fun x => c66 (by rw [x])) e.2
     | exact fun e => GW hqn hqm (fun x => GW hkl hkm c85 (by rw [x])) e.2
    refine qs 5 ?_
    refine Gh HU HU (GK HU HU HU (fun c50 => ?_) (fun c50 => ?_))
    ·refine qs 33 ?_
     first | refine Gb (L' := L) (F' := F) Tryz.results16 HU subA (hT ?_ ?_) | refine Gb (L' := L) (F' := F) Tryz.results16 HU subA (hF ?_)
     first
     | (exact c13; exact Hm hok HW HW)
     | exact fun e => c13 e.1
     | exact fun e => c22 (by rw [e.2])
     | exact fun e => GW hqn hqm (fun x => c44 (by rw [x])) e.2
     | exact fun e => GW hqn hqm (fun x => c50 (by rw [x])) e.2
     | exact fun e => GW hqn hqm (fun x => c59 (by rw [x])) e.2
     | exact fun e => GW hqn hqm (fun x => c66 (by rw [x])) e.2
     | exact fun e => GW hqn hqm (fun x => GW hkl hkm c85 (by rw [x])) e.2
    refine qs 4 ?_
    refine Gh HU HU (Gv HU HU (fun hl55 => ?_) (enc := eI) (lst := N[q].bounds) (hm := memA))
    refine qs 2 ?_
    refine Gh HU HU (Gv HU HU (fun hl58 => ?_) (enc := eI) (lst := M[q].bounds) (hm := memA))
    refine Gh HU HU (GK HU HU HU (fun c59 => ?_) (fun c59 => ?_))
    ·refine qs 24 ?_
     first | refine Gb (L' := L) (F' := F) Tryz.results16 HU subA (hT ?_ ?_) | refine Gb (L' := L) (F' := F) Tryz.results16 HU subA (hF ?_)
     first
     | (exact c13; exact Hm hok HW HW)
     | exact fun e => c13 e.1
     | exact fun e => c22 (by rw [e.2])
     | exact fun e => GW hqn hqm (fun x => c44 (by rw [x])) e.2
     | exact fun e => GW hqn hqm (fun x => c50 (by rw [x])) e.2
     | exact fun e => GW hqn hqm (fun x => c59 (by rw [x])) e.2
     | exact fun e => GW hqn hqm (fun x => c66 (by rw [x])) e.2
     | exact fun e => GW hqn hqm (fun x => GW hkl hkm c85 (by rw [x])) e.2
    refine qs 6 ?_
    refine Gh HU HU (Gd HU HU (rmethods_c N[q].methods M[q].methods memA memA (fun c66 => ?_) (fun c66 => ?_)))
    ·refine qs 11 ?_
     refine Ga (Gv HU HU (fun hl71 => ?_) (enc := eI) (lst := N[q].bounds) (hm := memA))
     refine qs 4 ?_
     refine GN (fun v => v ≤ N[q].bounds.length ∧ N[q].bounds.take v = M[q].bounds.take v) (fun v => [(2, .pointer (some ⟨b2, 0, none⟩)), (3, .pointer (some ⟨b3, 0, none⟩)), (6, .pointer (some ⟨b6, 0, none⟩)), (7, .pointer (some ⟨b7, 0, none⟩)), (26, .int .i64 N.length), (27, .int .i64 (q : Int)), (71, .int .i64 N[q].bounds.length), (72, .int .i64 (v : Int))]) (fun _ => _) (fun _ => _) (fun v => N[q].bounds.length - v) 0 ⟨Nat.zero_le _, by simp⟩ srA (Gk _ _) ?_
     rintro v ⟨hv, hov⟩
     refine qs 2 ?_
     refine Ga (GB HU HU HU (fun c73 => ?_) (fun c73 => ?_))
     ·refine qs 15 ?_
      refine GO (fun _ => false) [(b6, _, _), (b7, _, _)] bxA HU (fun hx hX => ?_)
      have hkl : v < N[q].bounds.length := by omega
      have hkm : v < M[q].bounds.length := by omega
      have hkk1 := (Gy (hX (fBd N[q] a34 k34 z34) memA)).1
      have hkk3 := (Gy (hX (fBd M[q] a39 k39 z39) memA)).1
      obtain ⟨p1, o1, rfl, at1⟩ := GG (hX (fBd N[q] a34 k34 z34) memA) hkl
      obtain ⟨p2, o2, rfl, at2⟩ := GG (hX (fBd M[q] a39 k39 z39) memA) hkm
      obtain ⟨v1, hv1, hc1⟩ := at1 0 _ rfl
      obtain ⟨v2, hv2, hc2⟩ := at2 0 _ rfl
      cases hc1
      cases hc2
      refine qt [0, 1, 2, 3, 4, 5, 6, 7, 8, 9] ?_
      refine He (i := 10) HU (Y.neq HU HU) HV HU HU (fun c85 => ?_) (fun c85 => ?_)
      ·replace c85 := ne_of_bne c85
       refine Gm HV ?_
       refine qs 17 ?_
       first | refine Gb (L' := L) (F' := F) Tryz.results16 HU subA (hT ?_ ?_) | refine Gb (L' := L) (F' := F) Tryz.results16 HU subA (hF ?_)
       first
       | (exact c13; exact Hm hok HW HW)
       | exact fun e => c13 e.1
       | exact fun e => c22 (by rw [e.2])
       | exact fun e => GW hqn hqm (fun x => c44 (by rw [x])) e.2
       | exact fun e => GW hqn hqm (fun x => c50 (by rw [x])) e.2
       | exact fun e => GW hqn hqm (fun x => c59 (by rw [x])) e.2
       | exact fun e => GW hqn hqm (fun x => c66 (by rw [x])) e.2
       | exact fun e => GW hqn hqm (fun x => GW hkl hkm c85 (by rw [x])) e.2
      replace c85 := eq_of_bneF c85
      refine Gm HV ?_
      refine qs 9 ?_
      refine Gl (v + 1) ⟨by omega, take_step hov hkl hkm c85⟩ HW srA subF
     refine qs 14 ?_
     refine Gl (q + 1) ⟨by omega, take_step hok hqn hqm (nm_ext c44 (Hm hov HW HW) c50 c66)⟩ HW srA (Sub.drop.trans (Sub.drop.trans subF))
    refine qs 17 ?_
    first | refine Gb (L' := L) (F' := F) Tryz.results16 HU subA (hT ?_ ?_) | refine Gb (L' := L) (F' := F) Tryz.results16 HU subA (hF ?_)
    first
    | (exact c13; exact Hm hok HW HW)
    | exact fun e => c13 e.1
    | exact fun e => c22 (by rw [e.2])
    | exact fun e => GW hqn hqm (fun x => c44 (by rw [x])) e.2
    | exact fun e => GW hqn hqm (fun x => c50 (by rw [x])) e.2
    | exact fun e => GW hqn hqm (fun x => c59 (by rw [x])) e.2
    | exact fun e => GW hqn hqm (fun x => c66 (by rw [x])) e.2
    | exact fun e => GW hqn hqm (fun x => GW hkl hkm c85 (by rw [x])) e.2
   refine qs 15 ?_
   first | refine Gb (L' := L) (F' := F) Tryz.results16 HU subA (hT ?_ ?_) | refine Gb (L' := L) (F' := F) Tryz.results16 HU subA (hF ?_)
   first
   | (exact c13; exact Hm hok HW HW)
   | exact fun e => c13 e.1
   | exact fun e => c22 (by rw [e.2])
   | exact fun e => GW hqn hqm (fun x => c44 (by rw [x])) e.2
   | exact fun e => GW hqn hqm (fun x => c50 (by rw [x])) e.2
   | exact fun e => GW hqn hqm (fun x => c59 (by rw [x])) e.2
   | exact fun e => GW hqn hqm (fun x => c66 (by rw [x])) e.2
   | exact fun e => GW hqn hqm (fun x => GW hkl hkm c85 (by rw [x])) e.2
  refine qs 20 ?_
  first | refine Gb (L' := L) (F' := F) Tryz.results16 HU subA (hT ?_ ?_) | refine Gb (L' := L) (F' := F) Tryz.results16 HU subA (hF ?_)
  first
  | (exact c13; exact Hm hok HW HW)
  | exact fun e => c13 e.1
  | exact fun e => c22 (by rw [e.2])
  | exact fun e => GW hqn hqm (fun x => c44 (by rw [x])) e.2
  | exact fun e => GW hqn hqm (fun x => c50 (by rw [x])) e.2
  | exact fun e => GW hqn hqm (fun x => c59 (by rw [x])) e.2
  | exact fun e => GW hqn hqm (fun x => c66 (by rw [x])) e.2
  | exact fun e => GW hqn hqm (fun x => GW hkl hkm c85 (by rw [x])) e.2
end
end Go.Sy
namespace Go.Sy
open Go Go.Proofs Go.RowKit
def oneN (n : Nmd) : Nmd := ⟨n.name.take (min n.name.length 50), n.bounds.take (min n.bounds.length 18), n.under, n.methods.take (min n.methods.length 18)⟩
def fewN (N : List Nmd) (most : Nat) : List Nmd := (N.take (min N.length most)).map oneN
structure NmUp (n : Nmd) : Prop where
  under : -9223372036854775808 ≤ n.under ∧ n.under ≤ 9223372036854775807
  bound : ∀ b ∈ n.bounds, -9223372036854775808 ≤ b ∧ b ≤ 9223372036854775807
  sig : ∀ m ∈ n.methods, -9223372036854775808 ≤ m.sig ∧ m.sig ≤ 9223372036854775807
  meth : ∀ m ∈ n.methods, m.name.length ≤ 1048576
theorem oneN_ok {n : Nmd} (h : NmUp n) : NmOk (oneN n) := by
  refine ⟨by simp [oneN]; omega, fun m hm => h.meth m (List.mem_of_mem_take hm)⟩
theorem fewN_ok {N : List Nmd} {m : Nat} (h : ∀ n ∈ N, NmUp n) : ∀ n ∈ fewN N m, NmOk n := by
  intro t ht
  unfold fewN at ht
  obtain ⟨x, hx, rfl⟩ := List.mem_map.1 ht
  exact oneN_ok (h x (List.mem_of_mem_take hx))
theorem fewN_step {N : List Nmd} {q : Nat} (hq : q < N.length) : (N.take q).map oneN ++ [oneN N[q]] = (N.take (q + 1)).map oneN := by
  rw [List.take_succ_eq_append_getElem hq, List.map_append]; rfl
attribute [local irreducible] AC AT AO AK AH ACalls Sub Res.cells Res.obj Res.nix Res.own Res.map Exit.then Exit.inBlock bodyPost Code.wp Code.wpIn WL Next Post Kont
section
variable {W0 : World} {L : List Res} {F : List Fact} {R : Value → List Res → List Fact → Prop}
set_option maxRecDepth 100000
set_option maxHeartbeats 16000000
end
end Go.Sy
namespace Go.Sy
open Go Go.Proofs Go.RowKit
theorem at_und {T : List Ty} {N : List Nmd} (h : rightU T N) {j : Nat} (hj : j < N.length) : ∃ u : Nat, N[j].under = (u : Int) ∧ u < T.length := by
  obtain ⟨h1, h2, _⟩ := (h.2.2.1 j hj).1.2.2.1.1
  exact ⟨N[j].under.toNat, by omega, by omega⟩
attribute [local irreducible] AC AT AO AK AH ACalls Sub Res.cells Res.obj Res.nix Res.own Res.map Exit.then Exit.inBlock bodyPost Code.wp Code.wpIn WL Next Post Kont
section
variable {W0 : World} {L : List Res} {F : List Fact} {R : Value → List Res → List Fact → Prop}
set_option maxRecDepth 100000
set_option maxHeartbeats 16000000
theorem uthere_c (g : Glob W0) (T : List Ty) (N : List Nmd) (hok : ∀ t ∈ T, TyOk t) (hno : ∀ n ∈ N, NmOk n) (i : Int) {a a2 : Option Addr} {k c k2 c2 : Nat} (mL : fL T a k c ∈ F) (mN : fN N a2 k2 c2 ∈ F)
    (h1 : ∀ e, (¬ rightU T N ∧ e = 1) ∨ (rightU T N ∧ ¬(0 ≤ i ∧ i < T.length) ∧ e = 8) → R (.int .i64 e) L F) (h3 : rightU T N → 0 ≤ i ∧ i < T.length → R (.int .i64 0) L F) : ACalls Tryz.prog W0 53 #[.agg #[.slice a k c, .slice a2 k2 c2], .int .i64 i] L F R := by
  refine Ge Tryz.func53 HU Tryz.ntmps53 HU ?_
  refine qs 2 ?_
  refine Ga (GJ HU HU (fun b2 => ?_))
  refine qs 8 ?_
  refine Ga (Gd HU HU (uright_c g T N hok hno mL mN (fun c7 => ?_) (fun c7 => ?_)))
  ·refine qs 8 ?_
   refine Ga (GB HU HU HU (fun c11 => ?_) (fun c11 => ?_))
   ·refine qs 19 ?_
    first | exact Gb (L' := L) (F' := F) Tryz.results53 rfl subA (h1 1 (.inl ⟨c7, rfl⟩)) | exact Gb (L' := L) (F' := F) Tryz.results53 rfl subA (h1 8 (.inr ⟨c7, by omega, rfl⟩)) | exact Gb (L' := L) (F' := F) Tryz.results53 rfl subA (h3 c7 HW)
   refine qs 4 ?_
   refine Gh HU HU (Gv HU HU (fun hl16 => ?_) (enc := eTy) (lst := T) (hm := memA))
   refine Gh HU HU (Hh HU HU HU (fun c17 => ?_) (fun c17 => ?_))
   ·refine qs 13 ?_
    first | exact Gb (L' := L) (F' := F) Tryz.results53 rfl subA (h1 1 (.inl ⟨c7, rfl⟩)) | exact Gb (L' := L) (F' := F) Tryz.results53 rfl subA (h1 8 (.inr ⟨c7, by omega, rfl⟩)) | exact Gb (L' := L) (F' := F) Tryz.results53 rfl subA (h3 c7 HW)
   refine qs 14 ?_
   first | exact Gb (L' := L) (F' := F) Tryz.results53 rfl subA (h1 1 (.inl ⟨c7, rfl⟩)) | exact Gb (L' := L) (F' := F) Tryz.results53 rfl subA (h1 8 (.inr ⟨c7, by omega, rfl⟩)) | exact Gb (L' := L) (F' := F) Tryz.results53 rfl subA (h3 c7 HW)
  refine qs 13 ?_
  first | exact Gb (L' := L) (F' := F) Tryz.results53 rfl subA (h1 1 (.inl ⟨c7, rfl⟩)) | exact Gb (L' := L) (F' := F) Tryz.results53 rfl subA (h1 8 (.inr ⟨c7, by omega, rfl⟩)) | exact Gb (L' := L) (F' := F) Tryz.results53 rfl subA (h3 c7 HW)
theorem uwith_c (g : Glob W0) (l : List Ty) (hok : ∀ t ∈ l, TyOk t) (hr : rightP l) (n : Nat) (hn : n < l.length) (args : List Int) (hargs : args.length ≤ 1000) {a a2 a3 : Option Addr} {k c k2 c2 k3 c3 : Nat} (mL : fL l a k c ∈ F) (mA : fI args a3 k3 c3 ∈ F) (mN : Fact.slc (.slice none 0 0) 5 [] ∈ F)
    (h3 : ∀ e, e ≠ 0 → subR l n args = .error e → R (.tuple #[.agg #[.slice none 0 0, .slice none 0 0], .int .i64 0, .int .i64 e]) L F)
    (h4 : ∀ o q a k c, subR l n args = .ok (o, q) → R (.tuple #[.agg #[.slice a k c, .slice a2 k2 c2], .int .i64 q, .int .i64 0]) L (fL o a k c :: F)) :
    ACalls Tryz.prog W0 55 #[.agg #[.slice a k c, .slice a2 k2 c2], .int .i64 (n : Int), .slice a3 k3 c3] L F R := by
  refine Ge Tryz.func55 HU Tryz.ntmps55 HU ?_
  refine qs 2 ?_
  refine Ga (GJ HU HU (fun b3 => (Ga (Gq HU (fun b6 => ?_)))))
  refine qs 10 ?_
  refine Ga (Gd HU HU (substIn_c g l hok hr n hn args hargs mL mA mN (fun e he => ?_) (fun o q a17 k17 c17 hq => ?_)))
  ·refine qs 13 ?_
   refine Ga (GK HU HU HU (fun c22 => ?_) (fun c22 => absurd c22 (subR_err he)))
   refine qs 5 ?_
   refine Ga (GI HU HU HU ?_)
   refine qs 8 ?_
   first
   | exact GS (rs := [.cell 6 _, .tmp 7, .tmp 8]) (L' := L) (F' := F) Tryz.results55 (.agg (j := 0) rfl rfl rfl (.tmp rfl (.tmp rfl .nil))) subA (h3 e (subR_err he) he)
   | exact GS (rs := [.cell 6 _, .tmp 7, .tmp 8]) (L' := L) (F' := fL o a17 k17 c17 :: F) Tryz.results55 (.agg (j := 0) rfl rfl rfl (.tmp rfl (.tmp rfl .nil))) (Sub.drop.trans Gn) (h4 o q a17 k17 c17 hq)
  refine qs 13 ?_
  refine Ga (GK HU HU HU (fun c22 => absurd HU c22) (fun _ => ?_))
  refine qs 22 ?_
  first
  | exact GS (rs := [.cell 6 _, .tmp 7, .tmp 8]) (L' := L) (F' := F) Tryz.results55 (.agg (j := 0) rfl rfl rfl (.tmp rfl (.tmp rfl .nil))) subA (h3 e (subR_err he) he)
  | exact GS (rs := [.cell 6 _, .tmp 7, .tmp 8]) (L' := L) (F' := fL o a17 k17 c17 :: F) Tryz.results55 (.agg (j := 0) rfl rfl rfl (.tmp rfl (.tmp rfl .nil))) (Sub.drop.trans Gn) (h4 o q a17 k17 c17 hq)
theorem uunder_c (g : Glob W0) (T : List Ty) (N : List Nmd) (hok : ∀ t ∈ T, TyOk t) (hno : ∀ n ∈ N, NmOk n) (i : Int) {a a2 : Option Addr} {k c k2 c2 : Nat} (mL : fL T a k c ∈ F) (mN : fN N a2 k2 c2 ∈ F) (mE : Fact.slc (.slice none 0 0) 5 [] ∈ F)
    (h1 : ¬ rightU T N → R (.tuple #[.agg #[.slice none 0 0, .slice none 0 0], .int .i64 0, .int .i64 1]) L F)
    (h2 : rightU T N → ¬(0 ≤ i ∧ i < T.length) → R (.tuple #[.agg #[.slice none 0 0, .slice none 0 0], .int .i64 0, .int .i64 8]) L F)
    (h3 : rightU T N → ∀ n : Nat, i = n → ∀ hn : n < T.length, T[n].kind ≠ 8 → R (.tuple #[.agg #[.slice a k c, .slice a2 k2 c2], .int .i64 i, .int .i64 0]) L (fL T a k c :: F))
    (h4 : rightU T N → ∀ n : Nat, i = n → ∀ hn : n < T.length, T[n].kind = 8 → ∀ j (hj : j < N.length), atN N T[n].name = some j → ∀ u : Nat, N[j].under = u → u < T.length → ∀ e, e ≠ 0 → subR T u T[n].kids = .error e → R (.tuple #[.agg #[.slice none 0 0, .slice none 0 0], .int .i64 0, .int .i64 e]) L F)
    (h5 : rightU T N → ∀ n : Nat, i = n → ∀ hn : n < T.length, T[n].kind = 8 → ∀ j (hj : j < N.length), atN N T[n].name = some j → ∀ u : Nat, N[j].under = u → u < T.length → ∀ o q a k c, subR T u T[n].kids = .ok (o, q) → R (.tuple #[.agg #[.slice a k c, .slice a2 k2 c2], .int .i64 q, .int .i64 0]) L (fL o a k c :: F)) :
    ACalls Tryz.prog W0 15 #[.agg #[.slice a k c, .slice a2 k2 c2], .int .i64 i] L F R := by
  refine Ge Tryz.func15 HU Tryz.ntmps15 HU ?_
  refine qs 2 ?_
  refine Ga (GJ HU HU (fun b2 => (Ga (Gq HU (fun b4 => ?_)))))
  refine qs 9 ?_
  refine Ga (Gd HU HU (uthere_c g T N hok hno i mL mN (fun e he => ?_) (fun c13 d13 => ?_)))
  ·refine qs 6 ?_
   refine Ga (GK rfl rfl rfl (fun _ => ?_) (fun c15 => absurd c15 (by rcases he with ⟨_, h⟩ | ⟨_, _, h⟩ <;> omega)))
   refine qs 5 ?_
   refine Ga (GI HU HU HU ?_)
   refine qs 8 ?_
   rcases he with ⟨h, rfl⟩ | ⟨h, h', rfl⟩
   · exact GS (rs := [.cell 4 _, .tmp 5, .tmp 6]) (L' := L) (F' := F) Tryz.results15 (.agg (j := 0) rfl rfl rfl (.tmp rfl (.tmp rfl .nil))) subA (h1 h)
   exact GS (rs := [.cell 4 _, .tmp 5, .tmp 6]) (L' := L) (F' := F) Tryz.results15 (.agg (j := 0) rfl rfl rfl (.tmp rfl (.tmp rfl .nil))) subA (h2 h h')
  refine qs 6 ?_
  refine Ga (GK HU HU HU (fun c15 => absurd HU c15) (fun _ => ?_))
  refine qs 10 ?_
  obtain ⟨n, rfl⟩ : ∃ n : Nat, i = (n : Int) := ⟨i.toNat, by omega⟩
  have hn : n < T.length := by omega
  have hkl := (hok _ (List.getElem_mem hn)).kids
  refine Ga (Gj HU HU HU HU (enc := eTy) (lst := T) memA hn (fun _ _ => ?_))
  refine Ga (GU HU HU ?_)
  intro a22 k22 z22 d22 e22 f22
  refine Ga (Gq HU (fun b8 => ?_))
  refine qs 8 ?_
  refine Ga (GK HU HU HU (fun c25 => ?_) (fun c25 => ?_))
  ·refine qs 14 ?_
   exact GS (rs := [.cell 4 _, .tmp 5, .tmp 6]) (L' := L) (F' := fL T a k c :: F) Tryz.results15 (.agg (j := 1) rfl rfl rfl (.tmp rfl (.tmp rfl .nil))) (Sub.drop.trans (Sub.drop.trans (Sub.drop.trans (Gg (mem1 memA (fun x hx => by repeat (first | exact hx | refine List.mem_cons_of_mem _ ?_))))))) (h3 c13 n rfl hn c25)
  refine qs 10 ?_
  refine Ga (Gd rfl rfl (at_c N T[n].name memA (fun j c32 => ?_) (fun c32 => by obtain ⟨i, hi, _⟩ := c13.2.2.2 _ (List.getElem_mem hn) c25; rw [c32] at hi; exact absurd hi (by simp))))
  refine qs 8 ?_
  refine GO (fun i => Nat.beq i 13) [(b2, _, _), (b8, _, _)] bxA HU (fun hx hX => ?_)
  obtain ⟨hjl, _⟩ := atN_some c32
  obtain ⟨u, hu, hul⟩ := at_und c13 hjl
  have hk2 := (Gy (hX (fN N a2 k2 c2) memA)).1
  obtain ⟨p1, o1, e1, at1⟩ := GG (hX (fN N a2 k2 c2) memA) hjl
  cases e1
  obtain ⟨w1, x1, y1, w2, x2, y2, hv, hw1, hw2⟩ := nm_cells at1
  have hv2 := hv 2 _ rfl
  rw [hu] at hv2
  cases hk2
  refine qt [0, 1, 2, 3] ?_
  refine GF (i := 4) HU (GM (k := j) HU HU HW HW) HV HU HU ?_
  refine qt [5] ?_
  refine GV (i := 6) HU (Y.loadF HU hv2) HV HV HU HU HU ?_
  refine qt [7, 8] ?_
  refine Gf (i := 9) HV HU HU (fun _ => ?_)
  refine Gd HU HU (uwith_c g T hok c13.1 u hul T[n].kids HW (show fL T a k c ∈ _ from memA) (show fK T[n] _ _ _ ∈ _ from memA) memA (fun e h0 he => ?_) (fun o q a44 k44 c44 hq => ?_))
  all_goals refine Gc bxA memB ?_
  ·refine qt [10, 11, 12] ?_
   refine Gf (i := 13) HV HU HU (fun _ => ?_)
   refine GA HU HU HU HU ?_
   refine Gr HU ?_
   refine qt [14, 15] ?_
   refine Gm HV ?_
   refine qs 2 ?_
   exact GS (rs := [.cell 4 _, .tmp 5, .tmp 6]) (L' := L) (F' := F) Tryz.results15 (.agg (j := 1) rfl rfl rfl (.tmp rfl (.tmp rfl .nil))) subA (h4 c13 n rfl hn c25 j hjl c32 u hu hul e h0 he)
  refine qt [10, 11, 12] ?_
  refine Gf (i := 13) HV HU HU (fun _ => ?_)
  refine GA HU HU HU HU ?_
  refine Gr HU ?_
  refine qt [14, 15] ?_
  refine Gm HV ?_
  refine qs 2 ?_
  exact GS (rs := [.cell 4 _, .tmp 5, .tmp 6]) (L' := L) (F' := fL o a44 k44 c44 :: F) Tryz.results15 (.agg (j := 1) rfl rfl rfl (.tmp rfl (.tmp rfl .nil))) (Sub.drop.trans (Sub.drop.trans (Sub.drop.trans (Hk (fun x hx => by repeat (first | exact hx | refine List.mem_cons_of_mem _ ?_)))))) (h5 c13 n rfl hn c25 j hjl c32 u hu hul o q a44 k44 c44 hq)
end
end Go.Sy
namespace Go.Sy
open Go Go.Proofs Go.RowKit
def ownZ (zs : List Tm) : List Mth := (zs.filter fun z => isName z.1).map fun z => ⟨z.1, false, z.2⟩
theorem ownZ_yes {zs : List Tm} {q : Nat} (hq : q < zs.length) (h : isName zs[q].1 = true) : ownZ (zs.take q) ++ [⟨zs[q].1, false, zs[q].2⟩] = ownZ (zs.take (q + 1)) := by
  unfold ownZ
  rw [List.take_succ_eq_append_getElem hq, List.filter_append, List.map_append]
  simp [h]
theorem ownZ_no {zs : List Tm} {q : Nat} (hq : q < zs.length) (h : isName zs[q].1 = false) : ownZ (zs.take q) = ownZ (zs.take (q + 1)) := by
  unfold ownZ
  rw [List.take_succ_eq_append_getElem hq, List.filter_append, List.map_append]
  simp [h]
theorem ownZ_len (zs : List Tm) : (ownZ zs).length ≤ zs.length := by
  unfold ownZ; rw [List.length_map]; exact List.length_filter_le ..
def msOk (T : List Ty) (ms : List Mth) : Prop := ∀ i (hi : i < ms.length), isK T ms[i].sig 5 ∧ (0 < i → Op.bytesLess (ms[i - 1]'HW).name ms[i].name = true)
attribute [local irreducible] AC AT AO AK AH ACalls Sub Res.cells Res.obj Res.nix Res.own Res.map Exit.then Exit.inBlock bodyPost Code.wp Code.wpIn WL Next Post Kont
section
variable {W0 : World} {L : List Res} {F : List Fact} {R : Value → List Res → List Fact → Prop}
set_option maxRecDepth 100000
set_option maxHeartbeats 16000000
theorem own_c (t : Ty) (hw : t.words.length = t.kids.length) (hl : t.kids.length ≤ 20) {a3 a4 : Option Addr} {k3 c3 k4 c4 : Nat} (m3 : fW t a3 k3 c3 ∈ F) (m4 : fK t a4 k4 c4 ∈ F)
    (h : ∀ a k c, R (.slice a k c) L (fMs (ownZ (zips t)) a k c :: F)) : ACalls Tryz.prog W0 57 #[vTy t a3 k3 c3 a4 k4 c4] L F R := by
  have hzl := zips_len hw
  refine Ge Tryz.func57 HU Tryz.ntmps57 HU ?_
  refine qs 2 ?_
  refine Ga (GJ HU HU (fun b1 => ?_))
  refine qs 13 ?_
  refine Ga (Gv HU HU (fun hl8 => ?_) (enc := eS) (lst := t.words) (hm := m3))
  refine qs 4 ?_
  refine GN (fun (x : Nat × Option Addr × Nat × Nat) => x.1 ≤ t.words.length) (fun x => [(1, .pointer (some ⟨b1, 0, none⟩)), (3, .slice x.2.1 x.2.2.1 x.2.2.2), (7, .slice a3 k3 c3), (8, .int .i64 t.words.length), (9, .int .i64 (x.1 : Int))]) (fun x => Res.own (.slice x.2.1 x.2.2.1 x.2.2.2) 44 3 ((ownZ ((zips t).take x.1)).map eMt) :: _) (fun _ => F) (fun x => t.words.length - x.1) (0, none, 0, 0) (by simp) srA Ha ?_
  rintro ⟨q, a5, k5, c5⟩ hq
  simp only at hq ⊢
  refine qs 2 ?_
  refine Ga (GB HU HU HU (fun c10 => ?_) (fun c10 => ?_))
  ·refine qs 11 ?_
   have hql : q < t.words.length := by omega
   have hqk : q < t.kids.length := by omega
   have hqz : q < (zips t).length := by omega
   have hzg := HN hql hqk hqz
   have hol := ownZ_len ((zips t).take q)
   have htl : ((zips t).take q).length = q := by rw [List.length_take]; omega
   refine Ga (Gj HU HU HU HU (show fW t _ _ _ ∈ _ from memA) hql (fun _ _ => ?_))
   refine Ga (GE HU HU ?_)
   intros
   refine qs 7 ?_
   refine Ga (Gd HU HU (Hz t.words[q] (fun c15 => ?_) (fun c15 => ?_)))
   ·refine qs 9 ?_
    refine Ga (Gj HU HU HU HU (show fK t _ _ _ ∈ _ from memA) hqk (fun _ _ => ?_))
    refine Ga (GE HU HU ?_)
    intros
    refine Ga (GI HU HU HU ?_)
    refine Ga (Gi HU HU HU HU HU (fun b24 => ?_))
    refine Ga (GZ (i := 0) (enc := eMt) (lst := ownZ ((zips t).take q)) [⟨t.words[q], false, t.kids[q]⟩] HU HU HU HU (.val (.val (.val .nil))) HU HU (fun _ => rfl) (by simp only [maxLen]; omega) HW (fun a25 k25 c25 => ?_))
    have hy := ownZ_yes hqz (by rw [hzg]; exact c15)
    rw [hzg] at hy
    rw [hy]
    refine qs 8 ?_
    exact Gl (q + 1, a25, k25, c25) (by simp only; omega) (by simp only; omega) srA subF
   refine qs 10 ?_
   refine Gl (q + 1, a5, k5, c5) (by simp only; omega) (by simp only; omega) srA ?_
   rw [ownZ_no hqz (by rw [hzg]; exact c15)]
   exact subF
  refine qs 11 ?_
  refine Ga (AO.move HU HU ?_)
  have hall : (zips t).take q = zips t := List.take_of_length_le HW
  rw [hall]
  refine Gz (GH (i := 0) HU) ?_
  refine qs 4 ?_
  exact Gb (L' := L) (F' := fMs (ownZ (zips t)) a5 k5 c5 :: F) Tryz.results57 rfl (Sub.drop.trans (Sub.drop.trans (Hk (fun x hx => by repeat (first | exact hx | refine List.mem_cons_of_mem _ ?_))))) (h _ _ _)
theorem cloneM_c (ms : List Mth) (hl : ms.length ≤ 1000) {a : Option Addr} {k c : Nat} (m1 : fMs ms a k c ∈ F) (h : ∀ a k c, R (.slice a k c) (Res.own (.slice a k c) 44 3 (ms.map eMt) :: L) F) : ACalls Tryz.prog W0 58 #[.slice a k c] L F R := by
  refine Ge Tryz.func58 HU Tryz.ntmps58 HU ?_
  refine qs 9 ?_
  refine Ga (AO.eqlSN Tryz.underlying40 HU HU HU (fun c4 => ?_) (fun b4 c4 => ?_))
  ·refine qs 10 ?_
   first
   | exact Gb Tryz.results58 rfl (Gk _ _) (h a7 k7 z7)
   | (subst c4; exact Gb (F' := F) Tryz.results58 rfl (Sub.ownNone m1) (h none 0 0))
  refine qs 7 ?_
  refine Ga (AO.buildSlice0 HU (fun b5 => ?_))
  refine Gz (Sub.toOwn (i := 0) (k := 0) (sz := 3) (enc := eMt) [] HU .nil (fun _ => rfl) HU (by decide)) ?_
  refine qs 1 ?_
  refine Ga (Gx (i := 0) (enc := eMt) (lst := []) (lst2 := ms) rfl rfl rfl rfl memA (fun x d hd v hv => by subst hv; simp at hd; rcases hd with rfl | rfl | rfl <;> rfl) (fun _ => rfl) (by simp only [maxLen, List.length_nil]; omega) (by simp only [List.length_nil]; omega) (fun a7 k7 z7 => ?_))
  refine qs 4 ?_
  first
  | exact Gb Tryz.results58 rfl (Gk _ _) (h a7 k7 z7)
  | (subst c4; exact Gb (F' := F) Tryz.results58 rfl (Sub.ownNone m1) (h none 0 0))
structure MthU (T : List Ty) (N : List Nmd) (ms : List Mth) (q : Nat) (o : List Ty) (out : List Mth) : Prop where
  right : rightU o N
  pre : T <+: o
  len : out.length = ms.length
  done : ∀ j (hj : j < out.length) (hm : j < ms.length), j < q → out[j].name = ms[j].name ∧ isK o out[j].sig 5
  rest : ∀ j (hj : j < out.length) (hm : j < ms.length), q ≤ j → out[j] = ms[j]
theorem MthU.step {T : List Ty} {N : List Nmd} {ms : List Mth} {q : Nat} {o : List Ty} {out : List Mth} (h : MthU T N ms q o out) (_ : q < ms.length) (hq2 : q < out.length) {o2 : List Ty} {x : Int} (hr : rightU o2 N) (hp : o <+: o2) (hk : isK o2 x 5) : MthU T N ms (q + 1) o2 (out.set q ⟨out[q].name, out[q].ptr, x⟩) := by
  refine ⟨hr, h.pre.trans hp, by rw [List.length_set]; exact h.len, fun j hj hm hjq => ?_, fun j hj hm hjq => ?_⟩
  · rw [List.length_set] at hj
    by_cases e : q = j
    · subst e
      rw [List.getElem_set_self]
      exact ⟨by rw [h.rest q hj hm (Nat.le_refl _)], hk⟩
    rw [List.getElem_set_ne e]
    have := h.done j hj hm HW
    exact ⟨this.1, isK_up hp this.2⟩
  rw [List.length_set] at hj
  rw [List.getElem_set_ne HW]
  exact h.rest j hj hm HW
theorem MthU.ok {T : List Ty} {N : List Nmd} {n : Nmd} {o : List Ty} {out : List Mth} (hm : methodsP T n) (h : MthU T N n.methods n.methods.length o out) : msOk o out := by
  intro i hi
  have hl := h.len
  have h1 := h.done i hi HW HW
  refine ⟨h1.2, fun h0 => ?_⟩
  have h2 := h.done (i - 1) HW HW HW
  have h3 := (hm.2.1 i HW).2.2.2 h0
  rw [Gt default HW] at h3
  rw [h1.1, h2.1]
  exact h3
end
end Go.Sy
namespace Go.Sy
open Go Go.Proofs
def stepsN {σ ε : Type} (f : Nat → σ → Except ε σ) (s : σ) : Nat → Except ε σ
  | 0 => .ok s
  | q + 1 => match stepsN f s q with
    | .error e => .error e
    | .ok x => f q x
section
variable {σ ε : Type} {f : Nat → σ → Except ε σ} {s x : σ} {e : ε} {q : Nat}
theorem stepsN_ok (h : stepsN f s q = .ok x) : stepsN f s (q + 1) = f q x := by simp only [stepsN, h]
theorem stepsN_err (h : stepsN f s q = .error e) : ∀ r, q ≤ r → stepsN f s r = .error e
  | 0, hr => by obtain rfl : q = 0 := by omega
                exact h
  | r + 1, hr => by
    by_cases c : q = r + 1
    · subst c; exact h
    simp only [stepsN, stepsN_err h r HW]
theorem stepsN_bad (h : stepsN f s q = .ok x) (h2 : f q x = .error e) {r : Nat} (hr : q < r) : stepsN f s r = .error e := stepsN_err (q := q + 1) (by rw [stepsN_ok h]; exact h2) r hr
theorem stepsN_inv (I : Nat → σ → Prop) (h0 : I 0 s) (hs : ∀ q x y, I q x → f q x = .ok y → I (q + 1) y) : ∀ q x, stepsN f s q = .ok x → I q x
  | 0, x, h => by injection h with h; exact h ▸ h0
  | q + 1, y, h => by
    cases hq : stepsN f s q with
    | error e => simp [stepsN, hq] at h
    | ok x => rw [stepsN_ok hq] at h; exact hs q x y (stepsN_inv I h0 hs q x hq) h
end
structure Ent where
  typ : Int
  via : Bool
  many : Bool
  path : List Int
deriving DecidableEq
structure Wht where
  under : Int
  ms : List Mth
deriving DecidableEq
structure SelV where
  method : Bool
  typ : Int
  ptr : Bool
  via : Bool
  path : List Int
deriving DecidableEq
instance : Inhabited Ent := ⟨⟨0, false, false, []⟩⟩
instance : Inhabited Wht := ⟨⟨0, []⟩⟩
abbrev eEn (e : Ent) : List D := [.val (.int .i64 e.typ), .val (.bool e.via), .val (.bool e.many), .slc 1 (e.path.map eI)]
abbrev eWh (w : Wht) : List D := [.val (.int .i64 w.under), .slc 3 (w.ms.map eMt)]
abbrev eSl (s : SelV) : List D := [.val (.bool s.method), .val (.int .i64 s.typ), .val (.bool s.ptr), .val (.bool s.via), .slc 1 (s.path.map eI)]
abbrev vEn (e : Ent) (a : Option Addr) (k c : Nat) : Value := .agg #[.int .i64 e.typ, .bool e.via, .bool e.many, .slice a k c]
abbrev vWh (w : Wht) (a : Option Addr) (k c : Nat) : Value := .agg #[.int .i64 w.under, .slice a k c]
abbrev vSl (s : SelV) (a : Option Addr) (k c : Nat) : Value := .agg #[.bool s.method, .int .i64 s.typ, .bool s.ptr, .bool s.via, .slice a k c]
abbrev fEn (l : List Ent) (a : Option Addr) (k c : Nat) : Fact := .slc (.slice a k c) 4 (l.map eEn)
abbrev fWh (l : List Wht) (a : Option Addr) (k c : Nat) : Fact := .slc (.slice a k c) 2 (l.map eWh)
abbrev fSl (l : List SelV) (a : Option Addr) (k c : Nat) : Fact := .slc (.slice a k c) 5 (l.map eSl)
def tyAt (T : List Ty) (i : Int) : Ty := T.getD i.toNat (basicT [])
theorem tyAt_get {T : List Ty} {n : Nat} (h : n < T.length) : tyAt T (n : Int) = T[n] := by unfold tyAt; rw [Int.toNat_natCast]; exact Gt _ h
theorem tyAt_get' {T : List Ty} {i : Int} (h0 : 0 ≤ i) (h : i < T.length) : ∃ hn : i.toNat < T.length, tyAt T i = T[i.toNat] := ⟨by omega, by unfold tyAt; exact Gt _ HW⟩
theorem tyAt_pre {T M : List Ty} (h : T <+: M) {i : Int} (h0 : 0 ≤ i) (hi : i < T.length) : tyAt M i = tyAt T i := by
  have := h.length_le
  obtain ⟨hn, e⟩ := tyAt_get' h0 hi
  obtain ⟨hn2, e2⟩ := tyAt_get' (T := M) h0 HW
  rw [e, e2, get_pre h hn]
noncomputable def undR (T : List Ty) (N : List Nmd) (i : Int) : Except Int (List Ty × Int) :=
  if (tyAt T i).kind = 8 then match atN N (tyAt T i).name with
    | some j => subR T (N.getD j default).under.toNat (tyAt T i).kids
    | none => .error 1
  else .ok (T, i)
noncomputable def turnR (kids : List Int) (ms : List Mth) (T : List Ty) : Nat → Except Int (List Ty × List Mth) :=
  stepsN (fun q x => match subR x.1 (ms.getD q default).sig.toNat kids with
    | .error e => .error e
    | .ok (o, y) => .ok (o, x.2 ++ [⟨(ms.getD q default).name, (ms.getD q default).ptr, y⟩])) (T, [])
noncomputable def ownR (T : List Ty) (N : List Nmd) (i : Int) : Except Int (List Ty × List Mth) :=
  if (tyAt T i).kind = 7 then .ok (T, ownZ (zips (tyAt T i)))
  else if (tyAt T i).kind = 8 then match atN N (tyAt T i).name with
    | some j => turnR (tyAt T i).kids (N.getD j default).methods T (N.getD j default).methods.length
    | none => .error 1
  else .ok (T, [])
noncomputable def lookR (T : List Ty) (N : List Nmd) (i : Int) : Except Int (List Ty × Wht) :=
  match undR T N i with
  | .error e => .error e
  | .ok (T1, k) => match ownR T1 N (if (tyAt T1 k).kind = 7 then k else i) with
    | .error e => .error e
    | .ok (T2, ms) => .ok (T2, ⟨k, ms⟩)
noncomputable def looksR (N : List Nmd) (T : List Ty) (lev : List Ent) : Nat → Except Int (List Ty × List Wht) :=
  stepsN (fun q x => match lookR x.1 N (lev.getD q default).typ with
    | .error e => .error e
    | .ok (o, w) => .ok (o, x.2 ++ [w])) (T, [])
noncomputable def firstR (T : List Ty) (N : List Nmd) (i : Int) : Except Int (List Ty × List Ent) :=
  if (tyAt T i).kind = 1 then match undR T N ((tyAt T i).kids.getD 0 0) with
    | .error e => .error e
    | .ok (T1, k) => if (tyAt T1 k).kind = 1 ∨ (tyAt T1 k).kind = 7 then .ok (T, []) else .ok (T1, [⟨(tyAt T i).kids.getD 0 0, true, false, []⟩])
  else .ok (T, [⟨i, false, false, []⟩])
def plusW (w : List UInt8) : Bool := w.head? == some 43
def entE (T : List Ty) (e : Ent) (t : Ty) (k : Nat) : Ent :=
  if (tyAt T (t.kids.getD k 0)).kind = 1 then ⟨(tyAt T (t.kids.getD k 0)).kids.getD 0 0, true, e.many, e.path ++ [(k : Int)]⟩ else ⟨t.kids.getD k 0, e.via, e.many, e.path ++ [(k : Int)]⟩
def typs (l : List Ent) : List Int := l.map (·.typ)
def manyE (t : Int) (e : Ent) : Ent := if e.typ = t then ⟨e.typ, e.via, true, e.path⟩ else e
def addE (out : List Ent) (seen : List Int) (x : Ent) : List Ent :=
  if x.typ ∈ typs out then out.map (manyE x.typ) else if x.typ ∈ seen then out else out ++ [x]
def innerN (T : List Ty) (e : Ent) (t : Ty) (seen : List Int) (out : List Ent) : Nat → List Ent
  | 0 => out
  | k + 1 => if plusW (t.words.getD k []) = true then addE (innerN T e t seen out k) seen (entE T e t k) else innerN T e t seen out k
def outerN (T : List Ty) (lev : List Ent) (ws : List Wht) (seen : List Int) : Nat → List Ent
  | 0 => []
  | q + 1 => if (tyAt T (ws.getD q default).under).kind = 6 then innerN T (lev.getD q default) (tyAt T (ws.getD q default).under) seen (outerN T lev ws seen q) (tyAt T (ws.getD q default).under).words.length else outerN T lev ws seen q
def nextL (T : List Ty) (lev : List Ent) (ws : List Wht) (seen : List Int) : List Ent := outerN T lev ws seen lev.length
def hadM (w : Wht) (e : Ent) (s : List UInt8) : Nat → List SelV
  | 0 => []
  | k + 1 => if (w.ms.getD k default).name = s then hadM w e s k ++ [⟨true, (w.ms.getD k default).sig, (w.ms.getD k default).ptr, e.via, e.path⟩] else hadM w e s k
def hadF (t : Ty) (e : Ent) (s : List UInt8) (l : List SelV) : Nat → List SelV
  | 0 => l
  | k + 1 => if fieldN (t.words.getD k []) = s then hadF t e s l k ++ [⟨false, t.kids.getD k 0, false, e.via, e.path ++ [(k : Int)]⟩] else hadF t e s l k
def had1 (T : List Ty) (w : Wht) (e : Ent) (s : List UInt8) (l : List SelV) : List SelV :=
  let m := l ++ hadM w e s w.ms.length
  if (tyAt T w.under).kind = 6 then hadF (tyAt T w.under) e s m (tyAt T w.under).words.length else m
def hadE (T : List Ty) (w : Wht) (e : Ent) (s : List UInt8) : List SelV := if e.many = true then had1 T w e s [] ++ had1 T w e s [] else had1 T w e s []
def foundN (T : List Ty) (lev : List Ent) (ws : List Wht) (s : List UInt8) : Nat → List SelV
  | 0 => []
  | q + 1 => foundN T lev ws s q ++ hadE T (ws.getD q default) (lev.getD q default) s
noncomputable def runL {σ : Type} (N : List Nmd) (stp : σ → List Ty → List Ent → List Wht → σ) (go : σ → Bool) : Nat → List Ty → List Ent → List Int → σ → σ × Except Int (List Ty)
  | 0, T, _, _, s => (s, .ok T)
  | n + 1, T, lev, seen, s => match looksR N T lev lev.length with
    | .error e => (s, .error e)
    | .ok (T1, ws) => if lev = [] then (s, .ok T1) else
      if go (stp s T1 lev ws) = true then runL N stp go n T1 (nextL T1 lev ws seen) (seen ++ typs (nextL T1 lev ws seen)) (stp s T1 lev ws) else (stp s T1 lev ws, .ok T1)
noncomputable def levelsL {σ : Type} (N : List Nmd) (stp : σ → List Ty → List Ent → List Wht → σ) (go : σ → Bool) (T : List Ty) (i : Int) (s : σ) : σ × Except Int (List Ty) :=
  match firstR T N i with
  | .error e => (s, .error e)
  | .ok (T1, lev) => runL N stp go 7 T1 lev (typs lev) s
def stpF (s : List UInt8) (l : List SelV) (T : List Ty) (lev : List Ent) (ws : List Wht) : List SelV := l ++ foundN T lev ws s lev.length
def tellF : List SelV × Except Int (List Ty) → Except Int (List Ty × SelV)
  | (_, .error e) => .error e
  | ([], .ok _) => .error 8
  | ([x], .ok T) => .ok (T, x)
  | (_ :: _ :: _, .ok _) => .error 9
noncomputable def findR (N : List Nmd) (T : List Ty) (i : Int) (s : List UInt8) : Except Int (List Ty × SelV) := tellF (levelsL N (stpF s) List.isEmpty T i [])
end Go.Sy
namespace Go.Sy
abbrev GQ := @tyAt_get'
abbrev HI := @tyAt_get
end Go.Sy
namespace Go.Sy
open Go Go.Proofs
theorem made_of_kind {T : List Ty} (h : rightP T) {n : Nat} (hn : n < T.length) (hk : T[n].kind ≠ 0) (h7 : T[n].kind ≠ 7) : madeP (T.take n) T[n] := by
  have hr := h.2.2 n hn
  unfold rowAt at hr
  by_cases c : n < 22
  · rw [if_pos c] at hr
    have hql : n < startL.length := by rw [start_len]; exact c
    have e : T[n] ∈ startL := by rw [hr, start_get hql]; exact List.getElem_mem hql
    have : ∀ t ∈ startL, t.kind = 0 ∨ t.kind = 7 := by decide
    rcases this _ e with e | e
    · exact absurd e hk
    exact absurd e h7
  rw [if_neg c] at hr
  exact hr.1
theorem struct_of {T : List Ty} (h : rightP T) {n : Nat} (hn : n < T.length) (h6 : T[n].kind = 6) : T[n].words.length = T[n].kids.length ∧ fieldsP T[n].words := by
  obtain ⟨_, _, _, _, hm⟩ := made_of_kind h hn HW HW
  unfold madeK at hm
  rcases hm with h | h | h | h | h | h | h | h | h
  all_goals first | omega | exact ⟨h.2.2.2, h.2.2.1⟩
theorem ptr_of {T : List Ty} (h : rightP T) {n : Nat} (hn : n < T.length) (h1 : T[n].kind = 1) : T[n].kids.length = 1 := by
  obtain ⟨_, _, _, _, hm⟩ := made_of_kind h hn HW HW
  unfold madeK at hm
  rcases hm with h | h | h | h | h | h | h | h | h
  all_goals first | omega | exact h.2.2
theorem undR_ok {T : List Ty} {N : List Nmd} (hu : rightU T N) {i : Int} (h0 : 0 ≤ i) (hi : i < T.length) {o : List Ty} {k : Int} (h : undR T N i = .ok (o, k)) : rightU o N ∧ T <+: o ∧ 0 ≤ k ∧ k < o.length := by
  unfold undR at h
  split at h
  · split at h
    · rename_i j hj
      obtain ⟨hjl, _⟩ := atN_some hj
      obtain ⟨u, hu1, hu2⟩ := at_und hu hjl
      rw [Gt default hjl, hu1, Int.toNat_natCast] at h
      obtain ⟨h1, h2, h3, h4, _⟩ := rightU_sub hu hu2 h
      exact ⟨h1, h2, h3, h4⟩
    cases h
  injection h with h; injection h with h1 h2
  subst h1 h2
  exact ⟨hu, List.prefix_rfl, h0, hi⟩
theorem turnR_ok {T : List Ty} {N : List Nmd} (hu : rightU T N) {kids : List Int} {ms : List Mth} (hm : ∀ m ∈ ms, 0 ≤ m.sig ∧ m.sig < T.length) : ∀ q, q ≤ ms.length → ∀ o out, turnR kids ms T q = .ok (o, out) → rightU o N ∧ T <+: o ∧ out.length = q := by
  intro q hq o out h
  have := stepsN_inv (s := ((T, []) : List Ty × List Mth)) (fun q x => q ≤ ms.length → rightU x.1 N ∧ T <+: x.1 ∧ x.2.length = q) (fun _ => ⟨hu, List.prefix_rfl, rfl⟩) (fun q x y hI hf hq => ?_) q (o, out) h hq
  · exact this
  obtain ⟨h1, h2, h3⟩ := hI HW
  have hql : q < ms.length := by omega
  have hs := hm _ (List.getElem_mem hql)
  have hl := h2.length_le
  rw [Gt default hql] at hf
  split at hf
  · cases hf
  rename_i o2 y2 hx
  injection hf with hf
  subst hf
  obtain ⟨e1, e2, _⟩ := rightU_sub h1 (u := ms[q].sig.toNat) HW hx
  exact ⟨e1, h2.trans e2, by simp [h3]⟩
theorem ownR_ok {T : List Ty} {N : List Nmd} (hu : rightU T N) {i : Int} (h0 : 0 ≤ i) (hi : i < T.length) {o : List Ty} {ms : List Mth} (h : ownR T N i = .ok (o, ms)) : rightU o N ∧ T <+: o ∧ ms.length ≤ 20 := by
  obtain ⟨hn, e⟩ := GQ h0 hi
  unfold ownR at h
  rw [e] at h
  split at h
  · injection h with h; injection h with h1 h2
    subst h1 h2
    have hrt := GL hu.1 hn
    have h1 := ownZ_len (zips T[i.toNat])
    have h2 : (zips T[i.toNat]).length ≤ T[i.toNat].kids.length := by unfold zips; rw [List.length_zip]; omega
    exact ⟨hu, List.prefix_rfl, by have := hrt.few; omega⟩
  split at h
  · split at h
    · rename_i j hj
      obtain ⟨hjl, _⟩ := atN_some hj
      rw [Gt default hjl] at h
      have hms := (hu.2.2.1 j hjl).1.2.2.2
      obtain ⟨e1, e2, e3⟩ := turnR_ok hu (fun m hm => by
        obtain ⟨q, hq, rfl⟩ := List.getElem_of_mem hm
        have := (hms.2.1 q hq).2.1
        exact ⟨this.1, this.2.1⟩) _ (Nat.le_refl _) _ _ h
      exact ⟨e1, e2, by have := hms.1; omega⟩
    cases h
  injection h with h; injection h with h1 h2
  subst h1 h2
  exact ⟨hu, List.prefix_rfl, by simp⟩
def whP (T : List Ty) (w : Wht) : Prop := 0 ≤ w.under ∧ w.under < T.length ∧ w.ms.length ≤ 20
theorem whP.up {T M : List Ty} {w : Wht} (h : whP T w) (hp : T <+: M) : whP M w := ⟨h.1, by have := hp.length_le; have := h.2.1; omega, h.2.2⟩
theorem lookR_ok {T : List Ty} {N : List Nmd} (hu : rightU T N) {i : Int} (h0 : 0 ≤ i) (hi : i < T.length) {o : List Ty} {w : Wht} (h : lookR T N i = .ok (o, w)) : rightU o N ∧ T <+: o ∧ whP o w := by
  unfold lookR at h
  cases h1 : undR T N i with
  | error e => rw [h1] at h; cases h
  | ok x =>
    obtain ⟨T1, k⟩ := x
    obtain ⟨a1, a2, a3, a4⟩ := undR_ok hu h0 hi h1
    have hl := a2.length_le
    rw [h1] at h
    simp only at h
    cases h2 : ownR T1 N (if (tyAt T1 k).kind = 7 then k else i) with
    | error e => rw [h2] at h; cases h
    | ok y =>
      obtain ⟨T2, ms⟩ := y
      rw [h2] at h
      injection h with h; injection h with e1 e2
      subst e1 e2
      obtain ⟨b1, b2, b3⟩ := ownR_ok a1 (by split <;> omega) (by split <;> omega) h2
      have hl2 := b2.length_le
      exact ⟨b1, a2.trans b2, a3, by simp only; omega, b3⟩
def levP (T : List Ty) (p : Nat) (lev : List Ent) : Prop := (∀ e ∈ lev, (0 ≤ e.typ ∧ e.typ < T.length) ∧ e.path.length ≤ p) ∧ (typs lev).Nodup
theorem levP.up {T M : List Ty} {p : Nat} {lev : List Ent} (h : levP T p lev) (hp : T <+: M) : levP M p lev := ⟨fun e he => ⟨⟨(h.1 e he).1.1, by have := hp.length_le; have := (h.1 e he).1.2; omega⟩, (h.1 e he).2⟩, h.2⟩
theorem nodup_len : ∀ (n : Nat) (l : List Int), l.Nodup → (∀ x ∈ l, 0 ≤ x ∧ x < (n : Int)) → l.length ≤ n
  | 0, l, _, h => by
    cases l with
    | nil => simp
    | cons x l => have := h x (List.mem_cons_self ..); omega
  | n + 1, l, hn, h => by
    have h1 := nodup_len n (l.filter (· ≠ (n : Int))) (hn.filter _) (fun x hx => by
      obtain ⟨hx1, hx2⟩ := List.mem_filter.1 hx
      have := h x hx1
      have : x ≠ (n : Int) := by simpa using hx2
      omega)
    have h2 : l.length ≤ (l.filter (· ≠ (n : Int))).length + 1 := by
      clear h h1
      induction l with
      | nil => simp
      | cons x l ih =>
        obtain ⟨hx, hl⟩ := List.nodup_cons.1 hn
        by_cases c : x = (n : Int)
        · subst c
          have : l.filter (· ≠ (n : Int)) = l := List.filter_eq_self.2 (fun y hy => by simpa using fun e => hx (by rw [← e]; exact hy))
          rw [List.filter_cons_of_neg (by simp), this]; simp
        rw [List.filter_cons_of_pos (by simpa using c)]
        have := ih hl
        simp only [List.length_cons]; omega
    omega
theorem levP.few {T : List Ty} {p : Nat} {lev : List Ent} (h : levP T p lev) : lev.length ≤ T.length := by
  have := nodup_len T.length (typs lev) h.2 (fun x hx => by
    obtain ⟨e, he, rfl⟩ := List.mem_map.1 hx
    exact (h.1 e he).1)
  simpa [typs] using this
theorem looksR_ok {T : List Ty} {N : List Nmd} (hu : rightU T N) {p : Nat} {lev : List Ent} (hl : levP T p lev) : ∀ q, q ≤ lev.length → ∀ o ws, looksR N T lev q = .ok (o, ws) → rightU o N ∧ T <+: o ∧ ws.length = q ∧ ∀ w ∈ ws, whP o w := by
  intro q hq o ws h
  have := stepsN_inv (s := ((T, []) : List Ty × List Wht)) (fun q x => q ≤ lev.length → rightU x.1 N ∧ T <+: x.1 ∧ x.2.length = q ∧ ∀ w ∈ x.2, whP x.1 w) (fun _ => ⟨hu, List.prefix_rfl, rfl, fun w hw => by cases hw⟩) (fun q x y hI hf hq => ?_) q (o, ws) h hq
  · exact this
  obtain ⟨h1, h2, h3, h4⟩ := hI HW
  have hql : q < lev.length := by omega
  have hs := (hl.1 _ (List.getElem_mem hql)).1
  have hle := h2.length_le
  rw [Gt default hql] at hf
  split at hf
  · cases hf
  rename_i o2 w2 hx
  injection hf with hf
  subst hf
  obtain ⟨e1, e2, e3⟩ := lookR_ok h1 hs.1 HW hx
  refine ⟨e1, h2.trans e2, by simp [h3], fun w hw => ?_⟩
  rcases List.mem_append.1 hw with hw | hw
  · exact (h4 w hw).up e2
  rw [List.mem_singleton.1 hw]; exact e3
theorem firstR_ok {T : List Ty} {N : List Nmd} (hu : rightU T N) {i : Int} (h0 : 0 ≤ i) (hi : i < T.length) {o : List Ty} {lev : List Ent} (h : firstR T N i = .ok (o, lev)) : rightU o N ∧ T <+: o ∧ levP o 0 lev := by
  obtain ⟨hn, e⟩ := GQ h0 hi
  unfold firstR at h
  rw [e] at h
  split at h
  · rename_i h1
    have hk1 := ptr_of hu.1 hn h1
    have hkd := (GL hu.1 hn).kids _ (List.getElem_mem (show 0 < T[i.toNat].kids.length by omega))
    rw [Gt _ (show 0 < T[i.toNat].kids.length by omega)] at h
    split at h
    · cases h
    rename_i T1 k hx
    obtain ⟨a1, a2, a3, a4⟩ := undR_ok hu hkd.1 HW hx
    have hl := a2.length_le
    split at h
    · injection h with h; injection h with e1 e2
      subst e1 e2
      exact ⟨hu, List.prefix_rfl, fun e he => by simp at he, by simp [typs]⟩
    injection h with h; injection h with e1 e2
    subst e1 e2
    exact ⟨a1, a2, fun e he => by
      rw [List.mem_singleton.1 he]; simp only [List.length_nil]; omega, by simp [typs]⟩
  injection h with h; injection h with e1 e2
  subst e1 e2
  exact ⟨hu, List.prefix_rfl, fun e he => by
    rw [List.mem_singleton.1 he]; simp only [List.length_nil]; omega, by simp [typs]⟩
theorem typs_many (t : Int) (l : List Ent) : typs (l.map (manyE t)) = typs l := by
  unfold typs
  rw [List.map_map]
  apply List.map_congr_left
  intro e _
  simp only [Function.comp_apply, manyE]
  split <;> rfl
theorem manyE_path (t : Int) (e : Ent) : (manyE t e).path = e.path ∧ (manyE t e).typ = e.typ := by unfold manyE; split <;> exact ⟨rfl, rfl⟩
theorem addE_ok {T : List Ty} {p : Nat} {out : List Ent} {seen : List Int} {x : Ent} (h : levP T p out) (hx : (0 ≤ x.typ ∧ x.typ < T.length) ∧ x.path.length ≤ p) : levP T p (addE out seen x) := by
  unfold addE
  split
  · refine ⟨fun e he => ?_, by rw [typs_many]; exact h.2⟩
    obtain ⟨y, hy, rfl⟩ := List.mem_map.1 he
    rw [(manyE_path _ _).1, (manyE_path _ _).2]
    exact h.1 y hy
  rename_i hn
  split
  · exact h
  refine ⟨fun e he => ?_, ?_⟩
  · rcases List.mem_append.1 he with he | he
    · exact h.1 e he
    rw [List.mem_singleton.1 he]; exact hx
  unfold typs at hn ⊢
  rw [List.map_append, List.nodup_append]
  refine ⟨h.2, by simp, fun a ha b hb => ?_⟩
  simp at hb
  subst hb
  intro e
  exact hn (e ▸ ha)
theorem entE_ok {T : List Ty} (hr : rightP T) {e : Ent} {t : Ty} {p : Nat} (he : e.path.length ≤ p) {k : Nat} (hk : k < t.kids.length) (hkids : ∀ x ∈ t.kids, 0 ≤ x ∧ x < T.length) : (0 ≤ (entE T e t k).typ ∧ (entE T e t k).typ < T.length) ∧ (entE T e t k).path.length ≤ p + 1 := by
  have h1 := hkids _ (List.getElem_mem hk)
  unfold entE
  rw [Gt _ hk]
  obtain ⟨hn, hty⟩ := GQ h1.1 h1.2
  rw [hty]
  split
  · rename_i c
    have hk1 := ptr_of hr hn c
    have hkd := (GL hr hn).kids _ (List.getElem_mem (show 0 < T[t.kids[k].toNat].kids.length by omega))
    rw [Gt _ (show 0 < T[t.kids[k].toNat].kids.length by omega)]
    exact ⟨⟨hkd.1, by simp only; omega⟩, by simp; omega⟩
  exact ⟨h1, by simp; omega⟩
theorem innerN_ok {T : List Ty} (hr : rightP T) {e : Ent} {t : Ty} {p : Nat} (he : e.path.length ≤ p) (hkids : ∀ x ∈ t.kids, 0 ≤ x ∧ x < T.length) {seen : List Int} {out : List Ent} (h : levP T (p + 1) out) : ∀ k, k ≤ t.kids.length → levP T (p + 1) (innerN T e t seen out k)
  | 0, _ => h
  | k + 1, hk => by
    unfold innerN
    split
    · exact addE_ok (innerN_ok hr he hkids h k HW) (entE_ok hr he HW hkids)
    exact innerN_ok hr he hkids h k HW
theorem kids_in {T : List Ty} (hr : rightP T) {i : Int} (h0 : 0 ≤ i) (hi : i < T.length) : ∀ x ∈ (tyAt T i).kids, 0 ≤ x ∧ x < T.length := by
  obtain ⟨hn, e⟩ := GQ h0 hi
  rw [e]
  intro x hx
  have := (GL hr hn).kids x hx
  omega
theorem words_kids {T : List Ty} (hr : rightP T) {i : Int} (h0 : 0 ≤ i) (hi : i < T.length) (h6 : (tyAt T i).kind = 6) : (tyAt T i).words.length = (tyAt T i).kids.length ∧ fieldsP (tyAt T i).words := by
  obtain ⟨hn, e⟩ := GQ h0 hi
  rw [e] at h6 ⊢
  exact struct_of hr hn h6
theorem outerN_ok {T : List Ty} (hr : rightP T) {p : Nat} {lev : List Ent} {ws : List Wht} {seen : List Int} (hl : levP T p lev) (hw : ws.length = lev.length) (hws : ∀ w ∈ ws, whP T w) : ∀ q, q ≤ lev.length → levP T (p + 1) (outerN T lev ws seen q)
  | 0, _ => ⟨fun e he => absurd he (by simp [outerN]), by simp [typs, outerN]⟩
  | q + 1, hq => by
    unfold outerN
    have hwq := hws _ (List.getElem_mem (show q < ws.length by omega))
    rw [Gt default (show q < ws.length by omega), Gt default (show q < lev.length by omega)]
    split
    · rename_i c
      have := words_kids hr hwq.1 hwq.2.1 c
      exact innerN_ok hr (hl.1 _ (List.getElem_mem (show q < lev.length by omega))).2 (kids_in hr hwq.1 hwq.2.1) (outerN_ok hr hl hw hws q HW) _ HW
    exact outerN_ok hr hl hw hws q HW
theorem nextL_ok {T : List Ty} (hr : rightP T) {p : Nat} {lev : List Ent} {ws : List Wht} {seen : List Int} (hl : levP T p lev) (hw : ws.length = lev.length) (hws : ∀ w ∈ ws, whP T w) : levP T (p + 1) (nextL T lev ws seen) := outerN_ok hr hl hw hws _ (Nat.le_refl _)
theorem hadM_len {w : Wht} {e : Ent} {s : List UInt8} : ∀ k, (hadM w e s k).length ≤ k
  | 0 => Nat.le_refl _
  | k + 1 => by unfold hadM; have := hadM_len (w := w) (e := e) (s := s) k; split <;> simp <;> omega
theorem hadF_len {t : Ty} {e : Ent} {s : List UInt8} {l : List SelV} : ∀ k, (hadF t e s l k).length ≤ l.length + k
  | 0 => Nat.le_refl _
  | k + 1 => by unfold hadF; have := hadF_len (t := t) (e := e) (s := s) (l := l) k; split <;> simp <;> omega
theorem had1_len {T : List Ty} (hr : rightP T) {w : Wht} (hw : whP T w) {e : Ent} {s : List UInt8} {l : List SelV} : (had1 T w e s l).length ≤ l.length + 40 := by
  unfold had1
  have h1 := hadM_len (w := w) (e := e) (s := s) w.ms.length
  have h2 := hw.2.2
  simp only
  split
  · rename_i c
    have h3 := hadF_len (t := tyAt T w.under) (e := e) (s := s) (l := l ++ hadM w e s w.ms.length) (tyAt T w.under).words.length
    have h4 := words_kids hr hw.1 hw.2.1 c
    obtain ⟨hn, e1⟩ := GQ hw.1 hw.2.1
    have h5 := (GL hr hn).few
    rw [← e1] at h5
    simp only [List.length_append] at h3
    omega
  simp only [List.length_append]; omega
theorem hadE_len {T : List Ty} (hr : rightP T) {w : Wht} (hw : whP T w) {e : Ent} {s : List UInt8} : (hadE T w e s).length ≤ 80 := by
  have h1 := had1_len hr hw (e := e) (s := s) (l := [])
  simp only [List.length_nil] at h1
  unfold hadE
  split <;> simp <;> omega
theorem foundN_len {T : List Ty} (hr : rightP T) {lev : List Ent} {ws : List Wht} (hl : ws.length = lev.length) (hws : ∀ w ∈ ws, whP T w) {s : List UInt8} : ∀ q, q ≤ lev.length → (foundN T lev ws s q).length ≤ q * 80
  | 0, _ => Nat.zero_le _
  | q + 1, hq => by
    have h1 := foundN_len hr hl hws (s := s) q HW
    have h2 := hadE_len hr (hws _ (List.getElem_mem (show q < ws.length by omega))) (e := lev.getD q default) (s := s)
    unfold foundN
    rw [List.length_append, Gt default (show q < ws.length by omega), Nat.add_mul]
    omega
end Go.Sy
namespace Go.Sy
open Go Go.Proofs
theorem All2.filter {α β : Type} {R : α → β → Prop} {p : α → Bool} {q : β → Bool} (hpq : ∀ a b, R a b → p a = q b) : ∀ {l : List α} {m : List β}, All2 R l m → All2 R (l.filter p) (m.filter q)
  | [], [], _ => trivial
  | a :: l, b :: m, h => by
    have e := hpq a b h.1
    cases hp : p a
    · rw [List.filter_cons_of_neg (by simp [hp]), List.filter_cons_of_neg (by simp [← e, hp])]
      exact All2.filter hpq h.2
    rw [List.filter_cons_of_pos hp, List.filter_cons_of_pos (by rw [← e]; exact hp)]
    exact ⟨h.1, All2.filter hpq h.2⟩
theorem All2.map {α β γ δ : Type} {R : α → β → Prop} {S : γ → δ → Prop} {f : α → γ} {g : β → δ} (hfg : ∀ a b, R a b → S (f a) (g b)) : ∀ {l : List α} {m : List β}, All2 R l m → All2 S (l.map f) (m.map g)
  | [], [], _ => trivial
  | _ :: _, _ :: _, h => ⟨hfg _ _ h.1, All2.map hfg h.2⟩
structure TwoU (T P Q : List Ty) (N : List Nmd) : Prop where
  tw : Two T P Q
  ut : rightU T N
  up : rightU P N
  uq : rightU Q N
theorem TwoU.symm {T P Q : List Ty} {N : List Nmd} (h : TwoU T P Q N) : TwoU T Q P N := ⟨h.tw.symm, h.ut, h.uq, h.up⟩
section
variable {T P Q P2 Q2 : List Ty} {N : List Nmd} {i j k l : Int}
theorem EqI.get (h2 : Two T P Q) (h : EqI T P Q i j) : ∃ (hp : i.toNat < P.length) (hq : j.toNat < Q.length), tyAt P i = P[i.toNat] ∧ tyAt Q j = Q[j.toNat] := by
  have hl := h.lt h2
  obtain ⟨hp, e1⟩ := GQ h.1 hl.1
  obtain ⟨hq, e2⟩ := GQ h.2.1 hl.2
  exact ⟨hp, hq, e1, e2⟩
theorem EqI.kind (h2 : Two T P Q) (h : EqI T P Q i j) : (tyAt Q j).kind = (tyAt P i).kind := by
  obtain ⟨hp, hq, e1, e2⟩ := h.get h2
  obtain ⟨_, _, e⟩ := h.2.2.kind h2
  rw [e1, e2]; exact e
theorem EqI.flat (h2 : Two T P Q) (h : EqI T P Q i j) (h7 : (tyAt P i).kind ≠ 7) : (tyAt Q j).words = (tyAt P i).words ∧ (tyAt Q j).name = (tyAt P i).name ∧ (tyAt Q j).n = (tyAt P i).n ∧ All2 (EqI T P Q) (tyAt P i).kids (tyAt Q j).kids := by
  obtain ⟨hp, hq, e1, e2⟩ := h.get h2
  rw [e1] at h7 ⊢
  rw [e2]
  exact h.2.2.flat h2 hp hq h7
def TmI (T P Q : List Ty) (x y : Tm) : Prop := x.1 = y.1 ∧ EqI T P Q x.2 y.2
theorem decl_two (h2 : Two T P Q) (h : EqI T P Q i j) (h7 : (tyAt P i).kind = 7) : All2 (TmI T P Q) (declsR (zips (tyAt P i))) (declsR (zips (tyAt Q j))) := by
  obtain ⟨hp, hq, e1, e2⟩ := h.get h2
  rw [e1] at h7 ⊢
  rw [e2]
  obtain ⟨g, _, _, hg, hN⟩ := h.2.2.out h2
  have hn : normT Q.length (mapG g P[i.toNat]) = termsT Q.length (mapG g P[i.toNat]) := by unfold normT; rw [if_pos (show (mapG g P[i.toNat]).kind = 7 from h7)]
  rw [hN, hn, zips_terms, declsR_app, declsR_self, declsR_marks (fun z hz => termsR_mark hz), List.append_nil, zips_mapG, declsR_map (fun k => ((g k : Nat) : Int))]
  refine All2.of (by simp) fun n h1 h3 => ?_
  simp only [List.getElem_map]
  have hm := List.getElem_mem h1
  have hz := (List.mem_filter.1 hm).1
  have hk := (List.of_mem_zip hz).2
  exact ⟨rfl, (kids_low h2.rp hp hk).1, Int.natCast_nonneg _, by rw [Int.toNat_natCast]; exact hg _ hk⟩
theorem name_mark {w : List UInt8} (h : isName w = true) : ¬ markP w := by
  rintro (rfl | rfl) <;> exact absurd h (by decide)
theorem ownZ_decl (zs : List Tm) : ownZ (declsR zs) = ownZ zs := by
  unfold ownZ declsR
  rw [List.filter_filter]
  congr 1
  apply List.filter_congr
  intro z _
  cases h : isName z.1
  · simp
  simp [name_mark h]
def MthR (T P Q : List Ty) (x y : Mth) : Prop := x.name = y.name ∧ x.ptr = y.ptr ∧ EqI T P Q x.sig y.sig
theorem MthR.mono (h2 : Two T P Q) (hp : P <+: P2) (hq : Q <+: Q2) {x y : Mth} (h : MthR T P Q x y) : MthR T P2 Q2 x y := ⟨h.1, h.2.1, h.2.2.mono h2 hp hq⟩
theorem ownZ_two {zs ws : List Tm} (h : All2 (TmI T P Q) (declsR zs) (declsR ws)) : All2 (MthR T P Q) (ownZ zs) (ownZ ws) := by
  rw [← ownZ_decl zs, ← ownZ_decl ws]
  unfold ownZ
  exact All2.map (fun a b h => ⟨h.1, rfl, h.2⟩) (All2.filter (fun a b h => by rw [h.1]) h)
theorem und_two (h : TwoU T P Q N) (hij : EqI T P Q i j) (h1 : undR P N i = .ok (P2, k)) (h3 : undR Q N j = .ok (Q2, l)) : TwoU T P2 Q2 N ∧ P <+: P2 ∧ Q <+: Q2 ∧ EqI T P2 Q2 k l := by
  have hl := hij.lt h.tw
  obtain ⟨r1, p1, _⟩ := undR_ok h.up hij.1 hl.1 h1
  obtain ⟨r2, p2, _⟩ := undR_ok h.uq hij.2.1 hl.2 h3
  have hk := hij.kind h.tw
  unfold undR at h1 h3
  rw [hk] at h3
  by_cases h8 : (tyAt P i).kind = 8
  · rw [if_pos h8] at h1 h3
    have hf := hij.flat h.tw HW
    rw [hf.2.1] at h3
    cases ha : atN N (tyAt P i).name with
    | none => rw [ha] at h1; cases h1
    | some m =>
      rw [ha] at h1 h3
      obtain ⟨hm, _⟩ := atN_some ha
      obtain ⟨u, hu1, hu2⟩ := at_und h.ut hm
      simp only at h1 h3
      rw [Gt default hm, hu1] at h1 h3
      obtain ⟨t2, q1, q2, e⟩ := subR_two h.tw (EqI.base HW HW) hf.2.2.2 h1 h3
      exact ⟨⟨t2, h.ut, r1, r2⟩, q1, q2, e⟩
  rw [if_neg h8] at h1 h3
  injection h1 with h1; injection h1 with e1 e2
  injection h3 with h3; injection h3 with e3 e4
  subst e1 e2 e3 e4
  exact ⟨h, p1, p2, hij⟩
theorem turn_two (h : TwoU T P Q N) {kids kids2 : List Int} (hab : All2 (EqI T P Q) kids kids2) {ms : List Mth} (hm : ∀ m ∈ ms, 0 ≤ m.sig ∧ m.sig < T.length) : ∀ q, q ≤ ms.length → ∀ P2 Q2 o o2, turnR kids ms P q = .ok (P2, o) → turnR kids2 ms Q q = .ok (Q2, o2) → TwoU T P2 Q2 N ∧ P <+: P2 ∧ Q <+: Q2 ∧ All2 (MthR T P2 Q2) o o2
  | 0, _, P2, Q2, o, o2, h1, h3 => by
    injection h1 with h1; injection h1 with e1 e2
    injection h3 with h3; injection h3 with e3 e4
    subst e1 e2 e3 e4
    exact ⟨h, List.prefix_rfl, List.prefix_rfl, trivial⟩
  | q + 1, hq, P2, Q2, o, o2, h1, h3 => by
    have lp := h.tw.tp.length_le
    have lq := h.tw.tq.length_le
    have a1 := turnR_ok h.up (fun m hm2 => by have := hm m hm2; omega) _ hq _ _ h1
    have a2 := turnR_ok h.uq (fun m hm2 => by have := hm m hm2; omega) _ hq _ _ h3
    unfold turnR at h1 h3
    cases x1 : turnR kids ms P q with
    | error e => unfold turnR at x1; rw [stepsN, x1] at h1; cases h1
    | ok y1 =>
      cases x3 : turnR kids2 ms Q q with
      | error e => unfold turnR at x3; rw [stepsN, x3] at h3; cases h3
      | ok y3 =>
        obtain ⟨P3, o3⟩ := y1
        obtain ⟨Q3, o4⟩ := y3
        obtain ⟨t, p1, p2, hall⟩ := turn_two h hab hm q HW P3 Q3 o3 o4 x1 x3
        unfold turnR at x1 x3
        rw [stepsN_ok x1] at h1
        rw [stepsN_ok x3] at h3
        simp only at h1 h3
        have hql : q < ms.length := by omega
        rw [Gt default hql] at h1 h3
        have hs := hm _ (List.getElem_mem hql)
        split at h1
        · cases h1
        rename_i s1 hs1
        split at h3
        · cases h3
        rename_i s3 hs3
        injection h1 with h1; injection h1 with e1 e2
        injection h3 with h3; injection h3 with e3 e4
        subst e1 e2 e3 e4
        obtain ⟨t2, q1, q2, e⟩ := subR_two t.tw (EqI.base hs.1 hs.2) (hab.imp fun a b z => z.mono h.tw p1 p2) hs1 hs3
        exact ⟨⟨t2, h.ut, a1.1, a2.1⟩, p1.trans q1, p2.trans q2, (hall.imp fun a b z => z.mono t.tw q1 q2).snoc ⟨rfl, rfl, e⟩⟩
theorem own_two (h : TwoU T P Q N) (hij : EqI T P Q i j) {o o2 : List Mth} (h1 : ownR P N i = .ok (P2, o)) (h3 : ownR Q N j = .ok (Q2, o2)) : TwoU T P2 Q2 N ∧ P <+: P2 ∧ Q <+: Q2 ∧ All2 (MthR T P2 Q2) o o2 := by
  have hk := hij.kind h.tw
  unfold ownR at h1 h3
  rw [hk] at h3
  by_cases h7 : (tyAt P i).kind = 7
  · rw [if_pos h7] at h1 h3
    injection h1 with h1; injection h1 with e1 e2
    injection h3 with h3; injection h3 with e3 e4
    subst e1 e2 e3 e4
    exact ⟨h, List.prefix_rfl, List.prefix_rfl, ownZ_two (decl_two h.tw hij h7)⟩
  rw [if_neg h7] at h1 h3
  by_cases h8 : (tyAt P i).kind = 8
  · rw [if_pos h8] at h1 h3
    have hf := hij.flat h.tw HW
    rw [hf.2.1] at h3
    cases ha : atN N (tyAt P i).name with
    | none => rw [ha] at h1; cases h1
    | some m =>
      rw [ha] at h1 h3
      obtain ⟨hm, _⟩ := atN_some ha
      simp only at h1 h3
      rw [Gt default hm] at h1 h3
      refine turn_two h hf.2.2.2 (fun x hx => ?_) _ (Nat.le_refl _) _ _ _ _ h1 h3
      obtain ⟨n, hn, rfl⟩ := List.getElem_of_mem hx
      obtain ⟨_, ⟨s1, s2, _⟩, _⟩ := (h.ut.2.2.1 m hm).1.2.2.2.2.1 n hn
      exact ⟨s1, s2⟩
  rw [if_neg h8] at h1 h3
  injection h1 with h1; injection h1 with e1 e2
  injection h3 with h3; injection h3 with e3 e4
  subst e1 e2 e3 e4
  exact ⟨h, List.prefix_rfl, List.prefix_rfl, trivial⟩
def WhtR (T P Q : List Ty) (x y : Wht) : Prop := EqI T P Q x.under y.under ∧ All2 (MthR T P Q) x.ms y.ms
theorem WhtR.mono (h2 : Two T P Q) (hp : P <+: P2) (hq : Q <+: Q2) {x y : Wht} (h : WhtR T P Q x y) : WhtR T P2 Q2 x y := ⟨h.1.mono h2 hp hq, h.2.imp fun _ _ z => z.mono h2 hp hq⟩
theorem look_two (h : TwoU T P Q N) (hij : EqI T P Q i j) {o o2 : Wht} (h1 : lookR P N i = .ok (P2, o)) (h3 : lookR Q N j = .ok (Q2, o2)) : TwoU T P2 Q2 N ∧ P <+: P2 ∧ Q <+: Q2 ∧ WhtR T P2 Q2 o o2 := by
  unfold lookR at h1 h3
  cases x1 : undR P N i with
  | error e => rw [x1] at h1; cases h1
  | ok y1 =>
    cases x3 : undR Q N j with
    | error e => rw [x3] at h3; cases h3
    | ok y3 =>
      obtain ⟨P3, k⟩ := y1
      obtain ⟨Q3, l⟩ := y3
      obtain ⟨t, p1, p2, e⟩ := und_two h hij x1 x3
      rw [x1] at h1
      rw [x3] at h3
      simp only at h1 h3
      rw [e.kind t.tw] at h3
      have hij2 : EqI T P3 Q3 (if (tyAt P3 k).kind = 7 then k else i) (if (tyAt P3 k).kind = 7 then l else j) := by
        split
        · exact e
        exact hij.mono h.tw p1 p2
      split at h1
      · cases h1
      rename_i s1 hs1
      split at h3
      · cases h3
      rename_i s3 hs3
      injection h1 with h1; injection h1 with e1 e2
      injection h3 with h3; injection h3 with e3 e4
      subst e1 e2 e3 e4
      obtain ⟨t2, q1, q2, hm⟩ := own_two t hij2 hs1 hs3
      exact ⟨t2, p1.trans q1, p2.trans q2, e.mono t.tw q1 q2, hm⟩
def fineE (e : Int) : Prop := e ≠ 1 ∧ e ≠ 8 ∧ e ≠ 9
theorem put_errs {out : List Ty} {ins : List Int} {t : Ty} (hr : rightP out) {e : Int} (h : putS out ins t = .error e) : e = 1 ∨ e = 7 ∨ e = 11 := by
  obtain ⟨m, i, e2, hP⟩ := add_has out (normT out.length t)
  rw [put_add rfl hr hP] at h
  split at h
  · injection h with h; omega
  split at h
  · cases h
  injection h with h
  subst h
  rcases hP with ⟨q, hq, h1, h2, h3, h4⟩ | ⟨n, ⟨h1, h2, _, h4⟩ | ⟨_, _, h2, _, h4⟩ | ⟨_, hl, h2, h3, h4⟩⟩ <;> omega
theorem sub_errs {l : List Ty} {args : List Int} {i : Nat} (hr : rightP l) (hi : i < l.length) (hgood : ∀ a ∈ args, 0 ≤ a ∧ a < l.length) (hlen : (asksL (l.take (i + 1))).getD i 0 ≤ args.length) {e : Int} : ∀ q, q ≤ i + 1 → subN l args (asksL (l.take (i + 1))) (partsL l i) q = .error e → e = 1 ∨ e = 7 ∨ e = 11
  | 0, _, h => by cases h
  | q + 1, hq, h => by
    cases hs : subN l args (asksL (l.take (i + 1))) (partsL l i) q with
    | error e2 =>
      rw [subN, hs] at h
      injection h with h
      subst h
      exact sub_errs hr hi hgood hlen q HW hs
    | ok x =>
      obtain ⟨out, ins⟩ := x
      obtain ⟨hso, _⟩ := sub_sound hr hi hgood hlen q HW out ins hs
      rw [subN, hs] at h
      simp only [stepS] at h
      split at h
      · cases h
      split at h
      · cases h
      exact put_errs hso.right h
theorem subR_fine {l : List Ty} {args : List Int} {i : Nat} (hr : rightP l) (hi : i < l.length) (hb : ¬ badArgs l i args) {e : Int} (h : subR l i args = .error e) : fineE e := by
  have h1 := subR_not1 hr hi hb h
  obtain ⟨hgood, hlen⟩ := good_args hb
  cases hs : subN l args (asksL (l.take (i + 1))) (partsL l i) (i + 1) with
  | error e2 =>
    rw [HQ hb (Nat.le_refl _) hs] at h
    injection h with h
    subst h
    have := sub_errs hr hi hgood hlen (i + 1) (Nat.le_refl _) hs
    exact ⟨h1, by omega, by omega⟩
  | ok x => obtain ⟨out, ins⟩ := x; rw [subR_ok hb hs] at h; cases h
theorem und_fine {T : List Ty} (hu : rightU T N) (h0 : 0 ≤ i) (hi : i < T.length) {e : Int} (h : undR T N i = .error e) : fineE e := by
  obtain ⟨hn, et⟩ := GQ h0 hi
  unfold undR at h
  rw [et] at h
  split at h
  · rename_i h8
    obtain ⟨m, ha, hb⟩ := hu.2.2.2 _ (List.getElem_mem hn) h8
    rw [ha] at h
    obtain ⟨hm, _⟩ := atN_some ha
    obtain ⟨u, hu1, hu2⟩ := at_und hu hm
    simp only at h
    rw [Gt default hm, hu1, Int.toNat_natCast] at h
    have hask := (hu.2.2.1 m hm).1.2.2.1.1.2.2
    rw [hu1, Int.toNat_natCast] at hask
    exact subR_fine hu.1 hu2 (args_good hu List.prefix_rfl hn h8 hm ha hu2 hask) h
  cases h
theorem turn_fine {T M : List Ty} (hu : rightU T N) (hM : rightU M N) (hp : T <+: M) {n : Nat} (hn : n < T.length) (h8 : T[n].kind = 8) {m : Nat} (hm : m < N.length) (ha : atN N T[n].name = some m) : ∀ q, q ≤ N[m].methods.length → ∀ e, turnR T[n].kids N[m].methods M q = .error e → fineE e := by
  have hsig : ∀ x ∈ N[m].methods, (0 ≤ x.sig ∧ x.sig < T.length) ∧ askAt T x.sig.toNat ≤ N[m].bounds.length := fun x hx => by
    obtain ⟨k, hk, rfl⟩ := List.getElem_of_mem hx
    obtain ⟨_, ⟨s1, s2, _⟩, ⟨_, _, s3⟩, _⟩ := (hu.2.2.1 m hm).1.2.2.2.2.1 k hk
    exact ⟨⟨s1, s2⟩, s3⟩
  have hpl := hp.length_le
  intro q
  induction q with
  | zero => intro _ e h; cases h
  | succ q ih =>
    intro hq e h
    cases hx : turnR T[n].kids N[m].methods M q with
    | error e2 =>
      have hx2 := hx
      unfold turnR at h hx2
      rw [stepsN, hx2] at h
      injection h with h
      subst h
      exact ih HW _ hx
    | ok y =>
      obtain ⟨o, out⟩ := y
      obtain ⟨r, p, _⟩ := turnR_ok hM (fun x hx => by have := (hsig x hx).1; omega) q HW _ _ hx
      unfold turnR at h hx
      rw [stepsN_ok hx] at h
      have hql : q < N[m].methods.length := by omega
      simp only at h
      rw [Gt default hql] at h
      have hs := hsig _ (List.getElem_mem hql)
      have hpl2 := p.length_le
      split at h
      · rename_i e2 hs2
        injection h with h
        subst h
        exact subR_fine r.1 HW (args_good hu (hp.trans p) hn h8 hm ha HW hs.2) hs2
      cases h
theorem own_fine {T : List Ty} (hu : rightU T N) (h0 : 0 ≤ i) (hi : i < T.length) {e : Int} (h : ownR T N i = .error e) : fineE e := by
  obtain ⟨hn, et⟩ := GQ h0 hi
  unfold ownR at h
  rw [et] at h
  split at h
  · cases h
  split at h
  · rename_i h8
    obtain ⟨m, ha, hb⟩ := hu.2.2.2 _ (List.getElem_mem hn) h8
    rw [ha] at h
    obtain ⟨hm, _⟩ := atN_some ha
    simp only at h
    rw [Gt default hm] at h
    exact turn_fine hu hu List.prefix_rfl hn h8 hm ha _ (Nat.le_refl _) _ h
  cases h
theorem look_fine {T : List Ty} (hu : rightU T N) (h0 : 0 ≤ i) (hi : i < T.length) {e : Int} (h : lookR T N i = .error e) : fineE e := by
  unfold lookR at h
  cases hx : undR T N i with
  | error e2 => rw [hx] at h; injection h with h; subst h; exact und_fine hu h0 hi hx
  | ok y =>
    obtain ⟨o, k⟩ := y
    obtain ⟨r, p, k0, k1⟩ := undR_ok hu h0 hi hx
    have := p.length_le
    rw [hx] at h
    simp only at h
    split at h
    · rename_i e2 hs
      injection h with h
      subst h
      exact own_fine r (by split <;> omega) (by split <;> omega) hs
    cases h
end
end Go.Sy
namespace Go.Sy
open Go Go.Proofs
def markB (w : List UInt8) : Bool := w == [61] || w == [126]
def trmN (t : Ty) : Nat → List Tm
  | 0 => []
  | k + 1 => trmN t k ++ if markB (t.words.getD k []) = true then [(t.words.getD k [], t.kids.getD k 0)] else []
def trmL (t : Ty) : List Tm := trmN t t.words.length
def noTy : Ty := ⟨0, [], 0, [], []⟩
def boundR (T : List Ty) (B : List Int) (t : Ty) : Option Ty := if t.kind = 9 ∧ t.n < B.length then some (tyAt T (B.getD t.n.toNat 0)) else none
def bndP (T : List Ty) (B : List Int) : Prop := B.length ≤ 16 ∧ ∀ b ∈ B, 0 ≤ b ∧ b < T.length ∧ (tyAt T b).kind = 7
theorem bndP.up {T M : List Ty} {B : List Int} (h : bndP T B) (hp : T <+: M) : bndP M B := ⟨h.1, fun b hb => by
  obtain ⟨h1, h2, h3⟩ := h.2 b hb
  have := hp.length_le
  exact ⟨h1, by omega, by rw [tyAt_pre hp h1 h2]; exact h3⟩⟩
def allR {σ α : Type} (f : σ → α → Except Int (Option σ)) : List α → σ → Except Int (Option σ)
  | [], s => .ok (some s)
  | x :: l, s => match f s x with
    | .error e => .error e
    | .ok none => .ok none
    | .ok (some s') => allR f l s'
theorem allR_snoc {σ α : Type} (f : σ → α → Except Int (Option σ)) : ∀ (l : List α) (s : σ) (x : α), allR f (l ++ [x]) s = match allR f l s with
    | .error e => .error e
    | .ok none => .ok none
    | .ok (some s') => f s' x
  | [], s, x => by
    simp only [List.nil_append, allR]
    cases f s x with
    | error e => rfl
    | ok o => cases o <;> rfl
  | y :: l, s, x => by
    simp only [List.cons_append, allR]
    cases f s y with
    | error e => rfl
    | ok o =>
      cases o with
      | none => rfl
      | some s' => exact allR_snoc f l s' x
section
variable {σ α : Type} {f : σ → α → Except Int (Option σ)} {l : List α} {s s' : σ} {q : Nat}
theorem all_step (hq : q < l.length) (h : allR f (l.take q) s = .ok (some s')) : allR f (l.take (q + 1)) s = f s' l[q] := by
  rw [List.take_succ_eq_append_getElem hq, allR_snoc, h]
theorem all_stop {r : Except Int (Option σ)} (hr : ∀ x, r ≠ .ok (some x)) : ∀ (l m : List α) (s : σ), allR f l s = r → allR f (l ++ m) s = r
  | [], m, s, h => absurd h (fun e => hr s e.symm)
  | y :: l, m, s, h => by
    simp only [List.cons_append, allR] at h ⊢
    cases hy : f s y with
    | error e => rw [hy] at h; exact h
    | ok o =>
      cases o with
      | none => rw [hy] at h; exact h
      | some s2 => rw [hy] at h; exact all_stop hr l m s2 h
theorem all_err (hq : q < l.length) (h : allR f (l.take q) s = .ok (some s')) {e : Int} (he : f s' l[q] = .error e) : allR f l s = .error e := by
  have := all_stop (r := .error e) (fun x h => by cases h) (l.take (q + 1)) (l.drop (q + 1)) s ((all_step hq h).trans he)
  rwa [List.take_append_drop] at this
theorem all_no (hq : q < l.length) (h : allR f (l.take q) s = .ok (some s')) (he : f s' l[q] = .ok none) : allR f l s = .ok none := by
  have := all_stop (r := .ok none) (fun x h => by cases h) (l.take (q + 1)) (l.drop (q + 1)) s ((all_step hq h).trans he)
  rwa [List.take_append_drop] at this
theorem all_inv (I : σ → Prop) : ∀ (l : List α) (s s' : σ), I s → (∀ x ∈ l, ∀ a b, I a → f a x = .ok (some b) → I b) → allR f l s = .ok (some s') → I s'
  | [], s, s', h, _, e => by injection e with e; injection e with e; exact e ▸ h
  | y :: l, s, s', h, hs, e => by
    simp only [allR] at e
    cases hy : f s y with
    | error e2 => rw [hy] at e; cases e
    | ok o =>
      rw [hy] at e
      cases o with
      | none => cases e
      | some s2 => exact all_inv I l s2 s' (hs y (.head _) s s2 h hy) (fun x hx => hs x (.tail _ hx)) e
end
noncomputable def cmpR (N : List Nmd) (B : List Int) : Nat → List Ty × List Int → Int → Except Int (Option (List Ty × List Int))
  | 0, s, _ => .ok (some s)
  | f + 1, (T, A), i =>
    if i ∈ A then .ok (some (T, A)) else match undR T N i with
    | .error e => .error e
    | .ok (T1, k) =>
      if (tyAt T1 k).kind = 0 ∨ (tyAt T1 k).kind = 1 ∨ (tyAt T1 k).kind = 7 then .ok (some (T1, i :: A))
      else if (tyAt T1 k).kind = 3 ∨ (tyAt T1 k).kind = 6 then allR (cmpR N B f) (tyAt T1 k).kids (T1, i :: A)
      else match boundR T1 B (tyAt T1 k) with
        | none => .ok none
        | some b => if b.n % 2 = 1 then .ok (some (T1, i :: A)) else if 2 ≤ b.n then allR (cmpR N B f) ((trmL b).map (·.2)) (T1, i :: A) else .ok none
structure CmpI (N : List Nmd) (T0 : List Ty) (n : Nat) (s : List Ty × List Int) : Prop where
  right : rightU s.1 N
  pre : T0 <+: s.1
  once : s.2.Nodup
  there : ∀ x ∈ s.2, 0 ≤ x ∧ x < s.1.length
  many : n ≤ s.2.length
theorem CmpI.fuel {N : List Nmd} {T0 : List Ty} {n : Nat} {s : List Ty × List Int} (h : CmpI N T0 n s) (hn : 400 ≤ n) {i : Int} (h0 : 0 ≤ i) (hi : i < s.1.length) : i ∈ s.2 := Classical.byContradiction fun hc => by
  have h4 := h.right.1.2.1
  have := nodup_len 400 (i :: s.2) (List.nodup_cons.2 ⟨hc, h.once⟩) (fun x hx => by
    rcases List.mem_cons.1 hx with e | hx
    · subst e; omega
    have := h.there x hx; omega)
  have := h.many
  simp at *; omega
theorem kids_there {T : List Ty} (hr : rightP T) {k : Int} (h0 : 0 ≤ k) (hk : k < T.length) : ∀ x ∈ (tyAt T k).kids, 0 ≤ x ∧ x < T.length := fun x hx => by
  obtain ⟨hn, e⟩ := GQ h0 hk
  rw [e] at hx
  have := (GL hr hn).kids x hx
  omega
theorem trmN_kids (t : Ty) : ∀ q, q ≤ t.words.length → t.words.length = t.kids.length → ∀ x ∈ trmN t q, x.2 ∈ t.kids
  | 0, _, _ => by simp [trmN]
  | q + 1, hq, hl => fun x hx => by
    simp only [trmN, List.mem_append] at hx
    rcases hx with hx | hx
    · exact trmN_kids t q HW hl x hx
    split at hx
    · have := List.mem_singleton.1 hx
      subst this
      simp only
      rw [Gt 0 HW]
      exact List.getElem_mem _
    cases hx
theorem trmN_len (t : Ty) : ∀ q, (trmN t q).length ≤ q
  | 0 => Nat.le_refl _
  | q + 1 => by
    have := trmN_len t q
    simp only [trmN, List.length_append]
    split <;> simp <;> omega
theorem trm_there {T : List Ty} (hr : rightP T) {k : Int} (h0 : 0 ≤ k) (hk : k < T.length) (h7 : (tyAt T k).kind = 7) : ∀ x ∈ trmL (tyAt T k), 0 ≤ x.2 ∧ x.2 < T.length := fun x hx => by
  obtain ⟨hn, e⟩ := GQ h0 hk
  have hl := (GL hr hn).iface (by rw [← e]; exact h7)
  rw [← e] at hl
  exact kids_there hr h0 hk _ (trmN_kids _ _ (Nat.le_refl _) hl x hx)
theorem bound_is {T : List Ty} {B : List Int} (hB : bndP T B) {t b : Ty} (hn : 0 ≤ t.n) (h : boundR T B t = some b) : ∃ k : Int, k ∈ B ∧ 0 ≤ k ∧ k < T.length ∧ b = tyAt T k ∧ b.kind = 7 ∧ B[t.n.toNat]? = some k := by
  unfold boundR at h
  split at h
  · rename_i hc
    injection h with h
    have hl : t.n.toNat < B.length := by omega
    rw [Gt 0 hl] at h
    obtain ⟨h1, h2, h3⟩ := hB.2 _ (List.getElem_mem hl)
    exact ⟨_, List.getElem_mem hl, h1, h2, h.symm, by rw [← h]; exact h3, List.getElem?_eq_getElem hl⟩
  cases h
theorem param_n {T : List Ty} (hr : rightP T) {k : Int} (h0 : 0 ≤ k) (hk : k < T.length) (h9 : (tyAt T k).kind = 9) : 0 ≤ (tyAt T k).n ∧ (tyAt T k).n < 16 := by
  obtain ⟨hn, e⟩ := GQ h0 hk
  rw [e] at h9 ⊢
  have := (GL hr hn).param h9
  exact ⟨this.1, this.2.1⟩
theorem cmpR_ok {N : List Nmd} {B : List Int} {T0 : List Ty} : ∀ (f : Nat) (n : Nat) (s s' : List Ty × List Int) (i : Int), CmpI N T0 n s → bndP s.1 B → 0 ≤ i → i < s.1.length → cmpR N B f s i = .ok (some s') → CmpI N T0 n s' ∧ s.1 <+: s'.1 ∧ s.2.length ≤ s'.2.length
  | 0, n, s, s', i, h, _, _, _, e => by injection e with e; injection e with e; exact e ▸ ⟨h, List.prefix_rfl, Nat.le_refl _⟩
  | f + 1, n, (T, A), s', i, h, hB, h0, hi, e => by
    simp only [cmpR] at e
    by_cases c : i ∈ A
    · rw [if_pos c] at e; injection e with e; injection e with e; exact e ▸ ⟨h, List.prefix_rfl, Nat.le_refl _⟩
    rw [if_neg c] at e
    cases hx : undR T N i with
    | error e2 => rw [hx] at e; cases e
    | ok y =>
      obtain ⟨T1, k⟩ := y
      rw [hx] at e
      simp only at e
      obtain ⟨u1, u2, u3, u4⟩ := undR_ok h.right h0 hi hx
      replace u2 : T <+: T1 := u2
      have hl : T.length ≤ T1.length := u2.length_le
      have hi2 : i < (T.length : Int) := hi
      have ht2 : ∀ x ∈ A, 0 ≤ x ∧ x < (T.length : Int) := h.there
      have hI : CmpI N T0 n (T1, i :: A) := ⟨u1, h.pre.trans u2, List.nodup_cons.2 ⟨c, h.once⟩, fun x hx => by
        rcases List.mem_cons.1 hx with e | hx
        · subst e; exact ⟨h0, by simp only; omega⟩
        have := ht2 x hx; exact ⟨this.1, by simp only; omega⟩, by have := h.many; simp only [List.length_cons] at this ⊢; omega⟩
      have key : ∀ l : List Int, (∀ x ∈ l, 0 ≤ x ∧ x < T1.length) → allR (cmpR N B f) l (T1, i :: A) = .ok (some s') → CmpI N T0 n s' ∧ T <+: s'.1 ∧ A.length ≤ s'.2.length := fun l hl2 e => by
        have := all_inv (f := cmpR N B f) (fun s => CmpI N T0 n s ∧ T1 <+: s.1 ∧ (i :: A).length ≤ s.2.length) l (T1, i :: A) s' ⟨hI, List.prefix_rfl, Nat.le_refl _⟩ (fun x hx a b ha hab => by
          obtain ⟨a1, a2, a3⟩ := ha
          have hx2 := hl2 x hx
          have := a2.length_le
          obtain ⟨b1, b2, b3⟩ := cmpR_ok f n a b x a1 (hB.up (u2.trans a2)) hx2.1 HW hab
          exact ⟨b1, a2.trans b2, by omega⟩) e
        exact ⟨this.1, u2.trans this.2.1, by have := this.2.2; simp only [List.length_cons] at this; omega⟩
      have fin : ∀ x, (Except.ok (some (T1, i :: A)) : Except Int (Option (List Ty × List Int))) = .ok (some x) → CmpI N T0 n x ∧ T <+: x.1 ∧ A.length ≤ x.2.length := fun x e => by
        injection e with e; injection e with e
        subst e
        exact ⟨hI, u2, by simp⟩
      split at e
      · exact fin _ e
      split at e
      · exact key _ (kids_there u1.1 u3 u4) e
      split at e
      · cases e
      rename_i hb
      split at e
      · exact fin _ e
      split at e
      · by_cases h9 : (tyAt T1 k).kind = 9
        · obtain ⟨k2, _, k3, k4, rfl, k5, _⟩ := bound_is (hB.up u2) (param_n u1.1 u3 u4 h9).1 hb
          refine key _ (fun x hx => ?_) e
          obtain ⟨z, hz, rfl⟩ := List.mem_map.1 hx
          exact trm_there u1.1 k3 k4 k5 z hz
        unfold boundR at hb
        rw [if_neg (fun h => h9 h.1)] at hb; cases hb
      cases e
noncomputable def withinR (N : List Nmd) (T : List Ty) (x : Tm) (l : List Tm) : Except Int (Option (List Ty)) :=
  if x ∈ l then .ok (some T) else if x.1 = [126] then .ok none else match undR T N x.2 with
  | .error e => .error e
  | .ok (T1, k) => if (([126] : List UInt8), k) ∈ l then .ok (some T1) else .ok none
theorem within_ok {N : List Nmd} {T : List Ty} (hu : rightU T N) {x : Tm} {l : List Tm} (h0 : 0 ≤ x.2) (hx : x.2 < T.length) {T' : List Ty} (h : withinR N T x l = .ok (some T')) : rightU T' N ∧ T <+: T' := by
  unfold withinR at h
  split at h
  · injection h with h; injection h with h; subst h; exact ⟨hu, List.prefix_rfl⟩
  split at h
  · cases h
  split at h
  · cases h
  rename_i hy
  split at h
  · injection h with h; injection h with h; subst h
    obtain ⟨h1, h2, _⟩ := undR_ok hu h0 hx hy
    exact ⟨h1, h2⟩
  cases h
noncomputable def insideR (N : List Nmd) (B : List Int) (T : List Ty) (i : Int) (l : List Tm) : Except Int (Option (List Ty)) :=
  if (tyAt T i).kind = 9 then
    if 2 ≤ ((boundR T B (tyAt T i)).getD noTy).n then allR (fun T x => withinR N T x l) (trmL ((boundR T B (tyAt T i)).getD noTy)) T else .ok none
  else match undR T N i with
    | .error e => .error e
    | .ok (T1, k) => if (tyAt T1 k).kind = 7 then .ok none else withinR N T1 (([61] : List UInt8), i) l
def kidOf (b : Ty) (w : List UInt8) : Option Int := (b.words.idxOf? w).map fun k => b.kids.getD k 0
noncomputable def methR (N : List Nmd) (B : List Int) (T : List Ty) (i : Int) (w : List UInt8) (g : Int) : Except Int Bool :=
  if (tyAt T i).kind = 9 then .ok (kidOf ((boundR T B (tyAt T i)).getD noTy) w == some g)
  else if w = [95] then .ok false
  else match findR N T i w with
    | .ok (_, x) => .ok (x.method && decide (x.typ = g) && (!x.ptr || x.via))
    | .error e => if e = 1 ∨ e = 8 ∨ e = 9 then .ok false else .error e
noncomputable def wordsR (N : List Nmd) (B : List Int) (T : List Ty) (i : Int) (t : Ty) : Nat → Except Int Bool
  | 0 => .ok true
  | q + 1 => match wordsR N B T i t q with
    | .error e => .error e
    | .ok false => .ok false
    | .ok true => if isName (t.words.getD q []) = true then methR N B T i (t.words.getD q []) (t.kids.getD q 0) else .ok true
noncomputable def isR (N : List Nmd) (B : List Int) (T : List Ty) (i c : Int) : Except Int Bool :=
  match wordsR N B T i (tyAt T c) (tyAt T c).words.length with
  | .error e => .error e
  | .ok false => .ok false
  | .ok true => match (if 2 ≤ (tyAt T c).n then insideR N B T i (trmL (tyAt T c)) else .ok (some T)) with
    | .error e => .error e
    | .ok none => .ok false
    | .ok (some T1) => if (tyAt T c).n % 2 = 1 then match cmpR N B 400 (T1, []) i with
      | .error e => .error e
      | .ok none => .ok false
      | .ok (some _) => .ok true
    else .ok true
end Go.Sy
namespace Go.Sy
open Go Go.Proofs
def EntR (T P Q : List Ty) (x y : Ent) : Prop := EqI T P Q x.typ y.typ ∧ x.via = y.via ∧ x.many = y.many ∧ x.path = y.path
def SelR (T P Q : List Ty) (x y : SelV) : Prop := EqI T P Q x.typ y.typ ∧ x.method = y.method ∧ x.ptr = y.ptr ∧ x.via = y.via ∧ x.path = y.path
section
variable {T P Q P2 Q2 : List Ty} {N : List Nmd} {i j k l : Int}
theorem EntR.mono (h2 : Two T P Q) (hp : P <+: P2) (hq : Q <+: Q2) {x y : Ent} (h : EntR T P Q x y) : EntR T P2 Q2 x y := ⟨h.1.mono h2 hp hq, h.2⟩
theorem looks_two (h : TwoU T P Q N) {lev lev2 : List Ent} (hl : All2 (EntR T P Q) lev lev2) : ∀ q, q ≤ lev.length → ∀ P2 Q2 o o2, looksR N P lev q = .ok (P2, o) → looksR N Q lev2 q = .ok (Q2, o2) → TwoU T P2 Q2 N ∧ P <+: P2 ∧ Q <+: Q2 ∧ All2 (WhtR T P2 Q2) o o2
  | 0, _, P2, Q2, o, o2, h1, h3 => by
    injection h1 with h1; injection h1 with e1 e2
    injection h3 with h3; injection h3 with e3 e4
    subst e1 e2 e3 e4
    exact ⟨h, List.prefix_rfl, List.prefix_rfl, trivial⟩
  | q + 1, hq, P2, Q2, o, o2, h1, h3 => by
    have hle := hl.len
    unfold looksR at h1 h3
    cases x1 : looksR N P lev q with
    | error e => unfold looksR at x1; rw [stepsN, x1] at h1; cases h1
    | ok y1 =>
      cases x3 : looksR N Q lev2 q with
      | error e => unfold looksR at x3; rw [stepsN, x3] at h3; cases h3
      | ok y3 =>
        obtain ⟨P3, o3⟩ := y1
        obtain ⟨Q3, o4⟩ := y3
        obtain ⟨t, p1, p2, hall⟩ := looks_two h hl q HW P3 Q3 o3 o4 x1 x3
        unfold looksR at x1 x3
        rw [stepsN_ok x1] at h1
        rw [stepsN_ok x3] at h3
        simp only at h1 h3
        have hql : q < lev.length := by omega
        have hql2 : q < lev2.length := by omega
        rw [Gt default hql] at h1
        rw [Gt default hql2] at h3
        have hs := hl.get q hql hql2
        split at h1
        · cases h1
        rename_i s1 hs1
        split at h3
        · cases h3
        rename_i s3 hs3
        injection h1 with h1; injection h1 with e1 e2
        injection h3 with h3; injection h3 with e3 e4
        subst e1 e2 e3 e4
        obtain ⟨t2, q1, q2, e⟩ := look_two t (hs.1.mono h.tw p1 p2) hs1 hs3
        exact ⟨t2, p1.trans q1, p2.trans q2, (hall.imp fun a b z => z.mono t.tw q1 q2).snoc e⟩
theorem kid_two (h2 : Two T P Q) (hij : EqI T P Q i j) (h1 : (tyAt P i).kind = 1) : EqI T P Q ((tyAt P i).kids.getD 0 0) ((tyAt Q j).kids.getD 0 0) := by
  obtain ⟨hp, hq, e1, e2⟩ := hij.get h2
  have hf := (hij.flat h2 HW).2.2.2
  have hl : (tyAt P i).kids.length = 1 := by rw [e1] at h1 ⊢; exact ptr_of h2.rp hp h1
  have hl2 := hf.len
  rw [Gt 0 (show 0 < (tyAt P i).kids.length by omega), Gt 0 (show 0 < (tyAt Q j).kids.length by omega)]
  exact hf.get 0 HW HW
theorem first_two (h : TwoU T P Q N) (hij : EqI T P Q i j) {o o2 : List Ent} (h1 : firstR P N i = .ok (P2, o)) (h3 : firstR Q N j = .ok (Q2, o2)) : TwoU T P2 Q2 N ∧ P <+: P2 ∧ Q <+: Q2 ∧ All2 (EntR T P2 Q2) o o2 := by
  unfold firstR at h1 h3
  rw [hij.kind h.tw] at h3
  by_cases c : (tyAt P i).kind = 1
  · rw [if_pos c] at h1 h3
    have hk := kid_two h.tw hij c
    split at h1
    · cases h1
    rename_i P3 k hx1
    split at h3
    · cases h3
    rename_i Q3 l hx3
    obtain ⟨t, p1, p2, e⟩ := und_two h hk hx1 hx3
    rw [e.kind t.tw] at h3
    split at h1
    · rename_i c1
      rw [if_pos c1] at h3
      injection h1 with h1; injection h1 with e1 e2
      injection h3 with h3; injection h3 with e3 e4
      subst e1 e2 e3 e4
      exact ⟨h, List.prefix_rfl, List.prefix_rfl, trivial⟩
    rename_i c1
    rw [if_neg c1] at h3
    injection h1 with h1; injection h1 with e1 e2
    injection h3 with h3; injection h3 with e3 e4
    subst e1 e2 e3 e4
    exact ⟨t, p1, p2, ⟨hk.mono h.tw p1 p2, rfl, rfl, rfl⟩, trivial⟩
  rw [if_neg c] at h1 h3
  injection h1 with h1; injection h1 with e1 e2
  injection h3 with h3; injection h3 with e3 e4
  subst e1 e2 e3 e4
  exact ⟨h, List.prefix_rfl, List.prefix_rfl, ⟨hij, rfl, rfl, rfl⟩, trivial⟩
theorem mem_two (h2 : Two T P Q) {a b : List Int} (hab : All2 (EqI T P Q) a b) (hij : EqI T P Q i j) : i ∈ a ↔ j ∈ b := by
  constructor
  · intro h
    obtain ⟨y, hy, e⟩ := hab.mem h
    rw [hij.one h2 e]; exact hy
  intro h
  obtain ⟨y, hy, e⟩ := hab.mem' h
  rw [hij.inj h2 e]; exact hy
theorem typs_two {o o2 : List Ent} (h : All2 (EntR T P Q) o o2) : All2 (EqI T P Q) (typs o) (typs o2) := All2.map (fun _ _ h => h.1) h
theorem addE_two (h2 : Two T P Q) {o o2 : List Ent} (ho : All2 (EntR T P Q) o o2) {s s2 : List Int} (hs : All2 (EqI T P Q) s s2) {x y : Ent} (hxy : EntR T P Q x y) : All2 (EntR T P Q) (addE o s x) (addE o2 s2 y) := by
  have m1 := mem_two h2 (typs_two ho) hxy.1
  have m2 := mem_two h2 hs hxy.1
  unfold addE
  by_cases c : x.typ ∈ typs o
  · rw [if_pos c, if_pos (m1.1 c)]
    refine All2.map (fun a b h => ?_) ho
    unfold manyE
    by_cases c2 : a.typ = x.typ
    · have c3 : b.typ = y.typ := EqI.one h2 (c2 ▸ h.1) hxy.1
      rw [if_pos c2, if_pos c3]
      exact ⟨h.1, h.2.1, rfl, h.2.2.2⟩
    have c3 : b.typ ≠ y.typ := fun e => c2 (EqI.inj h2 (e ▸ h.1) hxy.1)
    rw [if_neg c2, if_neg c3]
    exact h
  rw [if_neg c, if_neg (fun h => c (m1.2 h))]
  by_cases c2 : x.typ ∈ s
  · rw [if_pos c2, if_pos (m2.1 c2)]; exact ho
  rw [if_neg c2, if_neg (fun h => c2 (m2.2 h))]; exact ho.snoc hxy
theorem entE_two (h2 : Two T P Q) {e e2 : Ent} (he : EntR T P Q e e2) {t t2 : Ty} (hk : All2 (EqI T P Q) t.kids t2.kids) {n : Nat} (hn : n < t.kids.length) : EntR T P Q (entE P e t n) (entE Q e2 t2 n) := by
  have hn2 : n < t2.kids.length := hk.len ▸ hn
  have hkn := hk.get n hn hn2
  unfold entE
  rw [Gt 0 hn, Gt 0 hn2, hkn.kind h2, ← he.2.2.2]
  split
  · rename_i c
    exact ⟨kid_two h2 hkn c, rfl, he.2.2.1, rfl⟩
  exact ⟨hkn, he.2.1, he.2.2.1, rfl⟩
theorem inner_two (h2 : Two T P Q) {e e2 : Ent} (he : EntR T P Q e e2) {t t2 : Ty} (hw : t2.words = t.words) (hk : All2 (EqI T P Q) t.kids t2.kids) {s s2 : List Int} (hs : All2 (EqI T P Q) s s2) {o o2 : List Ent} (ho : All2 (EntR T P Q) o o2) : ∀ n, n ≤ t.kids.length → All2 (EntR T P Q) (innerN P e t s o n) (innerN Q e2 t2 s2 o2 n)
  | 0, _ => ho
  | n + 1, hn => by
    unfold innerN
    rw [hw]
    split
    · exact addE_two h2 (inner_two h2 he hw hk hs ho n HW) hs (entE_two h2 he hk HW)
    exact inner_two h2 he hw hk hs ho n HW
theorem outer_two (h2 : Two T P Q) {lev lev2 : List Ent} (hl : All2 (EntR T P Q) lev lev2) {ws ws2 : List Wht} (hw : All2 (WhtR T P Q) ws ws2) (hlw : ws.length = lev.length) {s s2 : List Int} (hs : All2 (EqI T P Q) s s2) : ∀ q, q ≤ lev.length → All2 (EntR T P Q) (outerN P lev ws s q) (outerN Q lev2 ws2 s2 q)
  | 0, _ => trivial
  | q + 1, hq => by
    have l1 := hl.len
    have l2 := hw.len
    unfold outerN
    rw [Gt default (show q < ws.length by omega), Gt default (show q < ws2.length by omega), Gt default (show q < lev.length by omega), Gt default (show q < lev2.length by omega)]
    have hwq := hw.get q HW HW
    rw [hwq.1.kind h2]
    have ih := outer_two h2 hl hw hlw hs q HW
    split
    · rename_i c
      have hf := hwq.1.flat h2 HW
      obtain ⟨hp, _, e1, _⟩ := hwq.1.get h2
      have hst : (tyAt P ws[q].under).words.length = (tyAt P ws[q].under).kids.length := by rw [e1] at c ⊢; exact (struct_of h2.rp hp c).1
      rw [hf.1]
      exact inner_two h2 (hl.get q HW HW) hf.1 hf.2.2.2 hs ih _ HW
    exact ih
theorem hadM_two {w w2 : Wht} (hw : WhtR T P Q w w2) {e e2 : Ent} (he : EntR T P Q e e2) {s : List UInt8} : ∀ k, k ≤ w.ms.length → All2 (SelR T P Q) (hadM w e s k) (hadM w2 e2 s k)
  | 0, _ => trivial
  | k + 1, hk => by
    have hl := hw.2.len
    unfold hadM
    rw [Gt default (show k < w.ms.length by omega), Gt default (show k < w2.ms.length by omega)]
    have hm := hw.2.get k HW HW
    rw [← hm.1]
    have ih := hadM_two hw he (s := s) k HW
    split
    · exact ih.snoc ⟨hm.2.2, rfl, hm.2.1, he.2.1, he.2.2.2⟩
    exact ih
theorem hadF_two {t t2 : Ty} (hw : t2.words = t.words) (hk : All2 (EqI T P Q) t.kids t2.kids) {e e2 : Ent} (he : EntR T P Q e e2) {s : List UInt8} {o o2 : List SelV} (ho : All2 (SelR T P Q) o o2) : ∀ k, k ≤ t.kids.length → All2 (SelR T P Q) (hadF t e s o k) (hadF t2 e2 s o2 k)
  | 0, _ => ho
  | k + 1, hkk => by
    have hl := hk.len
    unfold hadF
    rw [hw, Gt 0 (show k < t.kids.length by omega), Gt 0 (show k < t2.kids.length by omega), ← he.2.2.2]
    have ih := hadF_two hw hk he (s := s) ho k HW
    split
    · exact ih.snoc ⟨hk.get k HW HW, rfl, rfl, he.2.1, rfl⟩
    exact ih
theorem had1_two (h2 : Two T P Q) {w w2 : Wht} (hw : WhtR T P Q w w2) {e e2 : Ent} (he : EntR T P Q e e2) {s : List UInt8} {o o2 : List SelV} (ho : All2 (SelR T P Q) o o2) : All2 (SelR T P Q) (had1 P w e s o) (had1 Q w2 e2 s o2) := by
  have hm := All2.app ho (hadM_two hw he (s := s) w.ms.length (Nat.le_refl _))
  unfold had1
  simp only
  rw [hw.1.kind h2, ← hw.2.len]
  split
  · rename_i c
    have hf := hw.1.flat h2 HW
    obtain ⟨hp, _, e1, _⟩ := hw.1.get h2
    have hst : (tyAt P w.under).words.length = (tyAt P w.under).kids.length := by rw [e1] at c ⊢; exact (struct_of h2.rp hp c).1
    rw [hf.1]
    exact hadF_two hf.1 hf.2.2.2 he hm _ HW
  exact hm
theorem found_two (h2 : Two T P Q) {lev lev2 : List Ent} (hl : All2 (EntR T P Q) lev lev2) {ws ws2 : List Wht} (hw : All2 (WhtR T P Q) ws ws2) (hlw : ws.length = lev.length) {s : List UInt8} : ∀ q, q ≤ lev.length → All2 (SelR T P Q) (foundN P lev ws s q) (foundN Q lev2 ws2 s q)
  | 0, _ => trivial
  | q + 1, hq => by
    have l1 := hl.len
    have l2 := hw.len
    unfold foundN
    rw [Gt default (show q < ws.length by omega), Gt default (show q < ws2.length by omega), Gt default (show q < lev.length by omega), Gt default (show q < lev2.length by omega)]
    have hwq := hw.get q HW HW
    have heq := hl.get q HW HW
    have h1 := had1_two h2 hwq heq (s := s) (o := []) (o2 := []) trivial
    refine All2.app (found_two h2 hl hw hlw q HW) ?_
    unfold hadE
    rw [← heq.2.2.1]
    split
    · exact All2.app h1 h1
    exact h1
theorem run_two (s : List UInt8) : ∀ (n : Nat) (P Q : List Ty) (lev lev2 : List Ent) (seen seen2 : List Int), TwoU T P Q N → All2 (EntR T P Q) lev lev2 → All2 (EqI T P Q) seen seen2 → ∀ P2 Q2 a b, runL N (stpF s) List.isEmpty n P lev seen [] = (a, .ok P2) → runL N (stpF s) List.isEmpty n Q lev2 seen2 [] = (b, .ok Q2) → TwoU T P2 Q2 N ∧ P <+: P2 ∧ Q <+: Q2 ∧ All2 (SelR T P2 Q2) a b
  | 0, P, Q, _, _, _, _, h, _, _, P2, Q2, a, b, h1, h3 => by
    simp only [runL, Prod.mk.injEq, Except.ok.injEq] at h1 h3
    obtain ⟨rfl, rfl⟩ := h1
    obtain ⟨rfl, rfl⟩ := h3
    exact ⟨h, List.prefix_rfl, List.prefix_rfl, trivial⟩
  | n + 1, P, Q, lev, lev2, seen, seen2, h, hl, hs, P2, Q2, a, b, h1, h3 => by
    have hle := hl.len
    unfold runL at h1 h3
    cases x1 : looksR N P lev lev.length with
    | error e => rw [x1] at h1; simp at h1
    | ok y1 =>
      cases x3 : looksR N Q lev2 lev2.length with
      | error e => rw [x3] at h3; simp at h3
      | ok y3 =>
        obtain ⟨P3, ws⟩ := y1
        obtain ⟨Q3, ws2⟩ := y3
        rw [x1] at h1
        rw [x3] at h3
        simp only at h1 h3
        rw [← hle] at x3
        obtain ⟨t, p1, p2, hws⟩ := looks_two h hl _ (Nat.le_refl _) _ _ _ _ x1 x3
        by_cases c : lev = []
        · have c2 : lev2 = [] := List.eq_nil_of_length_eq_zero (by rw [← hle, c]; rfl)
          rw [if_pos c] at h1
          rw [if_pos c2] at h3
          simp only [Prod.mk.injEq, Except.ok.injEq] at h1 h3
          obtain ⟨rfl, rfl⟩ := h1
          obtain ⟨rfl, rfl⟩ := h3
          exact ⟨t, p1, p2, trivial⟩
        have c2 : lev2 ≠ [] := fun e => c (List.eq_nil_of_length_eq_zero (by rw [hle, e]; rfl))
        rw [if_neg c] at h1
        rw [if_neg c2] at h3
        have hl2 := hl.imp fun a b z => z.mono h.tw p1 p2
        have hwl : ws.length = lev.length := by
          have := stepsN_inv (s := ((P, []) : List Ty × List Wht)) (fun q x => x.2.length = q) rfl (fun q x y hI hf => by
            split at hf
            · cases hf
            injection hf with hf; subst hf; simp [hI]) lev.length (P3, ws) x1
          exact this
        have hf := found_two t.tw hl2 hws hwl (s := s) lev.length (Nat.le_refl _)
        have he1 : stpF s [] P3 lev ws = foundN P3 lev ws s lev.length := rfl
        have he3 : stpF s [] Q3 lev2 ws2 = foundN Q3 lev2 ws2 s lev.length := by rw [hle]; rfl
        rw [he1] at h1
        rw [he3] at h3
        cases hx : foundN P3 lev ws s lev.length with
        | nil =>
          have hy : foundN Q3 lev2 ws2 s lev.length = [] := List.eq_nil_of_length_eq_zero (by rw [← hf.len, hx]; rfl)
          rw [hx] at h1
          rw [hy] at h3
          simp only [List.isEmpty_nil, if_true] at h1 h3
          have hnx := outer_two t.tw hl2 hws hwl (hs.imp fun a b z => z.mono h.tw p1 p2) lev.length (Nat.le_refl _)
          have hnx2 : All2 (EntR T P3 Q3) (nextL P3 lev ws seen) (nextL Q3 lev2 ws2 seen2) := by unfold nextL; rw [← hle]; exact hnx
          obtain ⟨t2, q1, q2, hr⟩ := run_two s n P3 Q3 _ _ _ _ t hnx2 (All2.app (hs.imp fun a b z => z.mono h.tw p1 p2) (typs_two hnx2)) _ _ _ _ h1 h3
          exact ⟨t2, p1.trans q1, p2.trans q2, hr⟩
        | cons x m =>
          rw [hx] at h1 hf
          cases hy : foundN Q3 lev2 ws2 s lev.length with
          | nil => rw [hy] at hf; exact absurd hf.len (by simp)
          | cons y m2 =>
            rw [hy] at h3 hf
            simp only [List.isEmpty_cons, Bool.false_eq_true, if_false, Prod.mk.injEq, Except.ok.injEq] at h1 h3
            obtain ⟨rfl, rfl⟩ := h1
            obtain ⟨rfl, rfl⟩ := h3
            exact ⟨t, p1, p2, hf⟩
theorem looks_fine {T : List Ty} (hu : rightU T N) {p : Nat} {lev : List Ent} (hl : levP T p lev) : ∀ q, q ≤ lev.length → ∀ e, looksR N T lev q = .error e → fineE e
  | 0, _, e, h => by cases h
  | q + 1, hq, e, h => by
    cases hx : looksR N T lev q with
    | error e2 =>
      have hx2 := hx
      unfold looksR at h hx2
      rw [stepsN, hx2] at h
      injection h with h
      subst h
      exact looks_fine hu hl q HW _ hx
    | ok y =>
      obtain ⟨o, ws⟩ := y
      obtain ⟨r, p, _⟩ := looksR_ok hu hl q HW _ _ hx
      unfold looksR at h hx
      rw [stepsN_ok hx] at h
      have hql : q < lev.length := by omega
      simp only at h
      rw [Gt default hql] at h
      have hs := (hl.1 _ (List.getElem_mem hql)).1
      have := p.length_le
      split at h
      · rename_i e2 hs2
        injection h with h
        subst h
        exact look_fine r hs.1 HW hs2
      cases h
theorem first_fine {T : List Ty} (hu : rightU T N) (h0 : 0 ≤ i) (hi : i < T.length) {e : Int} (h : firstR T N i = .error e) : fineE e := by
  obtain ⟨hn, et⟩ := GQ h0 hi
  unfold firstR at h
  rw [et] at h
  split at h
  · rename_i c
    have hk1 := ptr_of hu.1 hn c
    have hkd := (GL hu.1 hn).kids _ (List.getElem_mem (show 0 < T[i.toNat].kids.length by omega))
    rw [Gt _ (show 0 < T[i.toNat].kids.length by omega)] at h
    split at h
    · rename_i hx
      injection h with h
      subst h
      exact und_fine hu hkd.1 HW hx
    split at h <;> cases h
  cases h
theorem run_fine {σ : Type} {stp : σ → List Ty → List Ent → List Wht → σ} {go : σ → Bool} : ∀ (n : Nat) (T : List Ty) (p : Nat) (lev : List Ent) (seen : List Int) (s : σ), rightU T N → levP T p lev → ∀ a e, runL N stp go n T lev seen s = (a, .error e) → fineE e
  | 0, _, _, _, _, _, _, _, a, e, h => by simp [runL] at h
  | n + 1, T, p, lev, seen, s, hu, hl, a, e, h => by
    unfold runL at h
    cases hx : looksR N T lev lev.length with
    | error e2 =>
      rw [hx] at h
      simp only [Prod.mk.injEq, Except.error.injEq] at h
      obtain ⟨_, rfl⟩ := h
      exact looks_fine hu hl _ (Nat.le_refl _) _ hx
    | ok y =>
      obtain ⟨T1, ws⟩ := y
      obtain ⟨r, hp, hw, hws⟩ := looksR_ok hu hl _ (Nat.le_refl _) _ _ hx
      rw [hx] at h
      simp only at h
      split at h
      · simp at h
      split at h
      · exact run_fine n T1 (p + 1) _ _ _ r (nextL_ok r.1 (hl.up hp) hw hws) _ _ h
      simp at h
theorem levels_fine {σ : Type} {stp : σ → List Ty → List Ent → List Wht → σ} {go : σ → Bool} {T : List Ty} (hu : rightU T N) (h0 : 0 ≤ i) (hi : i < T.length) {s a : σ} {e : Int} (h : levelsL N stp go T i s = (a, .error e)) : fineE e := by
  unfold levelsL at h
  cases hx : firstR T N i with
  | error e2 =>
    rw [hx] at h
    simp only [Prod.mk.injEq, Except.error.injEq] at h
    obtain ⟨_, rfl⟩ := h
    exact first_fine hu h0 hi hx
  | ok y =>
    obtain ⟨T1, lev⟩ := y
    obtain ⟨r, _, hl⟩ := firstR_ok hu h0 hi hx
    rw [hx] at h
    exact run_fine 7 T1 0 lev _ _ r hl _ _ h
theorem levels_two (h : TwoU T P Q N) (hij : EqI T P Q i j) {s : List UInt8} {a b : List SelV} (h1 : levelsL N (stpF s) List.isEmpty P i [] = (a, .ok P2)) (h3 : levelsL N (stpF s) List.isEmpty Q j [] = (b, .ok Q2)) : TwoU T P2 Q2 N ∧ P <+: P2 ∧ Q <+: Q2 ∧ All2 (SelR T P2 Q2) a b := by
  unfold levelsL at h1 h3
  cases x1 : firstR P N i with
  | error e => rw [x1] at h1; simp at h1
  | ok y1 =>
    cases x3 : firstR Q N j with
    | error e => rw [x3] at h3; simp at h3
    | ok y3 =>
      obtain ⟨P3, lev⟩ := y1
      obtain ⟨Q3, lev2⟩ := y3
      rw [x1] at h1
      rw [x3] at h3
      obtain ⟨t, p1, p2, hl⟩ := first_two h hij x1 x3
      obtain ⟨t2, q1, q2, hr⟩ := run_two s 7 P3 Q3 lev lev2 _ _ t hl (typs_two hl) _ _ _ _ h1 h3
      exact ⟨t2, p1.trans q1, p2.trans q2, hr⟩
theorem meth_two (h : TwoU T P Q N) (hij : EqI T P Q i j) (h9 : (tyAt P i).kind ≠ 9) {B B2 : List Int} {w : List UInt8} {g : Int} (hg : 0 ≤ g ∧ g < T.length) {x y : Bool} (h1 : methR N B P i w g = .ok x) (h3 : methR N B2 Q j w g = .ok y) : x = y := by
  have hl := hij.lt h.tw
  unfold methR at h1 h3
  rw [hij.kind h.tw, if_neg h9] at h3
  rw [if_neg h9] at h1
  by_cases c : w = [95]
  · rw [if_pos c] at h1 h3
    injection h1 with h1; injection h3 with h3
    exact h1.symm.trans h3
  rw [if_neg c] at h1 h3
  unfold findR at h1 h3
  cases x1 : levelsL N (stpF w) List.isEmpty P i [] with
  | mk a r =>
    cases x3 : levelsL N (stpF w) List.isEmpty Q j [] with
    | mk b r2 =>
      rw [x1] at h1
      rw [x3] at h3
      cases r with
      | error e =>
        have hf := levels_fine h.up hij.1 hl.1 x1
        simp only [tellF] at h1
        rw [if_neg (by unfold fineE at hf; omega)] at h1
        cases h1
      | ok P3 =>
        cases r2 with
        | error e =>
          have hf := levels_fine h.uq hij.2.1 hl.2 x3
          simp only [tellF] at h3
          rw [if_neg (by unfold fineE at hf; omega)] at h3
          cases h3
        | ok Q3 =>
          obtain ⟨t, p1, p2, hab⟩ := levels_two h hij x1 x3
          cases a with
          | nil =>
            cases b with
            | nil => simp [tellF] at h1 h3; rw [h1, h3]
            | cons b m => exact hab.elim
          | cons a m =>
            cases b with
            | nil => exact hab.elim
            | cons b m2 =>
              cases m with
              | nil =>
                cases m2 with
                | nil =>
                  simp only [tellF, Except.ok.injEq] at h1 h3
                  obtain ⟨⟨e1, e2, e3, e4, _⟩, _⟩ := hab
                  have hgt : a.typ = g ↔ b.typ = g := by
                    constructor
                    · intro e; exact EqI.one t.tw (e ▸ e1) (EqI.base hg.1 hg.2)
                    intro e; exact EqI.inj t.tw (e ▸ e1) (EqI.base hg.1 hg.2)
                  rw [← h1, ← h3, e2, e3, e4]
                  simp only [hgt]
                | cons _ _ => exact hab.2.elim
              | cons _ _ =>
                cases m2 with
                | nil => exact hab.2.elim
                | cons _ _ => simp [tellF] at h1 h3; rw [h1, h3]
end
end Go.Sy
namespace Go.Sy
open Go Go.Proofs Go.RowKit
attribute [local irreducible] AC AT AO AK AH ACalls Sub Res.cells Res.obj Res.nix Res.own Res.map Exit.then Exit.inBlock bodyPost Code.wp Code.wpIn WL Next Post Kont
section
variable {W0 : World} {L : List Res} {F : List Fact} {R : Value → List Res → List Fact → Prop}
set_option maxRecDepth 100000
set_option maxHeartbeats 16000000
end
end Go.Sy
namespace Go.Sy
open Go Go.Proofs Go.RowKit
theorem plus_eq (s : List UInt8) : Lib.hasPrefix s [43] = plusW s := by
  cases s with
  | nil => rfl
  | cons x s =>
    simp only [Lib.hasPrefix, plusW, List.isPrefixOf, List.head?_cons, Bool.and_true]
    rw [Bool.eq_iff_iff]
    constructor
    · intro h; have := eq_of_beq h; subst this; rfl
    intro h; have h2 : some x = some 43 := eq_of_beq h; injection h2 with h2; subst h2; rfl
attribute [local irreducible] AC AT AO AK AH ACalls Sub Res.cells Res.obj Res.nix Res.own Res.map Exit.then Exit.inBlock bodyPost Code.wp Code.wpIn WL Next Post Kont
section
variable {W0 : World} {L : List Res} {F : List Fact} {R : Value → List Res → List Fact → Prop}
set_option maxRecDepth 100000
set_option maxHeartbeats 16000000
theorem hasp_c (s : List UInt8) (h : R (.bool (plusW s)) L F) : ACalls Tryz.prog W0 190 #[S s, S [43]] L F R := by
  refine ACalls.lib0 (fun w _ => ?_) h
  have := Tryz.strings_HasPrefix ⟨s.toArray⟩ ⟨#[43]⟩ w
  have e : Lib.hasPrefix (⟨s.toArray⟩ : ByteArray).data.toList (⟨#[43]⟩ : ByteArray).data.toList = plusW s := plus_eq s
  rw [e] at this
  exact this
theorem sfield_c (s : List UInt8) (h : R (S (fieldN s)) L F) : ACalls Tryz.prog W0 92 #[S s] L F R := by
  refine Ge Tryz.func92 HU Tryz.ntmps92 HU ?_
  refine qs 8 ?_
  refine Ga (Gd HU HU (trimp_c s ?_))
  refine qs 4 ?_
  exact Gb Tryz.results92 rfl (Gk _ _) h
theorem clipI_c (l : List Int) {a : Option Addr} {k c : Nat} (m1 : fI l a k c ∈ F) (h : ∀ a, R (.slice a l.length l.length) L (fI l a l.length l.length :: F)) : ACalls Tryz.prog W0 177 #[.slice a k c] L F R := by
  refine Ge Tryz.func177 HU Tryz.ntmps177 HU ?_
  refine qs 9 ?_
  refine Ga (Gv HU HU (fun hl5 => ?_) (hm := by repeat (first | exact mem0 | assumption | refine memS ?_)))
  refine qs 1 ?_
  refine Ga (Gv HU HU (fun hl7 => ?_) (hm := by repeat (first | exact mem0 | assumption | refine memS ?_)))
  refine Ga (AO.sliceFull (lst := l) (enc := eI) HU HU HU HU HU HU memA (fun a8 => ?_))
  refine qs 4 ?_
  exact Gb Tryz.results177 rfl (Gk _ _) (h _)
theorem uundE_c (g : Glob W0) (T : List Ty) (N : List Nmd) (hno : ∀ n ∈ N, NmOk n) (hu : rightU T N) (i : Int) (h0 : 0 ≤ i) (hi : i < T.length) {a a2 : Option Addr} {k c k2 c2 : Nat} (mL : fL T a k c ∈ F) (mN : fN N a2 k2 c2 ∈ F) (mE : Fact.slc (.slice none 0 0) 5 [] ∈ F)
    (hE : ∀ e, e ≠ 0 → undR T N i = .error e → R (.tuple #[.agg #[.slice none 0 0, .slice none 0 0], .int .i64 0, .int .i64 e]) L F)
    (hO : ∀ o q a k c, undR T N i = .ok (o, q) → R (.tuple #[.agg #[.slice a k c, .slice a2 k2 c2], .int .i64 q, .int .i64 0]) L (fL o a k c :: F)) :
    ACalls Tryz.prog W0 15 #[.agg #[.slice a k c, .slice a2 k2 c2], .int .i64 i] L F R := by
  have hund : ∀ n : Nat, i = n → ∀ hn : n < T.length, T[n].kind = 8 → ∀ j, ∀ hj : j < N.length, atN N T[n].name = some j → ∀ u : Nat, N[j].under = u → undR T N i = subR T u T[n].kids := by
    intro n e hn h8 j hj hat u hju
    subst e
    unfold undR
    rw [HI hn, if_pos h8, hat]
    simp only
    rw [Gt default hj, hju, Int.toNat_natCast]
  refine uunder_c g T N (Hp hu.1) hno i mL mN mE (fun c => absurd hu c) (fun _ c => absurd ⟨h0, hi⟩ c) (fun _ n e hn hk => ?_) (fun _ n e hn hk j hj hat u hju hul x hx0 hx => hE x hx0 ?_) (fun _ n e hn hk j hj hat u hju hul o q a k c hx => hO o q a k c ?_)
  · refine hO T i a k c ?_
    subst e
    unfold undR
    rw [HI hn, if_neg hk]
  · rw [hund n e hn hk j hj hat u hju]; exact hx
  rw [hund n e hn hk j hj hat u hju]; exact hx
theorem turn_out (T : List Ty) {kids : List Int} {ms : List Mth} {q : Nat} {o : List Ty} {out : List Mth} {x : Int} (h : turnR kids ms T q = .ok (o, out)) (hq : q < ms.length) {o2 : List Ty} (hx : subR o ms[q].sig.toNat kids = .ok (o2, x)) : turnR kids ms T (q + 1) = .ok (o2, out ++ [⟨ms[q].name, ms[q].ptr, x⟩]) := by
  unfold turnR at h ⊢
  rw [stepsN_ok h]
  simp only
  rw [Gt default hq, hx]
theorem turn_bad {T : List Ty} {kids : List Int} {ms : List Mth} {q : Nat} {o : List Ty} {out : List Mth} {e : Int} (h : turnR kids ms T q = .ok (o, out)) (hq : q < ms.length) (hx : subR o ms[q].sig.toNat kids = .error e) : turnR kids ms T ms.length = .error e := by
  unfold turnR at h ⊢
  refine stepsN_bad h ?_ hq
  simp only
  rw [Gt default hq, hx]
theorem own_8 {T : List Ty} {N : List Nmd} {n : Nat} (hn : n < T.length) (h8 : T[n].kind = 8) {j : Nat} (hj : j < N.length) (hat : atN N T[n].name = some j) : ownR T N (n : Int) = turnR T[n].kids N[j].methods T N[j].methods.length := by
  unfold ownR
  rw [HI hn, if_neg HW, if_pos h8, hat]
  simp only
  rw [Gt default hj]
theorem own_7 {T : List Ty} {N : List Nmd} {n : Nat} (hn : n < T.length) (h7 : T[n].kind = 7) : ownR T N (n : Int) = .ok (T, ownZ (zips T[n])) := by
  unfold ownR
  rw [HI hn, if_pos h7]
theorem own_none {T : List Ty} {N : List Nmd} {n : Nat} (hn : n < T.length) (h7 : T[n].kind ≠ 7) (h8 : T[n].kind ≠ 8) : ownR T N (n : Int) = .ok (T, []) := by
  unfold ownR
  rw [HI hn, if_neg h7, if_neg h8]
theorem eMt_turn {out ms : List Mth} {q : Nat} (hl : out.length = q) (hq : q < ms.length) (x : Int) : (((out ++ ms.drop q).map eMt).set q ((eMt ms[q]).set 2 (.val (.int .i64 x)))) = ((out ++ [(⟨ms[q].name, ms[q].ptr, x⟩ : Mth)]) ++ ms.drop (q + 1)).map eMt := by
  subst hl
  rw [List.drop_eq_getElem_cons hq, List.map_append, List.map_cons, List.set_append_right _ _ (by simp)]
  simp only [List.length_map, Nat.sub_self, List.set_cons_zero, List.append_assoc, List.map_append, List.map_cons]
  rfl
theorem umethE_c (g : Glob W0) (T : List Ty) (N : List Nmd) (hno : ∀ n ∈ N, NmOk n) (hu : rightU T N) (i : Int) (h0 : 0 ≤ i) (hi : i < T.length) {a a2 : Option Addr} {k c k2 c2 : Nat} (mL : fL T a k c ∈ F) (mN : fN N a2 k2 c2 ∈ F) (mE : Fact.slc (.slice none 0 0) 5 [] ∈ F) (mM : Fact.slc (.slice none 0 0) 3 [] ∈ F)
    (hE : ∀ e, e ≠ 0 → ownR T N i = .error e → R (.tuple #[.agg #[.slice none 0 0, .slice none 0 0], .slice none 0 0, .int .i64 e]) L F)
    (hO : ∀ o ms a k c a' k' c', ownR T N i = .ok (o, ms) → R (.tuple #[.agg #[.slice a k c, .slice a2 k2 c2], .slice a' k' c', .int .i64 0]) L (fL o a k c :: fMs ms a' k' c' :: F)) :
    ACalls Tryz.prog W0 17 #[.agg #[.slice a k c, .slice a2 k2 c2], .int .i64 i] L F R := by
  have hok := Hp hu.1
  obtain ⟨n, rfl⟩ : ∃ n : Nat, i = (n : Int) := ⟨i.toNat, by omega⟩
  have hn : n < T.length := by omega
  refine Ge Tryz.func17 HU Tryz.ntmps17 HU ?_
  refine qs 2 ?_
  refine Ga (GJ HU HU (fun b2 => (Ga (Gq HU (fun b4 => ?_)))))
  refine qs 9 ?_
  refine Ga (Gd rfl rfl (uthere_c g T N hok hno n mL mN (fun e he => by rcases he with ⟨h, _⟩ | ⟨_, h, _⟩; exact absurd hu h; exact absurd ⟨h0, hi⟩ h) (fun c13 d13 => ?_)))
  refine qs 6 ?_
  refine Ga (GK HU HU HU (fun c21 => absurd HU c21) (fun _ => ?_))
  refine qs 10 ?_
  have hkl := (hok _ (List.getElem_mem hn)).kids
  refine Ga (Gj HU HU HU HU (enc := eTy) (lst := T) memA hn (fun _ _ => ?_))
  refine Ga (GU HU HU ?_)
  intro a28 k28 z28 d28 e28 f28
  refine Ga (Gq HU (fun b8 => ?_))
  refine qs 13 ?_
  refine Ga (GC HU HU HU (fun c32 => ?_) (fun c32 => ?_))
  ·refine qs 5 ?_
   refine GO (fun _ => false) [(b2, _, _), (b8, _, _)] bxA HU (fun hx hX => ?_)
   refine qt [0, 1] ?_
   refine Gf (i := 2) HV HU HU (fun _ => ?_)
   refine Gd HU HU (own_c T[n] ((GL c13.1 hn).iface c32) hkl (show fW T[n] _ _ _ ∈ _ from memA) (show fK T[n] _ _ _ ∈ _ from memA) (fun a35 k35 z35 => ?_))
   refine Gc bxA memB ?_
   refine Gf (i := 3) HV HU HU (fun _ => ?_)
   refine GA HU HU HU HU ?_
   refine Gc bxA memB ?_
   refine qt [4, 5] ?_
   refine Gm HV ?_
   refine qs 4 ?_
   exact GS (rs := [.cell 4 _, .tmp 5, .tmp 6]) (L' := L) (F' := fL T a k c :: fMs (ownZ (zips T[n])) a35 k35 z35 :: F) Tryz.results17 (.agg (j := 1) rfl rfl rfl (.tmp rfl (.tmp rfl .nil))) (Sub.drop.trans (Sub.drop.trans (Sub.drop.trans (Gg (mem2 memA memA (fun x hx => by repeat (first | exact hx | refine List.mem_cons_of_mem _ ?_))))))) (hO T _ a k c a35 k35 z35 (own_7 hn c32))
  refine qs 6 ?_
  refine Ga (GC HU HU HU (fun c37 => ?_) (fun c37 => ?_))
  ·refine qs 9 ?_
   refine Ga (Gd rfl rfl (at_c N T[n].name memA (fun j c42 => ?_) (fun c42 => by obtain ⟨i, hi, _⟩ := c13.2.2.2 _ (List.getElem_mem hn) c37; rw [c42] at hi; exact absurd hi (by simp))))
   refine qs 12 ?_
   obtain ⟨hjl, _⟩ := atN_some c42
   have hown := own_8 hn c37 hjl c42
   have hnm := (c13.2.2.1 j hjl).1
   have hm16 := hnm.2.2.2.1
   refine Ga (Gj HU HU HU HU (enc := eNm) (lst := N) memA hjl (fun _ _ => ?_))
   refine Ga (HE HU HU (fun _ => ?_))
   refine Ga (GE HU HU ?_)
   intro a50 k50 z50
   refine Ga (Gd HU HU (cloneM_c N[j].methods HW memA (fun a51 k51 z51 => ?_)))
   refine qs 7 ?_
   refine Ga (AO.lenO (i := 0) HU HU HU (fun hk53 => ?_))
   rw [List.length_map]
   refine qs 4 ?_
   have hms : ∀ m ∈ N[j].methods, 0 ≤ m.sig ∧ m.sig < T.length := fun m hm => by
    obtain ⟨q, hq, rfl⟩ := List.getElem_of_mem hm
    have := (hnm.2.2.2.2.1 q hq).2.1
    exact ⟨this.1, this.2.1⟩
   refine GN (fun (x : Nat × (List Ty × List Mth) × (Option Addr × Nat × Nat)) => x.1 ≤ N[j].methods.length ∧ turnR T[n].kids N[j].methods T x.1 = .ok x.2.1) (fun x => [(2, .pointer (some ⟨b2, 0, none⟩)), (4, .pointer (some ⟨b4, 0, none⟩)), (8, .pointer (some ⟨b8, 0, none⟩)), (11, .slice a51 k51 z51), (52, .slice a51 k51 z51), (53, .int .i64 N[j].methods.length), (54, .int .i64 (x.1 : Int))]) (fun x => Res.own (.slice a51 k51 z51) 44 3 ((x.2.1.2 ++ N[j].methods.drop x.1).map eMt) :: _ :: _ :: Res.cells b2 #[.slice x.2.2.1 x.2.2.2.1 x.2.2.2.2, .slice a2 k2 c2] _ :: _) (fun x => fL x.2.1.1 x.2.2.1 x.2.2.2.1 x.2.2.2.2 :: _) (fun x => N[j].methods.length - x.1) (0, (T, []), (a, k, c)) ⟨Nat.zero_le _, rfl⟩ srA (Gg (mem1 memA (fun x hx => hx))) ?_
   rintro ⟨q, ⟨o, out⟩, ⟨a1, k1, c1⟩⟩ ⟨hq, hM⟩
   simp only at hq hM ⊢
   refine qs 2 ?_
   refine Ga (GB HU HU HU (fun c55 => ?_) (fun c55 => ?_))
   ·refine qs 11 ?_
    have hqm : q < N[j].methods.length := by omega
    obtain ⟨hro, hpo, hlo⟩ := turnR_ok hu hms q hq o out hM
    have hqo : q < (out ++ N[j].methods.drop q).length := by rw [List.length_append, List.length_drop]; omega
    have hpl := hpo.length_le
    have hgq : (out ++ N[j].methods.drop q)[q] = N[j].methods[q] := by
     rw [List.getElem_append_right HW, List.getElem_drop]; congr 1; omega
    have hsg := hms _ (List.getElem_mem hqm)
    obtain ⟨u, hum⟩ : ∃ u : Nat, N[j].methods[q].sig = (u : Int) := ⟨N[j].methods[q].sig.toNat, by omega⟩
    have hun : N[j].methods[q].sig.toNat = u := by omega
    have hul : u < T.length := by omega
    have hok2 := Hp hro.1
    refine Ga (Hc (i := 0) (q := q) HU HU HU HU HU (by rw [List.length_map]; exact hqo) (fun bo ho => ?_))
    subst ho
    refine Ga (AO.loadOA (i := 0) (q := q) (vs := [S N[j].methods[q].name, .bool N[j].methods[q].ptr, .int .i64 (u : Int)]) HU HU HU HU (by rw [List.getElem?_map, List.getElem?_eq_getElem hqo, hgq, ← hum]; rfl) HU ?_)
    refine Ga (Gq HU (fun b13 => ?_))
    refine qs 11 ?_
    refine Ga (Gd HU HU (uwith_c g o hok2 hro.1 u HW T[n].kids HW (show fL o a1 k1 c1 ∈ _ from memA) (show fK T[n] _ _ _ ∈ _ from memA) memA (fun e h0 he => ?_) (fun o2 q2 a65 k65 c65 hq2 => ?_)))
    ·refine qs 4 ?_
     refine Ga (Gq HU (fun b14 => ?_))
     refine qs 9 ?_
     refine Ga (GK HU HU HU (fun _ => ?_) (fun c70 => absurd c70 h0))
     refine qs 5 ?_
     refine Ga (GI HU HU HU ?_)
     refine qs 15 ?_
     exact GS (rs := [.cell 4 _, .tmp 5, .tmp 6]) (L' := L) (F' := F) Tryz.results17 (.agg (j := 4) rfl rfl rfl (.tmp rfl (.tmp rfl .nil))) subA (hE e h0 (by rw [hown]; exact turn_bad hM hqm (by rw [hun]; exact he)))
    refine qs 4 ?_
    refine Ga (Gq HU (fun b14 => ?_))
    refine qs 9 ?_
    refine Ga (GK HU HU HU (fun c70 => absurd HU c70) (fun _ => ?_))
    refine qs 11 ?_
    refine Ga (Hc (i := 2) (q := q) HU HU HU HU HU (by rw [List.length_map]; exact hqo) (fun bo2 ho2 => ?_))
    cases ho2
    refine qs 1 ?_
    refine Ga (AO.storeOR (v := .int .i64 q2) (i := 2) (q := q) (j := 2) HU HU HU HU HU (show ((out ++ N[j].methods.drop q).map eMt)[q]? = some (eMt N[j].methods[q]) by rw [List.getElem?_map, List.getElem?_eq_getElem hqo, hgq]; rfl) (by simp) ?_)
    rw [eMt_turn hlo hqm]
    refine qs 7 ?_
    exact Gl (q + 1, (o2, out ++ [⟨N[j].methods[q].name, N[j].methods[q].ptr, q2⟩]), (a65, k65, c65)) ⟨by simp only; omega, turn_out T hM hqm (by rw [hun]; exact hq2)⟩ (by simp only; omega) srA (Sub.drop.trans (Sub.drop.trans (Gg (mem1 memA (fun x hx => by repeat (first | exact hx | refine List.mem_cons_of_mem _ ?_))))))
   refine qs 21 ?_
   obtain rfl : q = N[j].methods.length := by omega
   rw [List.drop_length, List.append_nil]
   exact GS (rs := [.cell 4 _, .tmp 5, .tmp 6]) (L' := L) (F' := fL o a1 k1 c1 :: fMs out a51 k51 z51 :: F) Tryz.results17 (.agg (j := 2) rfl rfl rfl (.tmp rfl (.tmp rfl .nil))) ((GH (i := 0) rfl).trans (Sub.drop.trans (Sub.drop.trans (Sub.drop.trans (Sub.drop.trans (Gg (mem2 memA memA (fun x hx => by repeat (first | exact hx | refine List.mem_cons_of_mem _ ?_))))))))) (hO o out a1 k1 c1 a51 k51 z51 (by rw [hown]; exact hM))
  refine qs 16 ?_
  exact GS (rs := [.cell 4 _, .tmp 5, .tmp 6]) (L' := L) (F' := fL T a k c :: fMs [] none 0 0 :: F) Tryz.results17 (.agg (j := 1) rfl rfl rfl (.tmp rfl (.tmp rfl .nil))) (Sub.drop.trans (Sub.drop.trans (Sub.drop.trans (Gg (mem2 memA memA (fun x hx => by repeat (first | exact hx | refine List.mem_cons_of_mem _ ?_))))))) (hO T [] a k c none 0 0 (own_none hn c32 c37))
end
end Go.Sy
namespace Go.Sy
open Go Go.Proofs Go.RowKit
theorem look_err1 {T : List Ty} {N : List Nmd} {i e : Int} (h : undR T N i = .error e) : lookR T N i = .error e := by unfold lookR; rw [h]
theorem look_err2 {T : List Ty} {N : List Nmd} {i e k : Int} {o : List Ty} (h : undR T N i = .ok (o, k)) (h2 : ownR o N (if (tyAt o k).kind = 7 then k else i) = .error e) : lookR T N i = .error e := by unfold lookR; rw [h]; simp only [h2]
theorem look_ok {T : List Ty} {N : List Nmd} {i k : Int} {o o2 : List Ty} {ms : List Mth} (h : undR T N i = .ok (o, k)) (h2 : ownR o N (if (tyAt o k).kind = 7 then k else i) = .ok (o2, ms)) : lookR T N i = .ok (o2, ⟨k, ms⟩) := by unfold lookR; rw [h]; simp only [h2]
abbrev wCells (a : Option Addr) (k c : Nat) (a2 : Option Addr) (k2 c2 : Nat) (e : Int) : List Value := [.slice a k c, .slice a2 k2 c2, .int .i64 e]
attribute [local irreducible] AC AT AO AK AH ACalls Sub Res.cells Res.obj Res.nix Res.own Res.map Exit.then Exit.inBlock bodyPost Code.wp Code.wpIn WL Next Post Kont
section
variable {W0 : World} {L : List Res} {F : List Fact} {R : Value → List Res → List Fact → Prop}
set_option maxRecDepth 100000
set_option maxHeartbeats 16000000
theorem look_c (g : Glob W0) (T : List Ty) (N : List Nmd) (hno : ∀ n ∈ N, NmOk n) (hu : rightU T N) (i : Int) (h0 : 0 ≤ i) (hi : i < T.length) {a a2 : Option Addr} {k c k2 c2 bw iw : Nat} (hw : L[iw]? = some (Res.cells bw #[.slice a k c, .slice a2 k2 c2, .int .i64 0] 147)) (mL : fL T a k c ∈ F) (mN : fN N a2 k2 c2 ∈ F) (mE : Fact.slc (.slice none 0 0) 5 [] ∈ F) (mM : Fact.slc (.slice none 0 0) 3 [] ∈ F)
    (hE : ∀ e, e ≠ 0 → lookR T N i = .error e → R (vWh ⟨0, []⟩ none 0 0) (L.set iw (Res.cells bw #[.slice a k c, .slice a2 k2 c2, .int .i64 e] 147)) F)
    (hO : ∀ o wh a' k' c' a3 k3 c3, lookR T N i = .ok (o, wh) → R (vWh wh a3 k3 c3) (L.set iw (Res.cells bw #[.slice a' k' c', .slice a2 k2 c2, .int .i64 0] 147)) (fL o a' k' c' :: fMs wh.ms a3 k3 c3 :: F)) :
    ACalls Tryz.prog W0 151 #[.pointer (some ⟨bw, 0, none⟩), .int .i64 i] L F R := by
  refine Ge Tryz.func151 HU Tryz.ntmps151 HU ?_
  refine qs 2 ?_
  refine Ga (Gq HU (fun b4 => ?_))
  refine qs 5 ?_
  refine Ga (Gu HU HU ?_)
  refine qs 1 ?_
  refine Ga (AO.loadBA (cs := wCells a k c a2 k2 c2 0) HU HU ?_ (hi := (by repeat (first | exact has0 | assumption | apply hasS))) (hk := HU))
  refine qs 1 ?_
  refine Ga (Gd HU HU (uundE_c g T N hno hu i h0 hi memA memA memA (fun e he hx => ?_) (fun o q a16 k16 c16 hx => ?_)))
  ·refine qs 4 ?_
   refine Ga (Gq HU (fun b5 => ?_))
   refine qs 9 ?_
   refine Ga (GK HU HU HU (fun _ => ?_) (fun c21 => absurd c21 he))
   refine qs 7 ?_
   refine Ga (Gu HU HU ?_)
   refine qs 1 ?_
   refine Ga (Gs (cs := wCells a k c a2 k2 c2 0) HU HU HU ?_ (hi := (by repeat (first | exact has0 | assumption | apply hasS))) (ho := HU))
   refine qs 4 ?_
   refine Ga (GI HU HU HU ?_)
   refine qs 5 ?_
   exact GS (rs := [.cell 4 _]) (L' := L.set iw (Res.cells bw #[.slice a k c, .slice a2 k2 c2, .int .i64 e] 147)) (F' := F) Tryz.results151 (.agg (j := 1) rfl rfl rfl .nil) subA (hE e he (look_err1 hx))
  refine qs 4 ?_
  refine Ga (Gq HU (fun b5 => ?_))
  refine qs 9 ?_
  obtain ⟨hro, hpo, hq0, hql⟩ := undR_ok hu h0 hi hx
  refine Ga (GK HU HU HU (fun c21 => absurd HU c21) (fun _ => ?_))
  refine qs 17 ?_
  obtain ⟨hqn, hqe⟩ := GQ hq0 hql
  refine Ga (Gj (k := q.toNat) HU HU HU HW (enc := eTy) (lst := o) memA hqn (fun _ _ => ?_))
  refine Ga (HE HU HU (fun _ => ?_))
  refine Ga (GE HU HU ?_)
  refine Ga (GC HU HU HU (fun c34 => ?_) (fun c34 => ?_))
  ·refine qs 12 ?_
   have hof : (if (tyAt o q).kind = 7 then q else i) = q := by rw [if_pos (by rw [hqe]; exact c34)]
   refine Ga (Gd HU HU (umethE_c g o N hno hro q hq0 hql memA memA memA memA (fun e he hy => ?_) (fun o2 ms a39 k39 c39 a40 k40 c40 hy => ?_)))
   ·refine qs 13 ?_
    rw [← hof] at hy
    refine Ga (GK HU HU HU (fun _ => ?_) (fun c44 => absurd c44 he))
    refine qs 7 ?_
    refine Ga (Gu HU HU ?_)
    refine qs 1 ?_
    refine Ga (Gs (cs := wCells a k c a2 k2 c2 0) HU HU HU ?_ (hi := (by repeat (first | exact has0 | assumption | apply hasS))) (ho := HU))
    refine qs 4 ?_
    refine Ga (GI HU HU HU ?_)
    refine qs 5 ?_
    exact GS (rs := [.cell 4 _]) (L' := L.set iw (Res.cells bw #[.slice a k c, .slice a2 k2 c2, .int .i64 e] 147)) (F' := F) Tryz.results151 (.agg (j := 1) rfl rfl rfl .nil) subA (hE e he (look_err2 hx hy))
   refine qs 13 ?_
   rw [← hof] at hy
   refine Ga (GK HU HU HU (fun c44 => absurd HU c44) (fun _ => ?_))
   refine qs 9 ?_
   refine Ga (Gu HU HU ?_)
   refine qs 1 ?_
   refine Ga (GA (cs := wCells a k c a2 k2 c2 0) (vs := [.slice a39 k39 c39, .slice a2 k2 c2]) HU HU HU HU ?_ (hi := (by repeat (first | exact has0 | assumption | apply hasS))) (ho := HU))
   refine qs 6 ?_
   refine Ga (GI HU HU HU ?_)
   refine qs 4 ?_
   exact GS (rs := [.cell 4 _]) (L' := L.set iw (Res.cells bw #[.slice a39 k39 c39, .slice a2 k2 c2, .int .i64 0] 147)) (F' := fL o2 a39 k39 c39 :: fMs ms a40 k40 c40 :: F) Tryz.results151 (.agg (j := 1) rfl rfl rfl .nil) (Sub.drop.trans (Sub.drop.trans (Gg (mem2 memA memA (fun x hx => by repeat (first | exact hx | refine List.mem_cons_of_mem _ ?_)))))) (hO o2 ⟨q, ms⟩ a39 k39 c39 a40 k40 c40 (look_ok hx hy))
  refine qs 9 ?_
  have hof : (if (tyAt o q).kind = 7 then q else i) = i := by rw [if_neg (by rw [hqe]; exact c34)]
  have hil : i < o.length := by have := hpo.length_le; omega
  refine Ga (Gd HU HU (umethE_c g o N hno hro i h0 hil memA memA memA memA (fun e he hy => ?_) (fun o2 ms a39 k39 c39 a40 k40 c40 hy => ?_)))
  ·refine qs 13 ?_
   rw [← hof] at hy
   refine Ga (GK HU HU HU (fun _ => ?_) (fun c44 => absurd c44 he))
   refine qs 7 ?_
   refine Ga (Gu HU HU ?_)
   refine qs 1 ?_
   refine Ga (Gs (cs := wCells a k c a2 k2 c2 0) HU HU HU ?_ (hi := (by repeat (first | exact has0 | assumption | apply hasS))) (ho := HU))
   refine qs 4 ?_
   refine Ga (GI HU HU HU ?_)
   refine qs 5 ?_
   exact GS (rs := [.cell 4 _]) (L' := L.set iw (Res.cells bw #[.slice a k c, .slice a2 k2 c2, .int .i64 e] 147)) (F' := F) Tryz.results151 (.agg (j := 1) rfl rfl rfl .nil) subA (hE e he (look_err2 hx hy))
  refine qs 13 ?_
  rw [← hof] at hy
  refine Ga (GK HU HU HU (fun c44 => absurd HU c44) (fun _ => ?_))
  refine qs 9 ?_
  refine Ga (Gu HU HU ?_)
  refine qs 1 ?_
  refine Ga (GA (cs := wCells a k c a2 k2 c2 0) (vs := [.slice a39 k39 c39, .slice a2 k2 c2]) HU HU HU HU ?_ (hi := (by repeat (first | exact has0 | assumption | apply hasS))) (ho := HU))
  refine qs 6 ?_
  refine Ga (GI HU HU HU ?_)
  refine qs 4 ?_
  exact GS (rs := [.cell 4 _]) (L' := L.set iw (Res.cells bw #[.slice a39 k39 c39, .slice a2 k2 c2, .int .i64 0] 147)) (F' := fL o2 a39 k39 c39 :: fMs ms a40 k40 c40 :: F) Tryz.results151 (.agg (j := 1) rfl rfl rfl .nil) (Sub.drop.trans (Sub.drop.trans (Gg (mem2 memA memA (fun x hx => by repeat (first | exact hx | refine List.mem_cons_of_mem _ ?_)))))) (hO o2 ⟨q, ms⟩ a39 k39 c39 a40 k40 c40 (look_ok hx hy))
end
end Go.Sy
namespace Go.Sy
open Go Go.Proofs Go.RowKit
theorem first_not {T : List Ty} {N : List Nmd} {n : Nat} (hn : n < T.length) (h : T[n].kind ≠ 1) : firstR T N (n : Int) = .ok (T, [⟨(n : Int), false, false, []⟩]) := by
  unfold firstR; rw [HI hn, if_neg h]
theorem first_is {T : List Ty} {N : List Nmd} {n : Nat} (hn : n < T.length) (h : T[n].kind = 1) (hk : 0 < T[n].kids.length) : firstR T N (n : Int) = match undR T N T[n].kids[0] with
    | .error e => .error e
    | .ok (T1, k) => if (tyAt T1 k).kind = 1 ∨ (tyAt T1 k).kind = 7 then .ok (T, []) else .ok (T1, [⟨T[n].kids[0], true, false, []⟩]) := by
  unfold firstR; rw [HI hn, if_pos h, Gt _ hk]; first | done | rfl
theorem eSl_one : ∀ (x : SelV) (d : D), d ∈ eSl x → ∀ v, d = .val v → oneC v = true := by
  intro x d hd v hv
  subst hv
  simp at hd
  rcases hd with rfl | rfl | rfl | rfl <;> rfl
theorem hadM_yes {w : Wht} {e : Ent} {s : List UInt8} {q : Nat} (hq : q < w.ms.length) (h : w.ms[q].name = s) : hadM w e s (q + 1) = hadM w e s q ++ [⟨true, w.ms[q].sig, w.ms[q].ptr, e.via, e.path⟩] := by
  simp only [hadM]; rw [Gt default hq, if_pos h]
theorem hadM_no {w : Wht} {e : Ent} {s : List UInt8} {q : Nat} (hq : q < w.ms.length) (h : w.ms[q].name ≠ s) : hadM w e s (q + 1) = hadM w e s q := by
  simp only [hadM]; rw [Gt default hq, if_neg h]
theorem hadF_yes {t : Ty} {e : Ent} {s : List UInt8} {l : List SelV} {q : Nat} (hq : q < t.words.length) (hk : q < t.kids.length) (h : fieldN t.words[q] = s) : hadF t e s l (q + 1) = hadF t e s l q ++ [⟨false, t.kids[q], false, e.via, e.path ++ [(q : Int)]⟩] := by
  simp only [hadF]; rw [Gt [] hq, Gt _ hk, if_pos h]
theorem hadF_no {t : Ty} {e : Ent} {s : List UInt8} {l : List SelV} {q : Nat} (hq : q < t.words.length) (h : fieldN t.words[q] ≠ s) : hadF t e s l (q + 1) = hadF t e s l q := by
  simp only [hadF]; rw [Gt [] hq, if_neg h]
attribute [local irreducible] AC AT AO AK AH ACalls Sub Res.cells Res.obj Res.nix Res.own Res.map Exit.then Exit.inBlock bodyPost Code.wp Code.wpIn WL Next Post Kont
section
variable {W0 : World} {L : List Res} {F : List Fact} {R : Value → List Res → List Fact → Prop}
set_option maxRecDepth 100000
set_option maxHeartbeats 16000000
theorem first_c (g : Glob W0) (T : List Ty) (N : List Nmd) (hno : ∀ n ∈ N, NmOk n) (hu : rightU T N) (i : Int) (h0 : 0 ≤ i) (hi : i < T.length) {a a2 : Option Addr} {k c k2 c2 bw iw : Nat} (hw : L[iw]? = some (Res.cells bw #[.slice a k c, .slice a2 k2 c2, .int .i64 0] 147)) (mL : fL T a k c ∈ F) (mN : fN N a2 k2 c2 ∈ F) (mE : Fact.slc (.slice none 0 0) 5 [] ∈ F)
    (hE : ∀ e, e ≠ 0 → firstR T N i = .error e → R (.slice none 0 0) (L.set iw (Res.cells bw #[.slice a k c, .slice a2 k2 c2, .int .i64 e] 147)) F)
    (hO : ∀ o lev a' k' c' a3 k3 c3, firstR T N i = .ok (o, lev) → R (.slice a3 k3 c3) (L.set iw (Res.cells bw #[.slice a' k' c', .slice a2 k2 c2, .int .i64 0] 147)) (fL o a' k' c' :: fEn lev a3 k3 c3 :: F)) :
    ACalls Tryz.prog W0 150 #[.pointer (some ⟨bw, 0, none⟩), .int .i64 i] L F R := by
  have hok := Hp hu.1
  obtain ⟨n, rfl⟩ : ∃ n : Nat, i = (n : Int) := ⟨i.toNat, by omega⟩
  have hn : n < T.length := by omega
  have hL0 : L.set iw (Res.cells bw #[.slice a k c, .slice a2 k2 c2, .int .i64 0] 147) = L := (List.getElem?_eq_some_iff.1 hw).2 ▸ List.set_getElem_self _
  have hOT : ∀ lev a3 k3 c3, firstR T N (n : Int) = .ok (T, lev) → R (.slice a3 k3 c3) L (fL T a k c :: fEn lev a3 k3 c3 :: F) := fun lev a3 k3 c3 h => by have := hO T lev a k c a3 k3 c3 h; rwa [hL0] at this
  refine Hr ((HG (sz := 4)).trans (HG (sz := 1))) ?_
  refine Ge Tryz.func150 HU Tryz.ntmps150 HU ?_
  refine qs 8 ?_
  refine Ga (Gu HU HU ?_)
  refine qs 2 ?_
  refine Ga (Gw (cs := wCells a k c a2 k2 c2 0) HU HU ?_ (hi := (by repeat (first | exact has0 | assumption | apply hasS))) (hv := HU))
  refine qs 1 ?_
  have hkl := (hok _ (List.getElem_mem hn)).kids
  refine Ga (Gj (k := n) HU HU HU HU (enc := eTy) (lst := T) memA hn (fun _ _ => ?_))
  refine Ga (GU HU HU ?_)
  intro a17 k17 z17 d17 e17 f17
  refine Ga (Gq HU (fun b5 => ?_))
  refine qs 8 ?_
  refine Ga (GK HU HU HU (fun c20 => ?_) (fun c20 => ?_))
  ·refine qs 6 ?_
   refine Ga (GI HU HU HU ?_)
   refine Ga (Gi HU HU HU HU HU (fun b23 => ?_))
   refine Gz (GR (GP (i := 0) (enc := eEn) (sz := 4) [(⟨(n : Int), false, false, []⟩ : Ent)] HU (.val (.val (.val (.slc .nil memA)))) (fun _ => rfl) HU (by simp only [List.length_cons, List.length_nil, maxLen]; omega)) Gn) ?_
   refine qs 5 ?_
   exact Gb (L' := L) (F' := fL T a k c :: fEn [⟨(n : Int), false, false, []⟩] (some ⟨b23, 0, none⟩) 1 1 :: F) Tryz.results150 rfl (Sub.drop.trans (Gg (mem2 memA memA (fun x hx => by repeat (first | exact hx | refine List.mem_cons_of_mem _ ?_))))) (hOT _ _ _ _ (first_not hn c20))
  refine qs 6 ?_
  refine GO (fun i => Nat.beq i 14) [(bw, _, _), (b5, _, _)] bxA HU (fun hx hX => ?_)
  have hk1 := ptr_of hu.1 hn c20
  have hk0 : 0 < T[n].kids.length := by omega
  have hkd := (GL hu.1 hn).kids _ (List.getElem_mem hk0)
  have hfst := first_is (N := N) hn c20 hk0
  have hkk := (Gy (hX (fK T[n] d17 e17 f17) memA)).1
  obtain ⟨p2, o2, e2, atq⟩ := GG (hX (fK T[n] d17 e17 f17) memA) hk0
  subst e2
  obtain ⟨vq, hvq, hcq⟩ := atq 0 _ rfl
  cases hcq
  refine qt [0, 1, 2, 3, 4, 5] ?_
  refine GF (i := 6) HU (GM (k := 0) HU HU HU HW) HV HU HU ?_
  refine GV (i := 7) HU (Y.loadF HU hvq) HV HV HU HU HU ?_
  refine Hj (i := 8) (j := 13) HV HU HU HU HU (fun _ => ?_) (fun _ => ?_)
  ·refine Gd HU HU (uundE_c g T N hno hu T[n].kids[0] hkd.1 HW memA memA memA (fun e he hx => ?_) (fun o q a33 k33 c33 hx => ?_))
   all_goals refine Gc bxA memB ?_
   ·refine qt [9, 10, 11, 12] ?_
    refine Gf (i := 13) HV HU HU (fun _ => ?_)
    refine Gq HU (fun b6 => ?_)
    refine Gc bxA memB ?_
    refine Gf (i := 14) HV HU HU (fun _ => ?_)
    refine GA HU HU HU HU ?_
    refine Gr HU ?_
    refine qt [15, 16] ?_
    refine Gm HV ?_
    refine qs 5 ?_
    refine Ga (GK HU HU HU (fun _ => ?_) (fun c38 => absurd c38 he))
    refine qs 7 ?_
    refine Ga (Gu HU HU ?_)
    refine qs 1 ?_
    refine Ga (Gs (cs := wCells a k c a2 k2 c2 0) HU HU HU ?_ (hi := (by repeat (first | exact has0 | assumption | apply hasS))) (ho := HU))
    refine qs 9 ?_
    exact Gb (L' := L.set iw (Res.cells bw #[.slice a k c, .slice a2 k2 c2, .int .i64 e] 147)) (F' := F) Tryz.results150 rfl subA (hE e he (by rw [hfst, hx]))
   refine qt [9, 10, 11, 12] ?_
   refine Gf (i := 13) HV HU HU (fun _ => ?_)
   refine Gq HU (fun b6 => ?_)
   refine Gc bxA memB ?_
   refine Gf (i := 14) HV HU HU (fun _ => ?_)
   refine GA HU HU HU HU ?_
   refine Gr HU ?_
   refine qt [15, 16] ?_
   refine Gm HV ?_
   refine qs 5 ?_
   obtain ⟨hro, hpo, hq0, hql⟩ := undR_ok hu hkd.1 HW hx
   refine Ga (GK HU HU HU (fun c38 => absurd HU c38) (fun _ => ?_))
   refine qs 11 ?_
   obtain ⟨hqn, hqe⟩ := GQ hq0 hql
   refine Ga (Gj (k := q.toNat) HU HU HU HW (enc := eTy) (lst := o) memA hqn (fun _ _ => ?_))
   refine Ga (HE HU HU (fun _ => ?_))
   refine Ga (GE HU HU ?_)
   refine qs 6 ?_
   refine Ga (GC HU HU HU (fun c50 => ?_) (fun c50 => ?_))
   ·refine qs 14 ?_
    first
    | exact Gb (L' := L) (F' := fL T a k c :: fEn [] none 0 0 :: F) Tryz.results150 rfl (Sub.drop.trans (Sub.drop.trans (Gg (mem2 memA memA (fun x hx => by repeat (first | exact hx | refine List.mem_cons_of_mem _ ?_)))))) (hOT [] none 0 0 (by rw [hfst, hx]; simp only; rw [if_pos (by rw [hqe]; first | exact .inl c50 | exact .inr c53)]))
    | exact Gb (L' := L.set iw (Res.cells bw #[.slice a33 k33 c33, .slice a2 k2 c2, .int .i64 0] 147)) (F' := fL o a33 k33 c33 :: fEn [⟨T[n].kids[0], true, false, []⟩] (some ⟨b64, 0, none⟩) 1 1 :: F) Tryz.results150 rfl (Sub.drop.trans (Sub.drop.trans (Gg (mem2 memA memA (fun x hx => by repeat (first | exact hx | refine List.mem_cons_of_mem _ ?_)))))) (hO o _ a33 k33 c33 _ _ _ (by rw [hfst, hx]; simp only; rw [if_neg (by rw [hqe]; rintro (h | h); exact c50 h; exact c53 h)]))
   refine qs 2 ?_
   refine Gh HU HU (GC HU HU HU (fun c53 => ?_) (fun c53 => ?_))
   ·refine qs 11 ?_
    first
    | exact Gb (L' := L) (F' := fL T a k c :: fEn [] none 0 0 :: F) Tryz.results150 rfl (Sub.drop.trans (Sub.drop.trans (Gg (mem2 memA memA (fun x hx => by repeat (first | exact hx | refine List.mem_cons_of_mem _ ?_)))))) (hOT [] none 0 0 (by rw [hfst, hx]; simp only; rw [if_pos (by rw [hqe]; first | exact .inl c50 | exact .inr c53)]))
    | exact Gb (L' := L.set iw (Res.cells bw #[.slice a33 k33 c33, .slice a2 k2 c2, .int .i64 0] 147)) (F' := fL o a33 k33 c33 :: fEn [⟨T[n].kids[0], true, false, []⟩] (some ⟨b64, 0, none⟩) 1 1 :: F) Tryz.results150 rfl (Sub.drop.trans (Sub.drop.trans (Gg (mem2 memA memA (fun x hx => by repeat (first | exact hx | refine List.mem_cons_of_mem _ ?_)))))) (hO o _ a33 k33 c33 _ _ _ (by rw [hfst, hx]; simp only; rw [if_neg (by rw [hqe]; rintro (h | h); exact c50 h; exact c53 h)]))
   refine qs 10 ?_
   refine Ga (Gu HU HU ?_)
   refine qs 1 ?_
   refine Ga (GA (cs := wCells a k c a2 k2 c2 0) (vs := [.slice a33 k33 c33, .slice a2 k2 c2]) HU HU HU HU ?_ (hi := (by repeat (first | exact has0 | assumption | apply hasS))) (ho := HU))
   refine qs 6 ?_
   refine Ga (Gj (k := 0) HU HU HU HU (show fK T[n] _ _ _ ∈ _ from memA) hk0 (fun _ _ => ?_))
   refine Ga (GE HU HU ?_)
   refine Ga (GI HU HU HU ?_)
   refine Ga (Gi HU HU HU HU HU (fun b64 => ?_))
   refine Gz (GR (GP (i := 0) (enc := eEn) (sz := 4) [(⟨T[n].kids[0], true, false, []⟩ : Ent)] HU (.val (.val (.val (.slc .nil memA)))) (fun _ => rfl) HU (by simp only [List.length_cons, List.length_nil, maxLen]; omega)) Gn) ?_
   refine qs 4 ?_
   first
   | exact Gb (L' := L) (F' := fL T a k c :: fEn [] none 0 0 :: F) Tryz.results150 rfl (Sub.drop.trans (Sub.drop.trans (Gg (mem2 memA memA (fun x hx => by repeat (first | exact hx | refine List.mem_cons_of_mem _ ?_)))))) (hOT [] none 0 0 (by rw [hfst, hx]; simp only; rw [if_pos (by rw [hqe]; first | exact .inl c50 | exact .inr c53)]))
   | exact Gb (L' := L.set iw (Res.cells bw #[.slice a33 k33 c33, .slice a2 k2 c2, .int .i64 0] 147)) (F' := fL o a33 k33 c33 :: fEn [⟨T[n].kids[0], true, false, []⟩] (some ⟨b64, 0, none⟩) 1 1 :: F) Tryz.results150 rfl (Sub.drop.trans (Sub.drop.trans (Gg (mem2 memA memA (fun x hx => by repeat (first | exact hx | refine List.mem_cons_of_mem _ ?_)))))) (hO o _ a33 k33 c33 _ _ _ (by rw [hfst, hx]; simp only; rw [if_neg (by rw [hqe]; rintro (h | h); exact c50 h; exact c53 h)]))
  refine Gq HU (fun b6 => ?_)
  refine Gc bxA memB ?_
  refine Gf (i := 8) HV HU HU (fun _ => ?_)
  refine Gd HU HU (uundE_c g T N hno hu T[n].kids[0] hkd.1 HW memA memA memA (fun e he hx => ?_) (fun o q a33 k33 c33 hx => ?_))
  all_goals refine Gc bxA memB ?_
  ·refine qt [9, 10, 11, 12] ?_
   refine Gf (i := 14) HV HU HU (fun _ => ?_)
   refine GA HU HU HU HU ?_
   refine Gr HU ?_
   refine qt [15, 16] ?_
   refine Gm HV ?_
   refine qs 5 ?_
   refine Ga (GK HU HU HU (fun _ => ?_) (fun c38 => absurd c38 he))
   refine qs 7 ?_
   refine Ga (Gu HU HU ?_)
   refine qs 1 ?_
   refine Ga (Gs (cs := wCells a k c a2 k2 c2 0) HU HU HU ?_ (hi := (by repeat (first | exact has0 | assumption | apply hasS))) (ho := HU))
   refine qs 9 ?_
   exact Gb (L' := L.set iw (Res.cells bw #[.slice a k c, .slice a2 k2 c2, .int .i64 e] 147)) (F' := F) Tryz.results150 rfl subA (hE e he (by rw [hfst, hx]))
  refine qt [9, 10, 11, 12] ?_
  refine Gf (i := 14) HV HU HU (fun _ => ?_)
  refine GA HU HU HU HU ?_
  refine Gr HU ?_
  refine qt [15, 16] ?_
  refine Gm HV ?_
  refine qs 5 ?_
  obtain ⟨hro, hpo, hq0, hql⟩ := undR_ok hu hkd.1 HW hx
  refine Ga (GK HU HU HU (fun c38 => absurd HU c38) (fun _ => ?_))
  refine qs 11 ?_
  obtain ⟨hqn, hqe⟩ := GQ hq0 hql
  refine Ga (Gj (k := q.toNat) HU HU HU HW (enc := eTy) (lst := o) memA hqn (fun _ _ => ?_))
  refine Ga (HE HU HU (fun _ => ?_))
  refine Ga (GE HU HU ?_)
  refine qs 6 ?_
  refine Ga (GC HU HU HU (fun c50 => ?_) (fun c50 => ?_))
  ·refine qs 14 ?_
   first
   | exact Gb (L' := L) (F' := fL T a k c :: fEn [] none 0 0 :: F) Tryz.results150 rfl (Sub.drop.trans (Sub.drop.trans (Gg (mem2 memA memA (fun x hx => by repeat (first | exact hx | refine List.mem_cons_of_mem _ ?_)))))) (hOT [] none 0 0 (by rw [hfst, hx]; simp only; rw [if_pos (by rw [hqe]; first | exact .inl c50 | exact .inr c53)]))
   | exact Gb (L' := L.set iw (Res.cells bw #[.slice a33 k33 c33, .slice a2 k2 c2, .int .i64 0] 147)) (F' := fL o a33 k33 c33 :: fEn [⟨T[n].kids[0], true, false, []⟩] (some ⟨b64, 0, none⟩) 1 1 :: F) Tryz.results150 rfl (Sub.drop.trans (Sub.drop.trans (Gg (mem2 memA memA (fun x hx => by repeat (first | exact hx | refine List.mem_cons_of_mem _ ?_)))))) (hO o _ a33 k33 c33 _ _ _ (by rw [hfst, hx]; simp only; rw [if_neg (by rw [hqe]; rintro (h | h); exact c50 h; exact c53 h)]))
  refine qs 2 ?_
  refine Gh HU HU (GC HU HU HU (fun c53 => ?_) (fun c53 => ?_))
  ·refine qs 11 ?_
   first
   | exact Gb (L' := L) (F' := fL T a k c :: fEn [] none 0 0 :: F) Tryz.results150 rfl (Sub.drop.trans (Sub.drop.trans (Gg (mem2 memA memA (fun x hx => by repeat (first | exact hx | refine List.mem_cons_of_mem _ ?_)))))) (hOT [] none 0 0 (by rw [hfst, hx]; simp only; rw [if_pos (by rw [hqe]; first | exact .inl c50 | exact .inr c53)]))
   | exact Gb (L' := L.set iw (Res.cells bw #[.slice a33 k33 c33, .slice a2 k2 c2, .int .i64 0] 147)) (F' := fL o a33 k33 c33 :: fEn [⟨T[n].kids[0], true, false, []⟩] (some ⟨b64, 0, none⟩) 1 1 :: F) Tryz.results150 rfl (Sub.drop.trans (Sub.drop.trans (Gg (mem2 memA memA (fun x hx => by repeat (first | exact hx | refine List.mem_cons_of_mem _ ?_)))))) (hO o _ a33 k33 c33 _ _ _ (by rw [hfst, hx]; simp only; rw [if_neg (by rw [hqe]; rintro (h | h); exact c50 h; exact c53 h)]))
  refine qs 10 ?_
  refine Ga (Gu HU HU ?_)
  refine qs 1 ?_
  refine Ga (GA (cs := wCells a k c a2 k2 c2 0) (vs := [.slice a33 k33 c33, .slice a2 k2 c2]) HU HU HU HU ?_ (hi := (by repeat (first | exact has0 | assumption | apply hasS))) (ho := HU))
  refine qs 6 ?_
  refine Ga (Gj (k := 0) HU HU HU HU (show fK T[n] _ _ _ ∈ _ from memA) hk0 (fun _ _ => ?_))
  refine Ga (GE HU HU ?_)
  refine Ga (GI HU HU HU ?_)
  refine Ga (Gi HU HU HU HU HU (fun b64 => ?_))
  refine Gz (GR (GP (i := 0) (enc := eEn) (sz := 4) [(⟨T[n].kids[0], true, false, []⟩ : Ent)] HU (.val (.val (.val (.slc .nil memA)))) (fun _ => rfl) HU (by simp only [List.length_cons, List.length_nil, maxLen]; omega)) Gn) ?_
  refine qs 4 ?_
  first
  | exact Gb (L' := L) (F' := fL T a k c :: fEn [] none 0 0 :: F) Tryz.results150 rfl (Sub.drop.trans (Sub.drop.trans (Gg (mem2 memA memA (fun x hx => by repeat (first | exact hx | refine List.mem_cons_of_mem _ ?_)))))) (hOT [] none 0 0 (by rw [hfst, hx]; simp only; rw [if_pos (by rw [hqe]; first | exact .inl c50 | exact .inr c53)]))
  | exact Gb (L' := L.set iw (Res.cells bw #[.slice a33 k33 c33, .slice a2 k2 c2, .int .i64 0] 147)) (F' := fL o a33 k33 c33 :: fEn [⟨T[n].kids[0], true, false, []⟩] (some ⟨b64, 0, none⟩) 1 1 :: F) Tryz.results150 rfl (Sub.drop.trans (Sub.drop.trans (Gg (mem2 memA memA (fun x hx => by repeat (first | exact hx | refine List.mem_cons_of_mem _ ?_)))))) (hO o _ a33 k33 c33 _ _ _ (by rw [hfst, hx]; simp only; rw [if_neg (by rw [hqe]; rintro (h | h); exact c50 h; exact c53 h)]))
end
end Go.Sy
namespace Go.Sy
open Go Go.RowKit
section
variable {P : Program} {W0 : World} {n : Nat} {Q : Po} {ρ : Rho} {L : List Res} {F : List Fact} {K : Act → World → Prop}
variable {d : Tmp} {ty t yt : TypeId} {pos : String} {af : Array Edge} {g : Option (Nat × Bool)} {x y : Operand}
theorem AO.makeFuncB {f : FuncId} {fi cap : List Operand} {us vs : List Value} (hf : evL ρ fi = some us) (hc : evL ρ cap = some vs) (hd : Nat.blt d n = true) (h : AT W0 n K ((d, .func (.func f) us.toArray vs.toArray) :: ρ) L F) :
    AO P W0 n K ⟨some d, .makeFunc (.func f) fi.toArray cap.toArray, ty, pos, af, g⟩ Q ρ L F :=
  HK hd (fun a w s => by simp only [execOp, Instr.makeFunc, evL_eval s.slots hf, evL_eval s.slots hc]; simp) h
theorem AO.callB {f : FuncId} {oas : List Operand} {vs fi cs : List Value} {ts : Array TypeId} (hx : ev ρ x = some (.func (.func f) fi.toArray cs.toArray)) (ha : evL ρ oas = some vs) (hd : Nat.blt d n = true)
    (h : ACalls P W0 f (fi ++ vs ++ cs).toArray L F fun v L' F' => AT W0 n K ((d, v) :: ρ) L' F') [hf : FnT P f] : AO P W0 n K ⟨some d, .call ⟨.value x, oas.toArray, ts⟩, ty, pos, af, g⟩ Q ρ L F := by
  intro a w s
  refine AO.callGo HU hd s ?_ h
  have := evL_eval s.slots ha
  simp only [execOp, resolve, this, GD s.slots hx]
  simp [Deferred.ofValue, invoke, hf.call]
theorem Y.makeFunc {T : World → Prop} {dd : Option Tmp} {f : FuncId} {cap : List Operand} {vs : List Value} (hc : evL ρ cap = some vs) : Yd P n ρ T ⟨dd, .makeFunc (.func f) #[] cap.toArray, ty, pos, af, g⟩ (.func (.func f) #[] vs.toArray) :=
  ⟨fun a w s _ => by simp only [execOp, Instr.makeFunc, evL_eval s hc]; simp⟩
class TmT (P : Program) (t : TypeId) : Prop where
  eql : ∀ (a b : List UInt8) (i j : Int) (w : World), (binOp .eql t (.agg #[S a, .int .i64 i]) (.agg #[S b, .int .i64 j])).run P w = .ok (.bool (decide (a = b ∧ i = j))) w
  guard : ∀ (x y : Operand) (xs ys : Array Value) (w : World), (eqGuard .eql t x y (.agg xs) (.agg ys)).run P w = .ok () w
theorem TmT.of {f0 f1 : Field} (hu0 : P.underlying t = some (.struct #[f0, f1])) (h0 : f0.offset = 0) (h1 : f1.offset = 1) (n0 : f0.name ≠ "_") (n1 : f1.name ≠ "_") (u0 : P.underlying f0.type = some .string) (u1 : P.underlying f1.type = some (.int .i64)) (hp : P.stoodInHeld t = false) (hm : P.eqGuardType P.depth t = false) : TmT P t := by
  have hf0 : P.fieldsOf t = #[f0, f1] := by simp [Program.fieldsOf, hu0]
  have hu : P.underlying t = some (.struct (P.fieldsOf t)) := by rw [hf0]; exact hu0
  have hf : (P.fieldsOf t).toList = [f0, f1] := by rw [hf0]
  refine ⟨fun a b i j w => ?_, fun x y xs ys w => run_eqGuard_agg w _ t x y xs ys hm⟩
  rw [run_eql_struct, run_equalIn_struct w 9999 t _ _ hu hp, hf]
  simp only [Op.eqFields, if_pos n0, if_pos n1, h0, h1]
  have p0 : ∀ (c : List UInt8) (k : Int) w, (part f0.type #[S c, .int .i64 k] 0).run P w = .ok (S c) w := fun c k w => by simp [part, isAgg, run_underlying u0]
  have p1 : ∀ (c : List UInt8) (k : Int) w, (part f1.type #[S c, .int .i64 k] 1).run P w = .ok (.int .i64 k) w := fun c k w => by simp [part, isAgg, run_underlying u1]
  have p2 : ∀ w, (Op.equalIn 9999 f1.type (.int .i64 i) (.int .i64 j)).run P w = .ok (i == j) w := fun w => run_equalIn_int w 9998 _ _ _ _ _ u1
  simp only [Sem.run_bind, p0, Result.andThen_ok, run_equalIn_string w _ _ _ _ u0]
  by_cases c : a = b
  · subst c
    by_cases c2 : i = j
    · subst c2; simp [p1, p2, Result.andThen]
    simp [c2, p1, p2, Result.andThen]
  have : (ByteArray.toList ⟨a.toArray⟩ == ByteArray.toList ⟨b.toArray⟩) = false := by
    rw [ByteArray.toList_eq, ByteArray.toList_eq]; simpa using c
  simp [c, Result.andThen]
theorem Y.eqlT {T : World → Prop} {dd : Option Tmp} [ht : TmT P t] {a b : List UInt8} {i j : Int} (hx : ev ρ x = some (.agg #[S a, .int .i64 i])) (hy : ev ρ y = some (.agg #[S b, .int .i64 j])) : Yd P n ρ T ⟨dd, .binOp .eql t x y yt, ty, pos, af, g⟩ (.bool (decide (a = b ∧ i = j))) :=
  ⟨fun s w st _ => by simp only [execOp, GD st hx, GD st hy, Sem.run_bind, ht.guard, ht.eql, Result.andThen_ok]; simp⟩
end
end Go.Sy
namespace Go.Sy
open Go Go.Proofs Go.RowKit
abbrev fTm (l : List Tm) (a : Option Addr) (k c : Nat) : Fact := .slc (.slice a k c) 2 (l.map eTm)
abbrev vTm (x : Tm) : Value := .agg #[S x.1, .int .i64 x.2]
abbrev aCells (a : Option Addr) (k c : Nat) (a2 : Option Addr) (k2 c2 : Nat) (a3 : Option Addr) (k3 c3 : Nat) (bm : Nat) (e : Int) : List Value := [.slice a k c, .slice a2 k2 c2, .slice a3 k3 c3, .map (some bm), .int .i64 e]
set_option maxRecDepth 100000
instance : TmT Tryz.prog 144 := TmT.of Tryz.underlying144 rfl rfl (by decide) (by decide) Tryz.underlying9 Tryz.underlying3 HV HV
theorem tm_cells {hx : H} {b o : Nat} {x : Tm} (hat : AtR hx b o (eTm x)) : ∀ (j : Nat) (v : Value), [S x.1, Value.int .i64 x.2][j]? = some v → hx b (o + j) = some v := by
  intro j v hj
  obtain ⟨v0, h0, c0⟩ := hat 0 _ rfl
  obtain ⟨v1, h1, c1⟩ := hat 1 _ rfl
  cases c0
  cases c1
  match j with
  | 0 => injection hj with hj; subst hj; exact h0
  | 1 => injection hj with hj; subst hj; exact h1
  | j + 2 => simp at hj
theorem mark_61 : markB [61] = true := by decide
theorem mark_126 : markB [126] = true := by decide
theorem mark_no {w : List UInt8} (h1 : w ≠ [61]) (h2 : w ≠ [126]) : markB w = false := by unfold markB; simp [h1, h2]
theorem trm_yes {t : Ty} {q : Nat} (hq : q < t.words.length) (hk : q < t.kids.length) (h : markB t.words[q] = true) : trmN t (q + 1) = trmN t q ++ [(t.words[q], t.kids[q])] := by
  simp only [trmN]; rw [Gt _ hq, Gt _ hk, if_pos h]
theorem trm_no {t : Ty} {q : Nat} (hq : q < t.words.length) (h : markB t.words[q] = false) : trmN t (q + 1) = trmN t q := by
  simp only [trmN]; rw [Gt _ hq, h]; simp
theorem tm_pair {x y : Tm} (h : x.1 = y.1 ∧ x.2 = y.2) : x = y := Prod.ext h.1 h.2
attribute [local irreducible] AC AT AO AK AH ACalls Sub Res.cells Res.obj Res.nix Res.own Res.map Exit.then Exit.inBlock bodyPost Code.wp Code.wpIn WL Next Post Kont
section
variable {W0 : World} {L : List Res} {F : List Fact} {R : Value → List Res → List Fact → Prop}
set_option maxRecDepth 100000
set_option maxHeartbeats 16000000
theorem tunder_c (g : Glob W0) (T : List Ty) (N : List Nmd) (hno : ∀ n ∈ N, NmOk n) (hu : rightU T N) (i : Int) (h0 : 0 ≤ i) (hi : i < T.length) {a a2 a3 : Option Addr} {k c k2 c2 k3 c3 bm ba ia : Nat} (ha : L[ia]? = some (Res.cells ba (aCells a k c a2 k2 c2 a3 k3 c3 bm 0).toArray 140)) (mL : fL T a k c ∈ F) (mN : fN N a2 k2 c2 ∈ F) (mE : Fact.slc (.slice none 0 0) 5 [] ∈ F)
    (hE : ∀ e, e ≠ 0 → undR T N i = .error e → R (.int .i64 0) (L.set ia (Res.cells ba (aCells a k c a2 k2 c2 a3 k3 c3 bm e).toArray 140)) F)
    (hO : ∀ o q a k c, undR T N i = .ok (o, q) → R (.int .i64 q) (L.set ia (Res.cells ba (aCells a k c a2 k2 c2 a3 k3 c3 bm 0).toArray 140)) (fL o a k c :: F)) :
    ACalls Tryz.prog W0 129 #[.pointer (some ⟨ba, 0, none⟩), .int .i64 i] L F R := by
  refine Ge Tryz.func129 HU Tryz.ntmps129 HU ?_
  refine qs 8 ?_
  refine Ga (Gu HU HU ?_)
  refine qs 1 ?_
  refine Ga (AO.loadBA (cs := aCells a k c a2 k2 c2 a3 k3 c3 bm 0) HU HU ?_ (hi := (by repeat (first | exact has0 | assumption | apply hasS))) (hk := HU))
  refine qs 1 ?_
  refine Ga (Gd HU HU (uundE_c g T N hno hu i h0 hi memA memA memA (fun e he hx => ?_) (fun o q a14 k14 c14 hx => ?_)))
  ·refine qs 4 ?_
   refine Ga (Gq HU (fun b5 => ?_))
   refine qs 9 ?_
   refine Ga (GK HU HU HU (fun _ => ?_) (fun c19 => absurd c19 he))
   refine qs 7 ?_
   refine Ga (Gu HU HU ?_)
   refine qs 1 ?_
   refine Ga (Gs (cs := aCells a k c a2 k2 c2 a3 k3 c3 bm 0) HU HU HU ?_ (hi := (by repeat (first | exact has0 | assumption | apply hasS))) (ho := HU))
   refine qs 9 ?_
   exact Gb (L' := L.set ia (Res.cells ba (aCells a k c a2 k2 c2 a3 k3 c3 bm e).toArray 140)) (F' := F) Tryz.results129 rfl subA (hE e he hx)
  refine qs 4 ?_
  refine Ga (Gq HU (fun b5 => ?_))
  refine qs 9 ?_
  refine Ga (GK HU HU HU (fun c19 => absurd HU c19) (fun _ => ?_))
  refine qs 9 ?_
  refine Ga (Gu HU HU ?_)
  refine qs 1 ?_
  refine Ga (GA (cs := aCells a k c a2 k2 c2 a3 k3 c3 bm 0) (vs := [.slice a14 k14 c14, .slice a2 k2 c2]) HU HU HU HU ?_ (hi := (by repeat (first | exact has0 | assumption | apply hasS))) (ho := HU))
  refine qs 9 ?_
  exact Gb (L' := L.set ia (Res.cells ba (aCells a14 k14 c14 a2 k2 c2 a3 k3 c3 bm 0).toArray 140)) (F' := fL o a14 k14 c14 :: F) Tryz.results129 rfl subA (hO o q a14 k14 c14 hx)
theorem tterms_c (t : Ty) (hl : t.words.length ≤ 20) (hk : t.words.length ≤ t.kids.length) {a1 a2 : Option Addr} {k1 c1 k2 c2 : Nat} (m1 : fW t a1 k1 c1 ∈ F) (m2 : fK t a2 k2 c2 ∈ F)
    (h : ∀ a k c, R (.slice a k c) L (fTm (trmL t) a k c :: F)) : ACalls Tryz.prog W0 80 #[vTy t a1 k1 c1 a2 k2 c2] L F R := by
  have hml : 1000000 ≤ maxLen := by decide
  refine Ge Tryz.func80 HU Tryz.ntmps80 HU ?_
  refine qs 2 ?_
  refine Ga (GJ HU HU (fun b1 => ?_))
  refine qs 13 ?_
  refine Ga (Gv HU HU (fun hl8 => ?_) (enc := eS) (lst := t.words) (hm := memA))
  refine qs 4 ?_
  refine GN (fun (x : Nat × Option Addr × Nat × Nat) => x.1 ≤ t.words.length) (fun x => [(1, .pointer (some ⟨b1, 0, none⟩)), (3, .slice x.2.1 x.2.2.1 x.2.2.2), (7, .slice a1 k1 c1), (8, .int .i64 t.words.length), (9, .int .i64 (x.1 : Int))]) (fun x => Res.own (.slice x.2.1 x.2.2.1 x.2.2.2) 144 2 ((trmN t x.1).map eTm) :: _) (fun _ => _) (fun x => t.words.length - x.1) (0, none, 0, 0) (by simp) srA Ha ?_
  rintro ⟨q, a3, k3, c3⟩ hq
  simp only at hq ⊢
  refine qs 2 ?_
  refine Ga (GB HU HU HU (fun c10 => ?_) (fun c10 => ?_))
  ·refine qs 11 ?_
   have hql : q < t.words.length := by omega
   have hqk : q < t.kids.length := by omega
   have htl := trmN_len t q
   refine Ga (Gj HU HU HU HU (enc := eS) (lst := t.words) memA hql (fun _ _ => ?_))
   refine Ga (GE HU HU ?_)
   intros
   refine qs 7 ?_
   refine Ga (Hu HU HU HU (fun c15 => ?_) (fun c15 => ?_))
   ·refine qs 13 ?_
    refine Ga (Gj HU HU HU HU (enc := eI) (lst := t.kids) memA hqk (fun _ _ => ?_))
    refine Ga (GE HU HU ?_)
    intros
    refine qs 1 ?_
    refine Ga (Gi HU HU HU HU HU (fun b28 => ?_))
    refine Ga (GZ (i := 0) (enc := eTm) (lst := trmN t q) [(t.words[q], t.kids[q])] HU HU HU HU (.val (.val .nil)) HU HU (fun _ => rfl) (by first | omega | (simp only [List.length_append, List.length_singleton]; omega)) HW (fun a29 k29 c29 => ?_))
    rw [← trm_yes hql hqk (by rw [c15]; exact mark_61)]
    refine qs 8 ?_
    exact Gl (q + 1, a29, k29, c29) (by simp only; omega) (by simp only; omega) srA subF
   refine qs 2 ?_
   refine Gh HU HU (Hu HU HU HU (fun c18 => ?_) (fun c18 => ?_))
   ·refine qs 10 ?_
    refine Ga (Gj HU HU HU HU (enc := eI) (lst := t.kids) memA hqk (fun _ _ => ?_))
    refine Ga (GE HU HU ?_)
    intros
    refine qs 1 ?_
    refine Ga (Gi HU HU HU HU HU (fun b28 => ?_))
    refine Ga (GZ (i := 0) (enc := eTm) (lst := trmN t q) [(t.words[q], t.kids[q])] HU HU HU HU (.val (.val .nil)) HU HU (fun _ => rfl) (by first | omega | (simp only [List.length_append, List.length_singleton]; omega)) HW (fun a29 k29 c29 => ?_))
    rw [← trm_yes hql hqk (by rw [c18]; exact mark_126)]
    refine qs 8 ?_
    exact Gl (q + 1, a29, k29, c29) (by simp only; omega) (by simp only; omega) srA subF
   refine qs 11 ?_
   refine Gl (q + 1, a3, k3, c3) (by simp only; omega) (by simp only; omega) srA ?_
   rw [trm_no hql (mark_no c15 c18)]
   exact subF
  refine qs 16 ?_
  obtain rfl : q = t.words.length := by omega
  exact Gb (L' := L) (F' := fTm (trmL t) a3 k3 c3 :: F) Tryz.results80 rfl ((GH (i := 0) rfl).trans (by repeat (first | exact Hk (fun x hx => by repeat (first | exact hx | refine List.mem_cons_of_mem _ ?_)) | refine GR Gn ?_))) (h _ _ _)
theorem tindexT_c (l : List Tm) (x : Tm) (hl : l.length ≤ 1000000) {a : Option Addr} {k c : Nat} (m1 : fTm l a k c ∈ F)
    (h : ∀ r : Int, (r = -1 ∧ x ∉ l) ∨ (0 ≤ r ∧ x ∈ l) → R (.int .i64 r) L F) : ACalls Tryz.prog W0 216 #[.slice a k c, vTm x] L F R := by
  refine Ge Tryz.func216 HU Tryz.ntmps216 HU ?_
  refine qs 2 ?_
  refine Ga (GJ HU HU (fun b3 => ?_))
  refine qs 7 ?_
  refine Ga (Gv HU HU (fun hl7 => ?_) (enc := eTm) (lst := l) (hm := memA))
  refine qs 4 ?_
  refine GN (fun (v : Nat) => v ≤ l.length ∧ x ∉ l.take v) (fun v => [(0, .slice a k c), (3, .pointer (some ⟨b3, 0, none⟩)), (6, .slice a k c), (7, .int .i64 l.length), (8, .int .i64 (v : Int))]) (fun _ => _) (fun _ => _) (fun v => l.length - v) 0 ⟨Nat.zero_le _, by simp⟩ srA (Gk _ _) ?_
  rintro v ⟨hv, hn⟩
  refine qs 2 ?_
  refine Ga (GB HU HU HU (fun c9 => ?_) (fun c9 => ?_))
  ·refine qs 15 ?_
   refine GO (fun _ => false) [(b3, _, _)] bxA HU (fun hx hX => ?_)
   have hvl : v < l.length := by omega
   have hkk := (Gy (hX (fTm l a k c) memA)).1
   obtain ⟨p1, o1, e1, at1⟩ := GG (hX (fTm l a k c) memA) hvl
   subst e1
   have hv1 := tm_cells at1
   refine qt [0, 1, 2] ?_
   refine GF (i := 3) HU (GM (k := v) HU HU HU HW) HV HU HU ?_
   refine GV (i := 4) HU (HJ HU HU hv1) HV HV HU HU HU ?_
   refine He (i := 5) HU (Y.eqlT (a := x.1) (i := x.2) (b := l[v].1) (j := l[v].2) HU HU) HV HU HU (fun c16 => ?_) (fun c16 => ?_)
   all_goals simp only [decide_eq_true_eq, decide_eq_false_iff_not] at c16
   ·refine Gm HV ?_
    refine qs 14 ?_
    exact Gb (L' := L) (F' := F) Tryz.results216 rfl subA (h v (.inr ⟨by omega, tm_pair c16 ▸ List.getElem_mem hvl⟩))
   refine Gm HV ?_
   refine qs 9 ?_
   exact Gl (v + 1) ⟨hvl, by rw [List.take_succ_eq_append_getElem hvl, List.mem_append, List.mem_singleton]; rintro (h1 | h1); exact hn h1; exact c16 (by rw [h1]; exact ⟨rfl, rfl⟩)⟩ HW srA subF
  refine qs 15 ?_
  obtain rfl : v = l.length := by omega
  exact Gb (L' := L) (F' := F) Tryz.results216 rfl subA (h (-1) (.inl ⟨rfl, by rwa [List.take_length] at hn⟩))
theorem tcontains_c (l : List Tm) (x : Tm) (hl : l.length ≤ 1000000) {a : Option Addr} {k c : Nat} (m1 : fTm l a k c ∈ F) (hT : x ∈ l → R (.bool true) L F) (hF : x ∉ l → R (.bool false) L F) :
    ACalls Tryz.prog W0 185 #[.slice a k c, vTm x] L F R := by
  refine Ge Tryz.func185 HU Tryz.ntmps185 HU ?_
  refine qs 2 ?_
  refine Ga (GJ HU HU (fun b3 => ?_))
  refine qs 7 ?_
  refine Ga (Gd HU HU (tindexT_c l x hl memA (fun r hr => ?_)))
  refine Ga (Hh HU HU HU (fun c8 => ?_) (fun c8 => ?_))
  ·refine qs 4 ?_
   exact Gb (L' := L) (F' := F) Tryz.results185 rfl subA (hT (by rcases hr with ⟨h1, _⟩ | ⟨_, h1⟩; omega; exact h1))
  refine qs 4 ?_
  exact Gb (L' := L) (F' := F) Tryz.results185 rfl subA (hF (by rcases hr with ⟨_, h1⟩ | ⟨h1, _⟩; exact h1; omega))
theorem twithin_c (g : Glob W0) (T : List Ty) (N : List Nmd) (hno : ∀ n ∈ N, NmOk n) (hu : rightU T N) (x : Tm) (h0 : 0 ≤ x.2) (hi : x.2 < T.length) (l : List Tm) (hl : l.length ≤ 1000000) {a a2 a3 a4 : Option Addr} {k c k2 c2 k3 c3 k4 c4 bm ba ia : Nat} (ha : L[ia]? = some (Res.cells ba (aCells a k c a2 k2 c2 a3 k3 c3 bm 0).toArray 140)) (mL : fL T a k c ∈ F) (mN : fN N a2 k2 c2 ∈ F) (mE : Fact.slc (.slice none 0 0) 5 [] ∈ F) (mT : fTm l a4 k4 c4 ∈ F)
    (hE : ∀ e, e ≠ 0 → withinR N T x l = .error e → R (.bool false) (L.set ia (Res.cells ba (aCells a k c a2 k2 c2 a3 k3 c3 bm e).toArray 140)) F)
    (hF : ∀ a k c, withinR N T x l = .ok none → R (.bool false) (L.set ia (Res.cells ba (aCells a k c a2 k2 c2 a3 k3 c3 bm 0).toArray 140)) F)
    (hT : ∀ o a k c, withinR N T x l = .ok (some o) → R (.bool true) (L.set ia (Res.cells ba (aCells a k c a2 k2 c2 a3 k3 c3 bm 0).toArray 140)) (fL o a k c :: F)) :
    ACalls Tryz.prog W0 136 #[.pointer (some ⟨ba, 0, none⟩), vTm x, .slice a4 k4 c4] L F R := by
  have hsame : L.set ia (Res.cells ba (aCells a k c a2 k2 c2 a3 k3 c3 bm 0).toArray 140) = L := by
    have h2 := (List.getElem?_eq_some_iff.1 ha).2
    rw [← h2]; exact List.set_getElem_self _
  refine Ge Tryz.func136 HU Tryz.ntmps136 HU ?_
  refine qs 2 ?_
  refine Ga (GJ HU HU (fun b4 => ?_))
  refine qs 8 ?_
  refine Ga (Gd HU HU (tcontains_c l x hl memA (fun c10 => ?_) (fun c10 => ?_)))
  ·refine qs 10 ?_
   refine Gb (L' := L) (F' := fL T a k c :: F) Tryz.results136 HU (Sub.drop.trans (Gg (mem1 memA (fun x hx => by repeat (first | exact hx | refine List.mem_cons_of_mem _ ?_))))) ?_
   have h9 := hT T a k c (by unfold withinR; rw [if_pos c10])
   rwa [hsame] at h9
  refine qs 10 ?_
  refine Ga (Hu HU HU HU (fun c13 => ?_) (fun c13 => ?_))
  ·refine qs 10 ?_
   refine Gb (L' := L) (F' := F) Tryz.results136 HU subA ?_
   have h9 := hF a k c (by unfold withinR; rw [if_neg c10, if_pos c13])
   rwa [hsame] at h9
  refine qs 10 ?_
  refine Ga (Gd HU HU (tunder_c g T N hno hu x.2 h0 hi (ia := ia + 1) ha memA memA memA (fun e he hx => ?_) (fun o q a17 k17 c17 hx => ?_)))
  ·refine qs 6 ?_
   refine Ga (Gu HU HU ?_)
   refine qs 1 ?_
   refine Ga (Gw (cs := aCells a k c a2 k2 c2 a3 k3 c3 bm e) HU HU ?_ (i := ia + 1) (hi := List.getElem?_set_self (Nat.succ_lt_succ (HD ha))) (hv := HU))
   refine Ga (GC HU HU HU (fun c22 => absurd c22 he) (fun _ => ?_))
   refine qs 10 ?_
   exact Gb (L' := L.set ia (Res.cells ba (aCells a k c a2 k2 c2 a3 k3 c3 bm e).toArray 140)) (F' := F) Tryz.results136 rfl subA (hE e he (by unfold withinR; rw [if_neg c10, if_neg c13, hx]))
  refine qs 6 ?_
  refine Ga (Gu HU HU ?_)
  refine qs 1 ?_
  refine Ga (Gw (cs := aCells a17 k17 c17 a2 k2 c2 a3 k3 c3 bm 0) HU HU ?_ (i := ia + 1) (hi := List.getElem?_set_self (Nat.succ_lt_succ (HD ha))) (hv := HU))
  refine Ga (GC HU HU HU (fun _ => ?_) (fun c22 => absurd HU c22))
  refine qs 4 ?_
  refine Gh HU HU (Gd HU HU (tcontains_c l ([126], q) hl memA (fun c27 => ?_) (fun c27 => ?_)))
  ·refine qs 5 ?_
   exact Gb (L' := L.set ia (Res.cells ba (aCells a17 k17 c17 a2 k2 c2 a3 k3 c3 bm 0).toArray 140)) (F' := fL o a17 k17 c17 :: F) Tryz.results136 rfl subA (hT o a17 k17 c17 (by unfold withinR; rw [if_neg c10, if_neg c13, hx]; simp only; rw [if_pos c27]))
  refine qs 5 ?_
  exact Gb (L' := L.set ia (Res.cells ba (aCells a17 k17 c17 a2 k2 c2 a3 k3 c3 bm 0).toArray 140)) (F' := F) Tryz.results136 rfl subA (hF a17 k17 c17 (by unfold withinR; rw [if_neg c10, if_neg c13, hx]; simp only; rw [if_neg c27]))
end
end Go.Sy
namespace Go.Sy
open Go Go.Proofs Go.RowKit
def badO {σ : Type} (r : Except Int (Option σ)) (e : Int) : Prop := (e ≠ 0 ∧ r = .error e) ∨ (e = 0 ∧ r = .ok none)
theorem all_bad {σ α : Type} {f : σ → α → Except Int (Option σ)} {l : List α} {s s' : σ} {q : Nat} {e : Int} (hq : q < l.length) (h : allR f (l.take q) s = .ok (some s')) (hb : badO (f s' l[q]) e) : badO (allR f l s) e := by
  rcases hb with ⟨h1, h2⟩ | ⟨h1, h2⟩
  · exact .inl ⟨h1, all_err hq h h2⟩
  exact .inr ⟨h1, all_no hq h h2⟩
theorem getP {A L : List Res} (i : Nat) : (A ++ L)[A.length + i]? = L[i]? := by rw [List.getElem?_append_right HW, Nat.add_sub_cancel_left]
theorem setP {A L : List Res} (i : Nat) (r : Res) : (A ++ L).set (A.length + i) r = A ++ L.set i r := by rw [List.set_append_right _ _ HW, Nat.add_sub_cancel_left]
section
variable {N : List Nmd} {B : List Int} {f : Nat} {T T1 : List Ty} {A : List Int} {i k e : Int}
theorem cmp_asked (h : i ∈ A) : cmpR N B (f + 1) (T, A) i = .ok (some (T, A)) := by simp only [cmpR]; rw [if_pos h]
theorem cmp_err (h : i ∉ A) (hx : undR T N i = .error e) : cmpR N B (f + 1) (T, A) i = .error e := by simp only [cmpR]; rw [if_neg h, hx]
theorem cmp_yes (h : i ∉ A) (hx : undR T N i = .ok (T1, k)) (hk : (tyAt T1 k).kind = 0 ∨ (tyAt T1 k).kind = 1 ∨ (tyAt T1 k).kind = 7) : cmpR N B (f + 1) (T, A) i = .ok (some (T1, i :: A)) := by simp only [cmpR]; rw [if_neg h, hx]; simp only; rw [if_pos hk]
theorem cmp_all (h : i ∉ A) (hx : undR T N i = .ok (T1, k)) (hk : (tyAt T1 k).kind = 3 ∨ (tyAt T1 k).kind = 6) : cmpR N B (f + 1) (T, A) i = allR (cmpR N B f) (tyAt T1 k).kids (T1, i :: A) := by simp only [cmpR]; rw [if_neg h, hx]; simp only; rw [if_neg HW, if_pos hk]
theorem cmp_no (h : i ∉ A) (hx : undR T N i = .ok (T1, k)) (h1 : ¬((tyAt T1 k).kind = 0 ∨ (tyAt T1 k).kind = 1 ∨ (tyAt T1 k).kind = 7)) (h2 : ¬((tyAt T1 k).kind = 3 ∨ (tyAt T1 k).kind = 6)) (hb : boundR T1 B (tyAt T1 k) = none) : cmpR N B (f + 1) (T, A) i = .ok none := by simp only [cmpR]; rw [if_neg h, hx]; simp only; rw [if_neg h1, if_neg h2, hb]
theorem cmp_bnd (h : i ∉ A) (hx : undR T N i = .ok (T1, k)) (h9 : (tyAt T1 k).kind = 9) {b : Ty} (hb : boundR T1 B (tyAt T1 k) = some b) : cmpR N B (f + 1) (T, A) i = if b.n % 2 = 1 then .ok (some (T1, i :: A)) else if 2 ≤ b.n then allR (cmpR N B f) ((trmL b).map (·.2)) (T1, i :: A) else .ok none := by simp only [cmpR]; rw [if_neg h, hx]; simp only; rw [if_neg HW, if_neg HW, hb]
end
theorem iface_n {T : List Ty} (hr : rightP T) {k : Int} (h0 : 0 ≤ k) (hk : k < T.length) (h7 : (tyAt T k).kind = 7) : 0 ≤ (tyAt T k).n ∧ (tyAt T k).n ≤ 3 ∧ (tyAt T k).words.length = (tyAt T k).kids.length := by
  obtain ⟨hn, e⟩ := GQ h0 hk
  rw [e] at h7 ⊢
  have hl := (GL hr hn).iface h7
  by_cases c : k.toNat < 22
  · have hrow := hr.2.2 _ hn
    unfold rowAt at hrow
    rw [if_pos c] at hrow
    have h3 : ∀ q < 22, 0 ≤ (startL.getD q (basicT [])).n ∧ (startL.getD q (basicT [])).n ≤ 3 := by decide
    rw [hrow] at hl ⊢
    exact ⟨(h3 _ c).1, (h3 _ c).2, hl⟩
  have hrow := hr.2.2 _ hn
  unfold rowAt at hrow
  rw [if_neg c] at hrow
  obtain ⟨⟨_, _, _, _, hm⟩, _⟩ := hrow
  have := (madeK_7 h7).1 hm
  exact ⟨this.2.1, this.2.2.1, hl⟩
attribute [local irreducible] AC AT AO AK AH ACalls Sub Res.cells Res.obj Res.nix Res.own Res.map Exit.then Exit.inBlock bodyPost Code.wp Code.wpIn WL Next Post Kont
section
variable {W0 : World} {L : List Res} {F : List Fact} {R : Value → List Res → List Fact → Prop}
set_option maxRecDepth 100000
set_option maxHeartbeats 16000000
theorem trestricts_c (t : Ty) {a1 a2 : Option Addr} {k1 c1 k2 c2 : Nat} (hT : 2 ≤ t.n → R (.bool true) L F) (hF : ¬ 2 ≤ t.n → R (.bool false) L F) : ACalls Tryz.prog W0 78 #[vTy t a1 k1 c1 a2 k2 c2] L F R := by
  refine Ge Tryz.func78 HU Tryz.ntmps78 HU ?_
  refine qs 2 ?_
  refine Ga (GJ HU HU (fun b1 => ?_))
  refine qs 7 ?_
  refine Ga (Hh HU HU HU (fun c5 => ?_) (fun c5 => ?_))
  ·refine qs 4 ?_
   exact Gb (L' := L) (F' := F) Tryz.results78 rfl subA (hT HW)
  refine qs 4 ?_
  exact Gb (L' := L) (F' := F) Tryz.results78 rfl subA (hF HW)
theorem tbound_c (T : List Ty) (B : List Int) (hB : bndP T B) (t : Ty) (hn : 0 ≤ t.n) {a a2 a3 a4 a5 : Option Addr} {k c k2 c2 k3 c3 k4 c4 k5 c5 bm ba ia : Nat} {e : Int} (ha : L[ia]? = some (Res.cells ba (aCells a k c a2 k2 c2 a3 k3 c3 bm e).toArray 140)) (mL : fL T a k c ∈ F) (mB : fI B a3 k3 c3 ∈ F)
    (hS : ∀ b a1 k1 c1 a2 k2 c2, boundR T B t = some b → R (.tuple #[vTy b a1 k1 c1 a2 k2 c2, .bool true]) L (fW b a1 k1 c1 :: fK b a2 k2 c2 :: F))
    (hN : boundR T B t = none → R (.tuple #[vTy noTy none 0 0 none 0 0, .bool false]) L F) :
    ACalls Tryz.prog W0 131 #[.pointer (some ⟨ba, 0, none⟩), vTy t a4 k4 c4 a5 k5 c5] L F R := by
  refine Ge Tryz.func131 HU Tryz.ntmps131 HU ?_
  refine qs 2 ?_
  refine Ga (GJ HU HU (fun b3 => (Ga (Gq HU (fun b4 => ?_)))))
  refine qs 5 ?_
  refine GO (fun _ => false) [(b3, _, _), (ba, _, _)] bxA HU (fun hx hX => ?_)
  have hkB := (Gy (hX (fI B a3 k3 c3) memA)).1
  refine qt [0, 1] ?_
  refine He (i := 2) HU (Y.neq HU HU) HV HU HU (fun c8 => ?_) (fun c8 => ?_)
  ·replace c8 := ne_of_bne c8
   refine qt [3, 4, 5, 6, 7, 8, 9, 10, 11, 12] ?_
   refine Gm HV ?_
   refine qs 4 ?_
   refine Ga (GI HU HU HU ?_)
   refine qs 6 ?_
   exact GS (rs := [.cell 4 _, .tmp 5]) (L' := L) (F' := F) Tryz.results131 (.agg (j := 0) rfl rfl rfl (.tmp rfl .nil)) subA (hN (by unfold boundR; rw [if_neg (fun h => c8 h.1)]))
  replace c8 := eq_of_bneF c8
  refine qt [3, 4, 5, 6, 7, 8, 9, 10] ?_
  refine He (i := 11) HU (Y.geq HU HU) HV HU HU (fun c17 => ?_) (fun c17 => ?_)
  ·replace c17 := of_decide_eq_true c17
   refine qt [12] ?_
   refine Gm HV ?_
   refine qs 4 ?_
   refine Ga (GI HU HU HU ?_)
   refine qs 6 ?_
   exact GS (rs := [.cell 4 _, .tmp 5]) (L' := L) (F' := F) Tryz.results131 (.agg (j := 0) rfl rfl rfl (.tmp rfl .nil)) subA (hN (by unfold boundR; rw [if_neg (fun h => by omega)]))
  replace c17 := of_decide_eq_false c17
  refine qt [12] ?_
  refine Gm HV ?_
  refine qs 5 ?_
  refine GO (fun _ => false) [(b3, _, _), (ba, _, _)] bxA HU (fun hx hX => ?_)
  have hkB := (Gy (hX (fI B a3 k3 c3) memA)).1
  have hkT := (Gy (hX (fL T a k c) memA)).1
  have hnB : t.n.toNat < B.length := by omega
  obtain ⟨p1, o1, e1, at1⟩ := GG (hX (fI B a3 k3 c3) memA) hnB
  subst e1
  obtain ⟨v1, hv1, hc1⟩ := at1 0 _ rfl
  cases hc1
  obtain ⟨hb0, hb1, hb7⟩ := hB.2 _ (List.getElem_mem hnB)
  obtain ⟨hnT, hte⟩ := GQ hb0 hb1
  obtain ⟨p2, o2, e2, at2⟩ := GG (hX (fL T a k c) memA) hnT
  subst e2
  obtain ⟨w1, x1, y1, w2, x2, y2, hv2, hw1, hw2⟩ := ty_cells at2
  refine Hv hw1 memA (Hv hw2 memA ?_)
  refine qt [0, 1, 2, 3, 4, 5, 6, 7, 8, 9, 10] ?_
  refine GF (i := 11) HU (GM (k := t.n.toNat) HU HU HW HW) HV HU HU ?_
  refine GV (i := 12) HU (Y.loadF HU hv1) HV HV HU HU HU ?_
  refine GF (i := 13) HU (GM (k := B[t.n.toNat].toNat) HU HU HW HW) HV HU HU ?_
  refine GV (i := 14) HU (HJ HU HU hv2) HV HV HU HU HU ?_
  refine Gf (i := 15) HV HU HU (fun _ => ?_)
  refine GA HU HU HU HU ?_
  refine Gc bxA memB ?_
  refine qt [16] ?_
  refine Gm HV ?_
  refine qs 2 ?_
  exact GS (rs := [.cell 4 _, .tmp 5]) (L' := L) (F' := fW T[B[t.n.toNat].toNat] w1 x1 y1 :: fK T[B[t.n.toNat].toNat] w2 x2 y2 :: F) Tryz.results131 (.agg (j := 0) rfl rfl rfl (.tmp rfl .nil)) (Sub.drop.trans (Sub.drop.trans (Gg (mem2 memA memA (fun x hx => by repeat (first | exact hx | refine List.mem_cons_of_mem _ ?_)))))) (hS _ _ _ _ _ _ _ (by unfold boundR; rw [if_pos ⟨c8, by omega⟩, Gt 0 hnB, hte]))
theorem tallI_c {σ μ : Type} (stp : σ → Int → Except Int (Option σ)) (l : List Int) (hl : l.length ≤ 1000) (I : σ → μ → Prop) (Lm : μ → Int → List Res) (Fm : σ → μ → List Fact) (Fb : List Fact) (aC : μ → Int → List Value) {ba ia : Nat} (HA : ∀ x e, (Lm x e)[ia]? = some (Res.cells ba (aC x e).toArray 140)) (HC : ∀ x e, (aC x e)[4]? = some (.int .i64 e)) {a : Option Addr} {k c : Nat} (HL : ∀ s x, fI l a k c ∈ Fm s x) {f : FuncId} [hf : FnT Tryz.prog f] {fi cs : List Value}
    (hg : ∀ (A : List Res) q (hq : q < l.length) s x {R' : Value → List Res → List Fact → Prop}, I s x → (∀ s' x', stp s l[q] = .ok (some s') → I s' x' → R' (.bool true) (A ++ Lm x' 0) (Fm s' x')) → (∀ e x', badO (stp s l[q]) e → R' (.bool false) (A ++ Lm x' e) Fb) → ACalls Tryz.prog W0 f (fi ++ [Value.int .i64 l[q]] ++ cs).toArray (A ++ Lm x 0) (Fm s x) R')
    (s0 : σ) (x0 : μ) (hI0 : I s0 x0) (hS : ∀ s x, allR stp l s0 = .ok (some s) → I s x → R (.bool true) (Lm x 0) (Fm s x)) (hN : ∀ e x, badO (allR stp l s0) e → R (.bool false) (Lm x e) Fb) :
    ACalls Tryz.prog W0 130 #[.pointer (some ⟨ba, 0, none⟩), .slice a k c, .func (.func f) fi.toArray cs.toArray] (Lm x0 0) (Fm s0 x0) R := by
  refine Ge Tryz.func130 HU Tryz.ntmps130 HU ?_
  refine qs 9 ?_
  refine Ga (Gv HU HU (fun hl10 => ?_) (enc := eI) (lst := l) (hm := HL _ _))
  refine qs 4 ?_
  refine GN (fun (y : Nat × σ × μ) => y.1 ≤ l.length ∧ I y.2.1 y.2.2 ∧ allR stp (l.take y.1) s0 = .ok (some y.2.1)) (fun y => [(0, .pointer (some ⟨ba, 0, none⟩)), (2, .func (.func f) fi.toArray cs.toArray), (9, .slice a k c), (10, .int .i64 l.length), (11, .int .i64 (y.1 : Int))]) (fun y => Lm y.2.2 0) (fun y => Fm y.2.1 y.2.2) (fun y => l.length - y.1) (0, s0, x0) ⟨Nat.zero_le _, hI0, rfl⟩ srA (Gk _ _) ?_
  rintro ⟨q, s, x⟩ ⟨hq, hI, hal⟩
  simp only at hq hI hal ⊢
  refine qs 2 ?_
  refine Ga (GB HU HU HU (fun c12 => ?_) (fun c12 => ?_))
  ·refine qs 10 ?_
   have hql : q < l.length := by omega
   refine Ga (Gj HU HU HU HU (enc := eI) (lst := l) (HL _ _) hql (fun _ _ => ?_))
   refine Ga (GE HU HU ?_)
   intros
   refine qs 7 ?_
   refine Ga (AO.callB (fi := fi) (cs := cs) HU HU HU (Hr subF (hg [] q hql s x hI (fun s' x' hx hI' => ?_) (fun e x' hx => ?_))))
   ·refine qs 3 ?_
    refine Gh HU HU (Gu HU HU ?_)
    refine qs 1 ?_
    refine Gh HU HU (Gw (cs := aC x' 0) HU HU ?_ (hi := HA x' 0) (hv := HC x' 0))
    refine Gh HU HU (GK HU HU HU (fun c24 => absurd HU c24) (fun _ => ?_))
    refine qs 11 ?_
    exact Gl (q + 1, s', x') ⟨by simp only; omega, hI', by simp only; rw [all_step hql hal, hx]⟩ (by simp only; omega) srA (Gk _ _)
   refine qs 22 ?_
   exact Gb Tryz.results130 rfl (Gk _ _) (hN e x' (all_bad hql hal hx))
  refine qs 15 ?_
  obtain rfl : q = l.length := by omega
  rw [List.take_length] at hal
  exact Gb Tryz.results130 rfl (Gk _ _) (hS s x hal hI)
theorem tallT_c {σ μ : Type} (stp : σ → Tm → Except Int (Option σ)) (l : List Tm) (hl : l.length ≤ 1000) (I : σ → μ → Prop) (Lm : μ → Int → List Res) (Fm : σ → μ → List Fact) (Fb : List Fact) (aC : μ → Int → List Value) {ba ia : Nat} (HA : ∀ x e, (Lm x e)[ia]? = some (Res.cells ba (aC x e).toArray 140)) (HC : ∀ x e, (aC x e)[4]? = some (.int .i64 e)) {a : Option Addr} {k c : Nat} (HL : ∀ s x, fTm l a k c ∈ Fm s x) {f : FuncId} [hf : FnT Tryz.prog f] {cs : List Value}
    (hg : ∀ (A : List Res) q (hq : q < l.length) s x {R' : Value → List Res → List Fact → Prop}, I s x → (∀ s' x', stp s l[q] = .ok (some s') → I s' x' → R' (.bool true) (A ++ Lm x' 0) (Fm s' x')) → (∀ e x', badO (stp s l[q]) e → R' (.bool false) (A ++ Lm x' e) Fb) → ACalls Tryz.prog W0 f (vTm l[q] :: cs).toArray (A ++ Lm x 0) (Fm s x) R')
    (s0 : σ) (x0 : μ) (hI0 : I s0 x0) (hS : ∀ s x, allR stp l s0 = .ok (some s) → I s x → R (.bool true) (Lm x 0) (Fm s x)) (hN : ∀ e x, badO (allR stp l s0) e → R (.bool false) (Lm x e) Fb) :
    ACalls Tryz.prog W0 132 #[.pointer (some ⟨ba, 0, none⟩), .slice a k c, .func (.func f) #[] cs.toArray] (Lm x0 0) (Fm s0 x0) R := by
  refine Ge Tryz.func132 HU Tryz.ntmps132 HU ?_
  refine qs 9 ?_
  refine Ga (Gv HU HU (fun hl10 => ?_) (enc := eTm) (lst := l) (hm := HL _ _))
  refine qs 4 ?_
  refine GN (fun (y : Nat × σ × μ) => y.1 ≤ l.length ∧ I y.2.1 y.2.2 ∧ allR stp (l.take y.1) s0 = .ok (some y.2.1)) (fun y => [(0, .pointer (some ⟨ba, 0, none⟩)), (2, .func (.func f) #[] cs.toArray), (9, .slice a k c), (10, .int .i64 l.length), (11, .int .i64 (y.1 : Int))]) (fun y => Lm y.2.2 0) (fun y => Fm y.2.1 y.2.2) (fun y => l.length - y.1) (0, s0, x0) ⟨Nat.zero_le _, hI0, rfl⟩ srA (Gk _ _) ?_
  rintro ⟨q, s, x⟩ ⟨hq, hI, hal⟩
  simp only at hq hI hal ⊢
  refine qs 2 ?_
  refine Ga (GB HU HU HU (fun c12 => ?_) (fun c12 => ?_))
  ·refine qs 10 ?_
   have hql : q < l.length := by omega
   refine Ga (Gj HU HU HU HU (enc := eTm) (lst := l) (HL _ _) hql (fun _ _ => ?_))
   refine Ga (GU HU HU ?_)
   refine Ga (Gq HU (fun b8 => ?_))
   refine qs 7 ?_
   refine Ga (AO.callC (cs := cs) HU HU HU (Hr subF (hg [_] q hql s x hI (fun s' x' hx hI' => ?_) (fun e x' hx => ?_))))
   ·refine qs 3 ?_
    refine Gh HU HU (Gu HU HU ?_)
    refine qs 1 ?_
    refine Gh HU HU (Gw (cs := aC x' 0) HU HU ?_ (i := ia + 1) (hi := HA x' 0) (hv := HC x' 0))
    refine Gh HU HU (GK HU HU HU (fun c24 => absurd HU c24) (fun _ => ?_))
    refine qs 11 ?_
    exact Gl (q + 1, s', x') ⟨by simp only; omega, hI', by simp only; rw [all_step hql hal, hx]⟩ (by simp only; omega) srA Gn
   refine qs 22 ?_
   exact Gb Tryz.results132 rfl Gn (hN e x' (all_bad hql hal hx))
  refine qs 15 ?_
  obtain rfl : q = l.length := by omega
  rw [List.take_length] at hal
  exact Gb Tryz.results132 rfl (Gk _ _) (hS s x hal hI)
end
end Go.Sy
namespace Go.Sy
open Go Go.Proofs Go.RowKit
theorem had_not {T : List Ty} {w : Wht} {e : Ent} {s : List UInt8} (h : (tyAt T w.under).kind ≠ 6) : had1 T w e s [] = hadM w e s w.ms.length := by unfold had1; simp only; rw [if_neg h, List.nil_append]
theorem had_is {T : List Ty} {w : Wht} {e : Ent} {s : List UInt8} (h : (tyAt T w.under).kind = 6) : had1 T w e s [] = hadF (tyAt T w.under) e s (hadM w e s w.ms.length) (tyAt T w.under).words.length := by unfold had1; simp only; rw [if_pos h, List.nil_append]
theorem hadE_yes {T : List Ty} {w : Wht} {e : Ent} {s : List UInt8} (h : e.many = true) : hadE T w e s = had1 T w e s [] ++ had1 T w e s [] := by unfold hadE; rw [if_pos h]
theorem hadE_no {T : List Ty} {w : Wht} {e : Ent} {s : List UInt8} (h : ¬ e.many = true) : hadE T w e s = had1 T w e s [] := by unfold hadE; rw [if_neg h]
attribute [local irreducible] AC AT AO AK AH ACalls Sub Res.cells Res.obj Res.nix Res.own Res.map Exit.then Exit.inBlock bodyPost Code.wp Code.wpIn WL Next Post Kont
section
variable {W0 : World} {L : List Res} {F : List Fact} {R : Value → List Res → List Fact → Prop}
set_option maxRecDepth 100000
set_option maxHeartbeats 16000000
theorem had_c (T : List Ty) (hr : rightP T) (w : Wht) (hwh : whP T w) (e : Ent) (hep : e.path.length ≤ 1000) (s : List UInt8) {a a2 a3 a4 : Option Addr} {k c k2 c2 k3 c3 k4 c4 bw iw : Nat} {bad : Int} (hw : L[iw]? = some (Res.cells bw #[.slice a k c, .slice a2 k2 c2, .int .i64 bad] 147)) (mL : fL T a k c ∈ F) (mP : fI e.path a3 k3 c3 ∈ F) (mM : fMs w.ms a4 k4 c4 ∈ F)
    (h : ∀ a k c, R (.slice a k c) L (fSl (hadE T w e s) a k c :: F)) :
    ACalls Tryz.prog W0 116 #[.pointer (some ⟨bw, 0, none⟩), vEn e a3 k3 c3, vWh w a4 k4 c4, S s] L F R := by
  have hml : 1000000 ≤ maxLen := by decide
  have hms := hwh.2.2
  obtain ⟨hn, hty⟩ := GQ hwh.1 hwh.2.1
  have hok := Hp hr _ (List.getElem_mem hn)
  refine Ge Tryz.func116 HU Tryz.ntmps116 HU ?_
  refine qs 2 ?_
  refine Ga (GJ HU HU (fun b5 => (Ga (GJ HU HU (fun b6 => ?_)))))
  refine qs 13 ?_
  refine Ga (Gv HU HU (fun hl17 => ?_) (enc := eMt) (lst := w.ms) (hm := memA))
  refine qs 4 ?_
  refine GN (fun (x : Nat × Option Addr × Nat × Nat) => x.1 ≤ w.ms.length) (fun x => [(0, .pointer (some ⟨bw, 0, none⟩)), (3, S s), (5, .pointer (some ⟨b5, 0, none⟩)), (6, .pointer (some ⟨b6, 0, none⟩)), (9, .slice x.2.1 x.2.2.1 x.2.2.2), (16, .slice a4 k4 c4), (17, .int .i64 w.ms.length), (18, .int .i64 (x.1 : Int))]) (fun x => Res.own (.slice x.2.1 x.2.2.1 x.2.2.2) 47 5 ((hadM w e s x.1).map eSl) :: _) (fun _ => F) (fun x => w.ms.length - x.1) (0, none, 0, 0) (by simp) srA Ha ?_
  rintro ⟨q, a5, k5, c5⟩ hq
  simp only at hq ⊢
  refine qs 2 ?_
  refine Ga (GB HU HU HU (fun c19 => ?_) (fun c19 => ?_))
  ·refine qs 10 ?_
   have hql : q < w.ms.length := by omega
   have hhl := hadM_len (w := w) (e := e) (s := s) q
   refine Ga (Gj HU HU HU HU (enc := eMt) (lst := w.ms) memA hql (fun _ _ => ?_))
   refine Ga (GU HU HU ?_)
   refine Ga (Gq HU (fun b11 => ?_))
   refine qs 8 ?_
   refine Ga (Hu HU HU HU (fun c25 => ?_) (fun c25 => ?_))
   ·refine qs 13 ?_
    refine Ga (GI HU HU HU ?_)
    refine Ga (Gi HU HU HU HU HU (fun b36 => ?_))
    refine Ga (GZ (i := 1) (enc := eSl) (lst := hadM w e s q) [⟨true, w.ms[q].sig, w.ms[q].ptr, e.via, e.path⟩] HU HU HU HU (.val (.val (.val (.val (.slc .nil memA))))) HU HU (fun _ => rfl) HW HW (fun a37 k37 c37 => ?_))
    rw [← hadM_yes hql c25]
    refine qs 8 ?_
    exact Gl (q + 1, a37, k37, c37) (by simp only; omega) (by simp only; omega) srA (Sub.drop.trans subF)
   refine qs 10 ?_
   refine Gl (q + 1, a5, k5, c5) (by simp only; omega) (by simp only; omega) srA ?_
   rw [hadM_no hql c25]
   exact Sub.drop.trans subF
  refine qs 11 ?_
  refine GO (fun i => Nat.beq i 10) [(bw, _, _), (b6, _, _)] bxA HU (fun hx hX => ?_)
  obtain rfl : q = w.ms.length := by omega
  have hu0 := hwh.1
  have hll := (Gy (hX (fL T a k c) memA)).1
  obtain ⟨p1, o1, e1, at1⟩ := GG (hX (fL T a k c) memA) hn
  subst e1
  obtain ⟨w1, x1, y1, w2, x2, y2, hv1, hw1, hw2⟩ := ty_cells at1
  refine Hv hw1 memA (Hv hw2 memA ?_)
  refine qt [0, 1, 2, 3, 4, 5, 6] ?_
  refine GF (i := 7) HU (GM (k := w.under.toNat) HU HU HW HW) HV HU HU ?_
  refine GV (i := 8) HU (HJ HU HU hv1) HV HV HU HU HU ?_
  refine Gf (i := 9) HV HU HU (fun _ => ?_)
  refine Gq HU (fun b12 => ?_)
  refine Gc bxA memB ?_
  refine Gf (i := 10) HV HU HU (fun _ => ?_)
  refine GA HU HU HU HU ?_
  refine Gr HU ?_
  refine Gm HV ?_
  refine qs 5 ?_
  refine Ga (GC HU HU HU (fun c50 => ?_) (fun c50 => ?_))
  ·refine qs 7 ?_
   refine Ga (Gv HU HU (fun hl53 => ?_) (enc := eS) (lst := T[w.under.toNat].words) (hm := memA))
   refine qs 4 ?_
   have hst := struct_of hr hn c50
   have h1 : had1 T w e s [] = hadF T[w.under.toNat] e s (hadM w e s w.ms.length) T[w.under.toNat].words.length := by rw [had_is (by rw [hty]; exact c50), hty]
   have hhl := hadM_len (w := w) (e := e) (s := s) w.ms.length
   have hwl := hok.words
   generalize hmm : hadM w e s w.ms.length = mm at hhl h1 ⊢
   refine GN (fun (x : Nat × Option Addr × Nat × Nat) => x.1 ≤ T[w.under.toNat].words.length) (fun x => [(0, .pointer (some ⟨bw, 0, none⟩)), (3, S s), (5, .pointer (some ⟨b5, 0, none⟩)), (6, .pointer (some ⟨b6, 0, none⟩)), (9, .slice x.2.1 x.2.2.1 x.2.2.2), (12, .pointer (some ⟨b12, 0, none⟩)), (52, .slice w1 x1 y1), (53, .int .i64 T[w.under.toNat].words.length), (54, .int .i64 (x.1 : Int))]) (fun x => _ :: Res.own (.slice x.2.1 x.2.2.1 x.2.2.2) 47 5 ((hadF T[w.under.toNat] e s mm x.1).map eSl) :: _) (fun _ => _) (fun x => T[w.under.toNat].words.length - x.1) (0, a5, k5, c5) (by simp) srA (Gk _ _) ?_
   rintro ⟨q, a6, k6, c6⟩ hq
   simp only at hq ⊢
   refine qs 2 ?_
   refine Ga (GB HU HU HU (fun c55 => ?_) (fun c55 => ?_))
   ·refine qs 11 ?_
    have hql : q < T[w.under.toNat].words.length := by omega
    have hqk : q < T[w.under.toNat].kids.length := by omega
    have hfl := hadF_len (t := T[w.under.toNat]) (e := e) (s := s) (l := mm) q
    refine Ga (Gj HU HU HU HU (enc := eS) (lst := T[w.under.toNat].words) memA hql (fun _ _ => ?_))
    refine Ga (GE HU HU ?_)
    intros
    refine qs 7 ?_
    refine Ga (Gd HU HU (sfield_c T[w.under.toNat].words[q] ?_))
    refine qs 1 ?_
    refine Ga (Hu HU HU HU (fun c62 => ?_) (fun c62 => ?_))
    ·refine qs 3 ?_
     refine GO (fun _ => false) [(b12, _, _), (b5, _, _)] bxA HU (fun hx hX => ?_)
     have hkk := (Gy (hX (fK T[w.under.toNat] w2 x2 y2) memA)).1
     obtain ⟨p2, o2, e2, atq⟩ := GG (hX (fK T[w.under.toNat] w2 x2 y2) memA) hqk
     subst e2
     obtain ⟨vq, hvq, hcq⟩ := atq 0 _ rfl
     cases hcq
     refine qt [0, 1, 2, 3] ?_
     refine GF (i := 4) HU (GM (k := q) HU HU HU HW) HV HU HU ?_
     refine GV (i := 5) HU (Y.loadF HU hvq) HV HV HU HU HU ?_
     refine qt [6, 7, 8, 9, 11] ?_
     refine Hj (i := 10) (j := 12) HV HU HU HU HU (fun _ => ?_) (fun _ => ?_)
     ·refine Gd HU HU (clipI_c e.path memA (fun a73 => ?_))
      refine Gc bxA memB ?_
      refine Gf (i := 12) HV HU HU (fun _ => ?_)
      refine Gi HU HU HU HU HU (fun b75 => ?_)
      refine Gc bxA memB ?_
      refine Gf (i := 13) HV HU HU (fun _ => ?_)
      refine Hf (enc := eI) (lst := e.path) [(q : Int)] HU HU HU (show fI e.path _ _ _ ∈ _ from memA) (fun x d hd v hv => GY hd hv) (.val .nil) HU HU (by decide) (fun _ => rfl) HW HW (fun a76 k76 c76 => ?_)
      refine Gz (GH (i := 0) HU) ?_
      refine Gc bxA memB ?_
      refine Gf (i := 14) HV HU HU (fun _ => ?_)
      refine GI HU HU HU ?_
      refine Gc bxA memB ?_
      refine Gf (i := 15) HV HU HU (fun _ => ?_)
      refine Gi HU HU HU HU HU (fun b78 => ?_)
      refine Gc bxA memB ?_
      refine Gf (i := 16) HV HU HU (fun _ => ?_)
      refine GZ (i := 2) (enc := eSl) (lst := hadF T[w.under.toNat] e s mm q) [⟨false, T[w.under.toNat].kids[q], false, e.via, e.path ++ [(q : Int)]⟩] HU HU HU HU (.val (.val (.val (.val (.slc .nil memA))))) HU HU (fun _ => rfl) HW HW (fun a79 k79 c79 => ?_)
      rw [← hadF_yes hql hqk c62]
      refine Gc bxA memB ?_
      refine qt [17] ?_
      refine Gm HV ?_
      refine qs 6 ?_
      exact Gl (q + 1, a79, k79, c79) (by simp only; omega) (by simp only; omega) srA (Sub.drop.trans subF)
     refine Gi HU HU HU HU HU (fun b75 => ?_)
     refine Gc bxA memB ?_
     refine Gf (i := 10) HV HU HU (fun _ => ?_)
     refine Gd HU HU (clipI_c e.path memA (fun a73 => ?_))
     refine Gc bxA memB ?_
     refine Gf (i := 13) HV HU HU (fun _ => ?_)
     refine Hf (enc := eI) (lst := e.path) [(q : Int)] HU HU HU (show fI e.path _ _ _ ∈ _ from memA) (fun x d hd v hv => GY hd hv) (.val .nil) HU HU (by decide) (fun _ => rfl) HW HW (fun a76 k76 c76 => ?_)
     refine Gz (GH (i := 0) HU) ?_
     refine Gc bxA memB ?_
     refine Gf (i := 14) HV HU HU (fun _ => ?_)
     refine GI HU HU HU ?_
     refine Gc bxA memB ?_
     refine Gf (i := 15) HV HU HU (fun _ => ?_)
     refine Gi HU HU HU HU HU (fun b78 => ?_)
     refine Gc bxA memB ?_
     refine Gf (i := 16) HV HU HU (fun _ => ?_)
     refine GZ (i := 2) (enc := eSl) (lst := hadF T[w.under.toNat] e s mm q) [⟨false, T[w.under.toNat].kids[q], false, e.via, e.path ++ [(q : Int)]⟩] HU HU HU HU (.val (.val (.val (.val (.slc .nil memA))))) HU HU (fun _ => rfl) HW HW (fun a79 k79 c79 => ?_)
     rw [← hadF_yes hql hqk c62]
     refine Gc bxA memB ?_
     refine qt [17] ?_
     refine Gm HV ?_
     refine qs 6 ?_
     exact Gl (q + 1, a79, k79, c79) (by simp only; omega) (by simp only; omega) srA (Sub.drop.trans subF)
    refine qs 10 ?_
    refine Gl (q + 1, a6, k6, c6) (by simp only; omega) (by simp only; omega) srA ?_
    rw [hadF_no hql c62]
    exact subF
   refine qs 16 ?_
   refine AC.cond HU (fun c82 => ?_) (fun c82 => ?_)
   ·refine qs 3 ?_
    have hfl := hadF_len (t := T[w.under.toNat]) (e := e) (s := s) (l := mm) q
    obtain rfl : q = T[w.under.toNat].words.length := by omega
    refine Ga (AO.appendSelf (i := 1) (enc := eSl) (lst := hadF T[w.under.toNat] e s mm T[w.under.toNat].words.length) HU HU HU HU eSl_one (fun _ => rfl) HW HW (fun a85 k85 c85 => ?_))
    refine qs 10 ?_
    rw [hadE_yes c82, h1] at h
    exact Gb (L' := L) (F' := fSl (hadF T[w.under.toNat] e s mm T[w.under.toNat].words.length ++ hadF T[w.under.toNat] e s mm T[w.under.toNat].words.length) a85 k85 c85 :: F) Tryz.results116 rfl ((GH (i := 1) rfl).trans (Sub.drop.trans (Sub.drop.trans (Sub.drop.trans (Sub.drop.trans (Hk (fun x hx => by repeat (first | exact hx | refine List.mem_cons_of_mem _ ?_)))))))) (h _ _ _)
   refine qs 9 ?_
   obtain rfl : q = T[w.under.toNat].words.length := by omega
   rw [hadE_no (by simp [c82]), h1] at h
   exact Gb (L' := L) (F' := fSl (hadF T[w.under.toNat] e s mm T[w.under.toNat].words.length) a6 k6 c6 :: F) Tryz.results116 rfl ((GH (i := 1) rfl).trans (Sub.drop.trans (Sub.drop.trans (Sub.drop.trans (Sub.drop.trans (Hk (fun x hx => by repeat (first | exact hx | refine List.mem_cons_of_mem _ ?_)))))))) (h _ _ _)
  refine qs 12 ?_
  refine AC.cond HU (fun c82 => ?_) (fun c82 => ?_)
  ·refine qs 3 ?_
   have hhl := hadM_len (w := w) (e := e) (s := s) w.ms.length
   refine Ga (AO.appendSelf (i := 1) (enc := eSl) (lst := hadM w e s w.ms.length) HU HU HU HU eSl_one (fun _ => rfl) HW HW (fun a85 k85 c85 => ?_))
   refine qs 10 ?_
   rw [hadE_yes c82, had_not (by rw [hty]; exact c50)] at h
   exact Gb (L' := L) (F' := fSl (hadM w e s w.ms.length ++ hadM w e s w.ms.length) a85 k85 c85 :: F) Tryz.results116 rfl ((GH (i := 1) rfl).trans (Sub.drop.trans (Sub.drop.trans (Sub.drop.trans (Sub.drop.trans (Hk (fun x hx => by repeat (first | exact hx | refine List.mem_cons_of_mem _ ?_)))))))) (h _ _ _)
  refine qs 9 ?_
  rw [hadE_no (by simp [c82]), had_not (by rw [hty]; exact c50)] at h
  exact Gb (L' := L) (F' := fSl (hadM w e s w.ms.length) a5 k5 c5 :: F) Tryz.results116 rfl ((GH (i := 1) rfl).trans (Sub.drop.trans (Sub.drop.trans (Sub.drop.trans (Sub.drop.trans (Hk (fun x hx => by repeat (first | exact hx | refine List.mem_cons_of_mem _ ?_)))))))) (h _ _ _)
end
end Go.Sy
namespace Go.Sy
open Go Go.Proofs Go.RowKit
def placeP (out : List Ent) (mp : Int → Option Int) : Prop := (∀ t j, mp t = some j → ∃ n : Nat, j = n ∧ ∃ hn : n < out.length, out[n].typ = t) ∧ ∀ t, mp t = none → t ∉ typs out
theorem place_nil : placeP [] (fun _ => none) := ⟨fun t j h => (by cases h), fun t _ => by simp [typs]⟩
theorem place_in {out : List Ent} {mp : Int → Option Int} (h : placeP out mp) {t j : Int} (hj : mp t = some j) : t ∈ typs out := by
  obtain ⟨n, _, hn, e⟩ := h.1 t j hj
  exact List.mem_map.2 ⟨out[n], List.getElem_mem hn, e⟩
theorem place_many {out : List Ent} {mp : Int → Option Int} (h : placeP out mp) (t0 : Int) : placeP (out.map (manyE t0)) mp := by
  refine ⟨fun t j hj => ?_, fun t ht => by rw [typs_many]; exact h.2 t ht⟩
  obtain ⟨n, e, hn, e2⟩ := h.1 t j hj
  exact ⟨n, e, by simpa using hn, by simp only [List.getElem_map]; rw [(manyE_path _ _).2]; exact e2⟩
theorem place_new {out : List Ent} {mp : Int → Option Int} (h : placeP out mp) (x : Ent) : placeP (out ++ [x]) (upd mp x.typ (out.length : Int)) := by
  refine ⟨fun t j hj => ?_, fun t ht => ?_⟩
  · by_cases c : t = x.typ
    · subst c
      rw [upd_self] at hj
      injection hj with hj
      exact ⟨out.length, hj.symm, by simp, by simp⟩
    rw [upd_ne _ c] at hj
    obtain ⟨n, e, hn, e2⟩ := h.1 t j hj
    exact ⟨n, e, by simp; omega, by rw [List.getElem_append_left hn]; exact e2⟩
  by_cases c : t = x.typ
  · subst c; rw [upd_self] at ht; cases ht
  rw [upd_ne _ c] at ht
  have := h.2 t ht
  unfold typs at this ⊢
  rw [List.map_append, List.mem_append]
  rintro (h1 | h1)
  · exact this h1
  simp at h1; exact c h1
def seenP (l : List Int) (m : Int → Option Bool) : Prop := ∀ t, m t = some true ↔ t ∈ l
theorem seen_nil : seenP [] (fun _ => none) := fun t => by simp
theorem seen_new {l : List Int} {m : Int → Option Bool} (h : seenP l m) (t0 : Int) : seenP (l ++ [t0]) (upd m t0 true) := fun t => by
  by_cases c : t = t0
  · subst c; rw [upd_self]; simp
  rw [upd_ne _ c, h t]; simp [c]
theorem many_set {out : List Ent} (hnd : (typs out).Nodup) {n : Nat} (hn : n < out.length) : out.map (manyE out[n].typ) = out.set n ⟨out[n].typ, out[n].via, true, out[n].path⟩ := by
  apply List.ext_getElem
  · simp
  intro j h1 h2
  simp only [List.length_map] at h1
  rw [List.getElem_map]
  by_cases c : n = j
  · subst c
    rw [List.getElem_set_self]
    unfold manyE; rw [if_pos rfl]
  rw [List.getElem_set_ne c]
  unfold manyE
  rw [if_neg]
  intro e
  have hj : j < (typs out).length := by simpa [typs] using h1
  have hn' : n < (typs out).length := by simpa [typs] using hn
  have e2 : (typs out)[j] = (typs out)[n] := by simpa [typs] using e
  exact c ((List.getElem_inj hnd).1 e2).symm
theorem eEn_many {out : List Ent} (hnd : (typs out).Nodup) {n : Nat} (hn : n < out.length) : (out.map eEn).set n ((eEn out[n]).set 2 (.val (.bool true))) = (out.map (manyE out[n].typ)).map eEn := by
  rw [many_set hnd hn, List.map_set]; rfl
section
variable {T : List Ty} {e : Ent} {t : Ty} {seen : List Int} {out : List Ent} {k : Nat} {x : Ent}
theorem inner_no (hk : k < t.words.length) (h : ¬ plusW t.words[k] = true) : innerN T e t seen out (k + 1) = innerN T e t seen out k := by simp only [innerN]; rw [Gt [] hk, if_neg h]
theorem inner_yes (hk : k < t.words.length) (h : plusW t.words[k] = true) (hx : entE T e t k = x) : innerN T e t seen out (k + 1) = addE (innerN T e t seen out k) seen x := by simp only [innerN]; rw [Gt [] hk, if_pos h, hx]
theorem add_many (h : x.typ ∈ typs out) : addE out seen x = out.map (manyE x.typ) := by unfold addE; rw [if_pos h]
theorem add_seen (h : x.typ ∉ typs out) (h2 : x.typ ∈ seen) : addE out seen x = out := by unfold addE; rw [if_neg h, if_pos h2]
theorem add_new (h : x.typ ∉ typs out) (h2 : x.typ ∉ seen) : addE out seen x = out ++ [x] := by unfold addE; rw [if_neg h, if_neg h2]
end
theorem ent_ptr {T : List Ty} {e : Ent} {t : Ty} {k : Nat} (hk : k < t.kids.length) {y : Nat} (hy : t.kids[k] = (y : Int)) (hyl : y < T.length) (h1 : T[y].kind = 1) (h0 : 0 < T[y].kids.length) : entE T e t k = ⟨T[y].kids[0], true, e.many, e.path ++ [(k : Int)]⟩ := by
  unfold entE; rw [Gt _ hk, hy, HI hyl, if_pos h1, Gt _ h0]
theorem ent_not {T : List Ty} {e : Ent} {t : Ty} {k : Nat} (hk : k < t.kids.length) {y : Nat} (hy : t.kids[k] = (y : Int)) (hyl : y < T.length) (h1 : T[y].kind ≠ 1) : entE T e t k = ⟨(y : Int), e.via, e.many, e.path ++ [(k : Int)]⟩ := by
  unfold entE; rw [Gt _ hk, hy, HI hyl, if_neg h1]
theorem outer_no {T : List Ty} {lev : List Ent} {ws : List Wht} {seen : List Int} {q n : Nat} (hq : q < ws.length) (hn : ws[q].under = (n : Int)) (hnl : n < T.length) (h : T[n].kind ≠ 6) : outerN T lev ws seen (q + 1) = outerN T lev ws seen q := by
  simp only [outerN]; rw [Gt default hq, hn, HI hnl, if_neg h]
theorem outer_yes {T : List Ty} {lev : List Ent} {ws : List Wht} {seen : List Int} {q n : Nat} (hq : q < ws.length) (hql : q < lev.length) (hn : ws[q].under = (n : Int)) (hnl : n < T.length) (h : T[n].kind = 6) : outerN T lev ws seen (q + 1) = innerN T lev[q] T[n] seen (outerN T lev ws seen q) T[n].words.length := by
  simp only [outerN]; rw [Gt default hq, Gt default hql, hn, HI hnl, if_pos h]
attribute [local irreducible] AC AT AO AK AH ACalls Sub Res.cells Res.obj Res.nix Res.own Res.map Exit.then Exit.inBlock bodyPost Code.wp Code.wpIn WL Next Post Kont
section
variable {W0 : World} {L : List Res} {F : List Fact} {R : Value → List Res → List Fact → Prop}
set_option maxRecDepth 100000
set_option maxHeartbeats 16000000
theorem next_c (T : List Ty) (hr : rightP T) (p : Nat) (hp : p ≤ 900) (lev : List Ent) (ws : List Wht) (hl : levP T p lev) (hlen : ws.length = lev.length) (hws : ∀ w ∈ ws, whP T w) (seen : List Int) (m : Int → Option Bool) (hm : seenP seen m)
    {a a2 a3 a4 : Option Addr} {k c k2 c2 k3 c3 k4 c4 bw iw bs is : Nat} {bad : Int} (hw : L[iw]? = some (Res.cells bw #[.slice a k c, .slice a2 k2 c2, .int .i64 bad] 147)) (hs : L[is]? = some (Res.map bs vI Value.bool m)) (mL : fL T a k c ∈ F) (mE : fEn lev a3 k3 c3 ∈ F) (mW : fWh ws a4 k4 c4 ∈ F)
    (h : ∀ m' a k c, seenP (seen ++ typs (nextL T lev ws seen)) m' → R (.slice a k c) (L.set is (Res.map bs vI Value.bool m')) (fEn (nextL T lev ws seen) a k c :: F)) :
    ACalls Tryz.prog W0 152 #[.pointer (some ⟨bw, 0, none⟩), .slice a3 k3 c3, .slice a4 k4 c4, .map (some bs)] L F R := by
  have hml : 1000000 ≤ maxLen := by decide
  have hT4 := hr.2.1
  have hlf := hl.few
  have hL0 : L.set is (Res.map bs vI Value.bool m) = L := (List.getElem?_eq_some_iff.1 hs).2 ▸ List.set_getElem_self _
  refine Ge Tryz.func152 HU Tryz.ntmps152 HU ?_
  refine qs 12 ?_
  refine Ga (AO.makeMap vI vI HU (fun b22 => ?_))
  refine qs 7 ?_
  refine Ga (Gv HU HU (fun hl24 => ?_) (enc := eEn) (lst := lev) (hm := memA))
  refine qs 4 ?_
  refine GN (fun (x : Nat × (List Ent × (Int → Option Int)) × (Option Addr × Nat × Nat)) => x.1 ≤ lev.length ∧ x.2.1.1 = outerN T lev ws seen x.1 ∧ levP T (p + 1) x.2.1.1 ∧ placeP x.2.1.1 x.2.1.2) (fun x => [(0, .pointer (some ⟨bw, 0, none⟩)), (2, .slice a4 k4 c4), (3, .map (some bs)), (9, .slice x.2.2.1 x.2.2.2.1 x.2.2.2.2), (10, .map (some b22)), (23, .slice a3 k3 c3), (24, .int .i64 lev.length), (25, .int .i64 (x.1 : Int))]) (fun x => Res.own (.slice x.2.2.1 x.2.2.2.1 x.2.2.2.2) 182 4 (x.2.1.1.map eEn) :: Res.map b22 vI vI x.2.1.2 :: L) (fun _ => F) (fun x => lev.length - x.1) (0, ([], fun _ => none), (none, 0, 0)) ⟨Nat.zero_le _, rfl, outerN_ok (seen := seen) hr hl hlen hws 0 (Nat.zero_le _), place_nil⟩ srA Ha ?_
  rintro ⟨q, ⟨out, mp⟩, ⟨a9, k9, c9⟩⟩ ⟨hq, hout, hlo, hpl⟩
  simp only at hq hout hlo hpl ⊢
  refine qs 2 ?_
  refine Ga (GB HU HU HU (fun c26 => ?_) (fun c26 => ?_))
  ·refine qs 11 ?_
   have hql : q < lev.length := by omega
   have hqw : q < ws.length := by omega
   obtain ⟨⟨hy0, hy1⟩, hy2⟩ := hl.1 _ (List.getElem_mem hql)
   have hwq := hws _ (List.getElem_mem hqw)
   obtain ⟨n, hn⟩ : ∃ n : Nat, ws[q].under = (n : Int) := ⟨ws[q].under.toNat, by have := hwq.1; omega⟩
   have hnl : n < T.length := by have := hwq.2.1; omega
   have hrt := GL hr hnl
   have hok := Hp hr _ (List.getElem_mem hnl)
   refine Ga (Gj HU HU HU HU (enc := eEn) (lst := lev) memA hql (fun _ _ => ?_))
   refine Ga (GU HU HU ?_)
   intro a29 k29 z29
   refine Ga (Gq HU (fun b12 => ?_))
   refine qs 5 ?_
   refine GO (fun i => Nat.beq i 13) [(bw, _, _)] bxA HU (fun hx hX => ?_)
   have hll := (Gy (hX (fL T a k c) memA)).1
   have hww := (Gy (hX (fWh ws a4 k4 c4) memA)).1
   obtain ⟨p0, o0, e0, at0⟩ := GG (hX (fWh ws a4 k4 c4) memA) hqw
   subst e0
   obtain ⟨v0, hv0, hc0⟩ := at0 0 _ rfl
   cases hc0
   obtain ⟨p1, o1, e1, at1⟩ := GG (hX (fL T a k c) memA) hnl
   subst e1
   obtain ⟨w1, x1, y1, w2, x2, y2, hv1, hw1, hw2⟩ := ty_cells at1
   refine Hv hw1 memA (Hv hw2 memA ?_)
   refine qt [0, 1, 2, 3, 4, 5, 6] ?_
   refine GF (i := 7) HU (GM (k := q) HU HU HU HW) HV HU HU ?_
   refine qt [8] ?_
   refine GV (i := 9) HU (Y.loadF HU hv0) HV HV HU HU HU ?_
   refine GF (i := 10) HU (GM (k := n) HU HU hn HW) HV HU HU ?_
   refine GV (i := 11) HU (HJ HU HU hv1) HV HV HU HU HU ?_
   refine Gf (i := 12) HV HU HU (fun _ => ?_)
   refine Gq HU (fun b13 => ?_)
   refine Gc bxA memB ?_
   refine Gf (i := 13) HV HU HU (fun _ => ?_)
   refine GA HU HU HU HU ?_
   refine Gr HU ?_
   refine Gm HV ?_
   refine qs 6 ?_
   refine Ga (GK HU HU HU (fun c44 => ?_) (fun c44 => ?_))
   ·refine qs 11 ?_
    refine Gl (q + 1, (out, mp), (a9, k9, c9)) ⟨by simp only; omega, by simp only; rw [outer_no hqw hn hnl c44]; exact hout, hlo, hpl⟩ (by simp only; omega) srA (Sub.drop.trans (Sub.drop.trans subF))
   refine qs 9 ?_
   refine Ga (Gv HU HU (fun hl47 => ?_) (enc := eS) (lst := T[n].words) (hm := memA))
   refine qs 4 ?_
   have hst := struct_of hr hnl c44
   have hwl := hok.words
   have hkin : ∀ x ∈ T[n].kids, 0 ≤ x ∧ x < T.length := fun x hx => by have := hrt.kids x hx; omega
   refine GN (fun (x : Nat × (List Ent × (Int → Option Int)) × (Option Addr × Nat × Nat)) => x.1 ≤ T[n].words.length ∧ x.2.1.1 = innerN T lev[q] T[n] seen out x.1 ∧ levP T (p + 1) x.2.1.1 ∧ placeP x.2.1.1 x.2.1.2) (fun x => [(0, .pointer (some ⟨bw, 0, none⟩)), (2, .slice _ k4 c4), (3, .map (some bs)), (9, .slice x.2.2.1 x.2.2.2.1 x.2.2.2.2), (10, .map (some b22)), (12, .pointer (some ⟨b12, 0, none⟩)), (13, .pointer (some ⟨b13, 0, none⟩)), (23, .slice a3 k3 c3), (24, .int .i64 lev.length), (25, .int .i64 (q : Int)), (46, .slice w1 x1 y1), (47, .int .i64 T[n].words.length), (48, .int .i64 (x.1 : Int))]) (fun x => _ :: _ :: Res.own (.slice x.2.2.1 x.2.2.2.1 x.2.2.2.2) 182 4 (x.2.1.1.map eEn) :: Res.map b22 vI vI x.2.1.2 :: L) (fun _ => _) (fun x => T[n].words.length - x.1) (0, (out, mp), (a9, k9, c9)) ⟨Nat.zero_le _, rfl, hlo, hpl⟩ srA (Gk _ _) ?_
   rintro ⟨j, ⟨ou, mq⟩, ⟨a8, k8, c8⟩⟩ ⟨hj, hou, hlu, hpu⟩
   simp only at hj hou hlu hpu ⊢
   refine qs 2 ?_
   refine Ga (GB HU HU HU (fun c49 => ?_) (fun c49 => ?_))
   ·refine qs 11 ?_
    have hjl : j < T[n].words.length := by omega
    have hjk : j < T[n].kids.length := by omega
    have hof := hlu.few
    have hkj := hkin _ (List.getElem_mem hjk)
    obtain ⟨y, hy⟩ : ∃ y : Nat, T[n].kids[j] = (y : Int) := ⟨T[n].kids[j].toNat, by omega⟩
    have hyl : y < T.length := by omega
    refine Ga (Gj HU HU HU HU (enc := eS) (lst := T[n].words) memA hjl (fun _ _ => ?_))
    refine Ga (GE HU HU ?_)
    intros
    refine qs 8 ?_
    refine Ga (Gd HU HU (hasp_c T[n].words[j] ?_))
    refine qs 3 ?_
    refine AC.cond HU (fun c55 => ?_) (fun c55 => ?_)
    ·refine qs 8 ?_
     exact Gl (j + 1, (ou, mq), (a8, k8, c8)) ⟨by simp only; omega, by simp only; rw [inner_no hjl (by simpa using c55)]; exact hou, hlu, hpu⟩ (by simp only; omega) srA subF
    refine qs 3 ?_
    refine AC.cut (fun (x : Nat × Option Addr × Nat × Nat) ρ => (16, .pointer (some ⟨x.1, 0, none⟩)) :: ρ) (fun x L => Res.cells x.1 #[.int .i64 (y : Int), .bool lev[q].via, .bool lev[q].many, .slice x.2.1 x.2.2.1 x.2.2.2] 182 :: L) (fun x F => fI (lev[q].path ++ [(j : Int)]) x.2.1 x.2.2.1 x.2.2.2 :: F) ?_ (fun key => ?_)
    ·rintro ⟨b16, a70, k70, c70⟩
     refine qs 3 ?_
     refine GO (fun i => Nat.beq i 10) [(bw, _, _), (b16, _, _)] bxA HU (fun hx hX => ?_)
     have hll2 := (Gy (hX (fL T _ k c) memA)).1
     obtain ⟨p3, o3, e3, at3⟩ := GG (hX (fL T _ k c) memA) hyl
     cases e3
     obtain ⟨w4, x4, y4, w5, x5, y5, hv3, hw4, hw5⟩ := ty_cells at3
     refine Hv hw4 memA (Hv hw5 memA ?_)
     refine qt [0, 1, 2, 3, 4, 5, 6] ?_
     refine GF (i := 7) HU (GM (k := y) HU HU HU HW) HV HU HU ?_
     refine GV (i := 8) HU (HJ HU HU hv3) HV HV HU HU HU ?_
     refine Gf (i := 9) HV HU HU (fun _ => ?_)
     refine Gq HU (fun b17 => ?_)
     refine Gc bxA memB ?_
     refine Gf (i := 10) HV HU HU (fun _ => ?_)
     refine GA HU HU HU HU ?_
     refine Gr HU ?_
     refine Gm HV ?_
     refine qs 5 ?_
     refine Ga (GC HU HU HU (fun c83 => ?_) (fun c83 => ?_))
     ·refine qs 6 ?_
      have hk1 := ptr_of hr hyl c83
      have hk0 : 0 < T[y].kids.length := by omega
      refine Ga (Gj (k := 0) HU HU HU HU (show fK T[y] _ _ _ ∈ _ from memA) hk0 (fun _ _ => ?_))
      refine Ga (GE HU HU ?_)
      intros
      refine qs 11 ?_
      have hx := ent_ptr (e := lev[q]) hjk hy hyl c83 hk0
      have hxk := entE_ok hr (e := lev[q]) hy2 hjk hkin
      rw [hx] at hxk
      refine Ga (AO.lookupOk (kenc := vI) (venc := vI) (m := mq) (i := 5) T[y].kids[0] HU HU HU HU (fun d hd => ?_) (fun hd => ?_))
      ·refine qs 16 ?_
       obtain ⟨f, rfl, hfl, hft⟩ := hpu.1 _ _ hd
       refine Ga (Hc (i := 4) (q := f) HU HU HU HU HU (by rw [List.length_map]; exact hfl) (fun bo ho => ?_))
       cases ho
       refine qs 1 ?_
       refine Ga (AO.storeOR (v := .bool true) (i := 4) (q := f) (j := 2) HU HU HU HU HU (show (ou.map eEn)[f]? = some (eEn ou[f]) by rw [List.getElem?_map, List.getElem?_eq_getElem hfl]; rfl) (by simp) ?_)
       rw [eEn_many hlu.2 hfl, hft]
       refine qs 7 ?_
       have hin := place_in hpu hd
       exact Gl (j + 1, (ou.map (manyE _), mq), (_, k8, c8)) ⟨by simp only; omega, by simp only; rw [inner_yes hjl (by simpa using c55) hx, ← hou, add_many hin], by have := addE_ok (seen := seen) hlu hxk; rwa [add_many hin] at this, place_many hpu _⟩ (by simp only; omega) srA (Sub.drop.trans (Sub.drop.trans subF))
      refine qs 18 ?_
      refine Ga (AO.lookupB (kenc := vI) (m := m) (i := is + 6) T[y].kids[0] HU HU HU (by repeat (first | exact has0 | assumption | apply hasS)) (fun hse => ?_) (fun hse => ?_))
      ·refine qs 11 ?_
       have hni := hpu.2 _ hd
       have hin := (hm _).1 hse
       exact Gl (j + 1, (ou, mq), (a8, k8, c8)) ⟨by simp only; omega, by simp only; rw [inner_yes hjl (by simpa using c55) hx, ← hou, add_seen hni hin], hlu, hpu⟩ (by simp only; omega) srA (Sub.drop.trans (Sub.drop.trans subF))
      refine qs 10 ?_
      refine Ga (AO.lenO (i := 4) HU HU HU (fun hk111 => ?_))
      rw [List.length_map]
      refine Ga (Hi (kenc := vI) (venc := vI) (m := mq) (i := 5) T[y].kids[0] (ou.length : Int) HU HU HU HU ?_)
      refine qs 5 ?_
      refine Ga (Gi HU HU HU HU HU (fun b114 => ?_))
      refine Ga (GZ (i := 4) (enc := eEn) (lst := ou) [⟨T[y].kids[0], true, lev[q].many, lev[q].path ++ [(j : Int)]⟩] HU HU HU HU (.val (.val (.val (.slc .nil memA)))) HU HU (fun _ => rfl) HW HW (fun a115 k115 c115 => ?_))
      refine qs 8 ?_
      have hni := hpu.2 _ hd
      have hin := fun e => hse ((hm _).2 e)
      exact Gl (j + 1, (ou ++ [_], upd mq _ _), (a115, k115, c115)) ⟨by simp only; omega, by simp only; rw [inner_yes hjl (by simpa using c55) hx, ← hou, add_new hni hin], by have := addE_ok (seen := seen) hlu hxk; rwa [add_new hni hin] at this, place_new hpu _⟩ (by simp only; omega) srA (Sub.drop.trans (Sub.drop.trans subF))
     refine qs 10 ?_
     have hx := ent_not (e := lev[q]) hjk hy hyl c83
     have hxk := entE_ok hr (e := lev[q]) hy2 hjk hkin
     rw [hx] at hxk
     refine Ga (AO.lookupOk (kenc := vI) (venc := vI) (m := mq) (i := 5) (y : Int) HU HU HU HU (fun d hd => ?_) (fun hd => ?_))
     ·refine qs 16 ?_
      obtain ⟨f, rfl, hfl, hft⟩ := hpu.1 _ _ hd
      refine Ga (Hc (i := 4) (q := f) HU HU HU HU HU (by rw [List.length_map]; exact hfl) (fun bo ho => ?_))
      cases ho
      refine qs 1 ?_
      refine Ga (AO.storeOR (v := .bool true) (i := 4) (q := f) (j := 2) HU HU HU HU HU (show (ou.map eEn)[f]? = some (eEn ou[f]) by rw [List.getElem?_map, List.getElem?_eq_getElem hfl]; rfl) (by simp) ?_)
      rw [eEn_many hlu.2 hfl, hft]
      refine qs 7 ?_
      have hin := place_in hpu hd
      exact Gl (j + 1, (ou.map (manyE _), mq), (_, k8, c8)) ⟨by simp only; omega, by simp only; rw [inner_yes hjl (by simpa using c55) hx, ← hou, add_many hin], by have := addE_ok (seen := seen) hlu hxk; rwa [add_many hin] at this, place_many hpu _⟩ (by simp only; omega) srA (Sub.drop.trans (Sub.drop.trans subF))
     refine qs 18 ?_
     refine Ga (AO.lookupB (kenc := vI) (m := m) (i := is + 6) (y : Int) HU HU HU (by repeat (first | exact has0 | assumption | apply hasS)) (fun hse => ?_) (fun hse => ?_))
     ·refine qs 11 ?_
      have hni := hpu.2 _ hd
      have hin := (hm _).1 hse
      exact Gl (j + 1, (ou, mq), (a8, k8, c8)) ⟨by simp only; omega, by simp only; rw [inner_yes hjl (by simpa using c55) hx, ← hou, add_seen hni hin], hlu, hpu⟩ (by simp only; omega) srA (Sub.drop.trans (Sub.drop.trans subF))
     refine qs 10 ?_
     refine Ga (AO.lenO (i := 4) HU HU HU (fun hk111 => ?_))
     rw [List.length_map]
     refine Ga (Hi (kenc := vI) (venc := vI) (m := mq) (i := 5) (y : Int) (ou.length : Int) HU HU HU HU ?_)
     refine qs 5 ?_
     refine Ga (Gi HU HU HU HU HU (fun b114 => ?_))
     refine Ga (GZ (i := 4) (enc := eEn) (lst := ou) [⟨(y : Int), lev[q].via, lev[q].many, lev[q].path ++ [(j : Int)]⟩] HU HU HU HU (.val (.val (.val (.slc .nil memA)))) HU HU (fun _ => rfl) HW HW (fun a115 k115 c115 => ?_))
     refine qs 8 ?_
     have hni := hpu.2 _ hd
     have hin := fun e => hse ((hm _).2 e)
     exact Gl (j + 1, (ou ++ [_], upd mq _ _), (a115, k115, c115)) ⟨by simp only; omega, by simp only; rw [inner_yes hjl (by simpa using c55) hx, ← hou, add_new hni hin], by have := addE_ok (seen := seen) hlu hxk; rwa [add_new hni hin] at this, place_new hpu _⟩ (by simp only; omega) srA (Sub.drop.trans (Sub.drop.trans subF))
    refine GO (fun i => Nat.beq i 17) [(b12, _, _), (b13, _, _)] bxA HU (fun hx hX => ?_)
    have hkk := (Gy (hX (fK T[n] w2 x2 y2) memA)).1
    obtain ⟨p2, o2, e2, atq⟩ := GG (hX (fK T[n] w2 x2 y2) memA) hjk
    subst e2
    obtain ⟨vq, hvq, hcq⟩ := atq 0 _ rfl
    cases hcq
    rw [hy] at hvq
    refine qt [0, 1, 2] ?_
    refine GF (i := 3) HU (GM (k := j) HU HU HU HW) HV HU HU ?_
    refine GV (i := 4) HU (Y.loadF HU hvq) HV HV HU HU HU ?_
    refine qt [5, 6, 7, 8, 9, 10, 12] ?_
    refine AH.ups (is := [11, 13, 16]) HV (by decide) (UpsH.cons HU HU (fun _ => ?_) (UpsH.cons HU HU (fun _ => ?_) (UpsH.cons HU HU (fun _ => ?_) UpsH.nil)))
    ·refine Gd HU HU (clipI_c lev[q].path (show fI lev[q].path _ _ _ ∈ _ from memA) (fun a67 => ?_))
     refine Gc bxA memB ?_
     refine Hj (i := 13) (j := 16) HV HU HU HU HU (fun _ => ?_) (fun _ => ?_)
     ·refine Gi HU HU HU HU HU (fun b69 => ?_)
      refine Gc bxA memB ?_
      refine Hj (i := 14) (j := 16) HV HU HU HU HU (fun _ => ?_) (fun _ => ?_)
      ·first | refine Hf (enc := eI) (lst := lev[q].path) [(j : Int)] HU HU HU (show fI lev[q].path _ _ _ ∈ _ from memA) (fun x d hd v hv => GY hd hv) (.val .nil) HU HU (by decide) (fun _ => rfl) HW HW (fun a70 k70 c70 => ?_) | refine AO.thin Sub.swap2 (Hf (enc := eI) (lst := lev[q].path) [(j : Int)] HU HU HU (show fI lev[q].path _ _ _ ∈ _ from memA) (fun x d hd v hv => GY hd hv) (.val .nil) HU HU (by decide) (fun _ => rfl) HW HW (fun a70 k70 c70 => ?_))
       refine Gz (GH (i := 0) HU) ?_
       refine Gc bxA memB ?_
       refine Hj (i := 15) (j := 16) HV HU HU HU HU (fun _ => ?_) (fun _ => ?_)
       ·refine GI HU HU HU ?_
        refine Gc bxA memB ?_
        refine Gf (i := 16) HV HU HU (fun _ => ?_)
        refine Gq HU (fun b16 => ?_)
        refine Gc bxA memB ?_
        refine Gf (i := 17) HV HU HU (fun _ => ?_)
        refine GA HU HU HU HU ?_
        refine Gr HU ?_
        refine Gm HV ?_
        exact HF srA (by first | exact Sub.drop.trans (Gg (mem1 memA (fun x hx => by repeat (first | exact hx | refine List.mem_cons_of_mem _ ?_)))) | exact Sub.drop1.trans (Gg (mem1 memA (fun x hx => by repeat (first | exact hx | refine List.mem_cons_of_mem _ ?_))))) (key (b16, a70, k70, c70))
       refine Gq HU (fun b16 => ?_)
       refine Gc bxA memB ?_
       refine Gf (i := 15) HV HU HU (fun _ => ?_)
       refine GI HU HU HU ?_
       refine Gc bxA memB ?_
       refine Gf (i := 17) HV HU HU (fun _ => ?_)
       refine GA HU HU HU HU ?_
       refine Gr HU ?_
       refine Gm HV ?_
       exact HF srA (by first | exact Sub.drop.trans (Gg (mem1 memA (fun x hx => by repeat (first | exact hx | refine List.mem_cons_of_mem _ ?_)))) | exact Sub.drop1.trans (Gg (mem1 memA (fun x hx => by repeat (first | exact hx | refine List.mem_cons_of_mem _ ?_))))) (key (b16, a70, k70, c70))
      refine Gq HU (fun b16 => ?_)
      refine Gc bxA memB ?_
      refine Gf (i := 14) HV HU HU (fun _ => ?_)
      first | refine Hf (enc := eI) (lst := lev[q].path) [(j : Int)] HU HU HU (show fI lev[q].path _ _ _ ∈ _ from memA) (fun x d hd v hv => GY hd hv) (.val .nil) HU HU (by decide) (fun _ => rfl) HW HW (fun a70 k70 c70 => ?_) | refine AO.thin Sub.swap2 (Hf (enc := eI) (lst := lev[q].path) [(j : Int)] HU HU HU (show fI lev[q].path _ _ _ ∈ _ from memA) (fun x d hd v hv => GY hd hv) (.val .nil) HU HU (by decide) (fun _ => rfl) HW HW (fun a70 k70 c70 => ?_))
      refine Gz (GH (i := 0) HU) ?_
      refine Gc bxA memB ?_
      refine Gf (i := 15) HV HU HU (fun _ => ?_)
      refine GI HU HU HU ?_
      refine Gc bxA memB ?_
      refine Gf (i := 17) HV HU HU (fun _ => ?_)
      refine GA HU HU HU HU ?_
      refine Gr HU ?_
      refine Gm HV ?_
      exact HF srA (by first | exact Sub.drop.trans (Gg (mem1 memA (fun x hx => by repeat (first | exact hx | refine List.mem_cons_of_mem _ ?_)))) | exact Sub.drop1.trans (Gg (mem1 memA (fun x hx => by repeat (first | exact hx | refine List.mem_cons_of_mem _ ?_))))) (key (b16, a70, k70, c70))
     refine Gq HU (fun b16 => ?_)
     refine Gc bxA memB ?_
     refine Gf (i := 13) HV HU HU (fun _ => ?_)
     refine Gi HU HU HU HU HU (fun b69 => ?_)
     refine Gc bxA memB ?_
     refine Gf (i := 14) HV HU HU (fun _ => ?_)
     first | refine Hf (enc := eI) (lst := lev[q].path) [(j : Int)] HU HU HU (show fI lev[q].path _ _ _ ∈ _ from memA) (fun x d hd v hv => GY hd hv) (.val .nil) HU HU (by decide) (fun _ => rfl) HW HW (fun a70 k70 c70 => ?_) | refine AO.thin Sub.swap2 (Hf (enc := eI) (lst := lev[q].path) [(j : Int)] HU HU HU (show fI lev[q].path _ _ _ ∈ _ from memA) (fun x d hd v hv => GY hd hv) (.val .nil) HU HU (by decide) (fun _ => rfl) HW HW (fun a70 k70 c70 => ?_))
     refine Gz (GH (i := 0) HU) ?_
     refine Gc bxA memB ?_
     refine Gf (i := 15) HV HU HU (fun _ => ?_)
     refine GI HU HU HU ?_
     refine Gc bxA memB ?_
     refine Gf (i := 17) HV HU HU (fun _ => ?_)
     refine GA HU HU HU HU ?_
     refine Gr HU ?_
     refine Gm HV ?_
     exact HF srA (by first | exact Sub.drop.trans (Gg (mem1 memA (fun x hx => by repeat (first | exact hx | refine List.mem_cons_of_mem _ ?_)))) | exact Sub.drop1.trans (Gg (mem1 memA (fun x hx => by repeat (first | exact hx | refine List.mem_cons_of_mem _ ?_))))) (key (b16, a70, k70, c70))
    ·refine Gi HU HU HU HU HU (fun b69 => ?_)
     refine Gc bxA memB ?_
     refine Hj (i := 11) (j := 16) HV HU HU HU HU (fun _ => ?_) (fun _ => ?_)
     ·refine Gd HU HU (clipI_c lev[q].path (show fI lev[q].path _ _ _ ∈ _ from memA) (fun a67 => ?_))
      refine Gc bxA memB ?_
      refine Hj (i := 14) (j := 16) HV HU HU HU HU (fun _ => ?_) (fun _ => ?_)
      ·first | refine Hf (enc := eI) (lst := lev[q].path) [(j : Int)] HU HU HU (show fI lev[q].path _ _ _ ∈ _ from memA) (fun x d hd v hv => GY hd hv) (.val .nil) HU HU (by decide) (fun _ => rfl) HW HW (fun a70 k70 c70 => ?_) | refine AO.thin Sub.swap2 (Hf (enc := eI) (lst := lev[q].path) [(j : Int)] HU HU HU (show fI lev[q].path _ _ _ ∈ _ from memA) (fun x d hd v hv => GY hd hv) (.val .nil) HU HU (by decide) (fun _ => rfl) HW HW (fun a70 k70 c70 => ?_))
       refine Gz (GH (i := 0) HU) ?_
       refine Gc bxA memB ?_
       refine Hj (i := 15) (j := 16) HV HU HU HU HU (fun _ => ?_) (fun _ => ?_)
       ·refine GI HU HU HU ?_
        refine Gc bxA memB ?_
        refine Gf (i := 16) HV HU HU (fun _ => ?_)
        refine Gq HU (fun b16 => ?_)
        refine Gc bxA memB ?_
        refine Gf (i := 17) HV HU HU (fun _ => ?_)
        refine GA HU HU HU HU ?_
        refine Gr HU ?_
        refine Gm HV ?_
        exact HF srA (by first | exact Sub.drop.trans (Gg (mem1 memA (fun x hx => by repeat (first | exact hx | refine List.mem_cons_of_mem _ ?_)))) | exact Sub.drop1.trans (Gg (mem1 memA (fun x hx => by repeat (first | exact hx | refine List.mem_cons_of_mem _ ?_))))) (key (b16, a70, k70, c70))
       refine Gq HU (fun b16 => ?_)
       refine Gc bxA memB ?_
       refine Gf (i := 15) HV HU HU (fun _ => ?_)
       refine GI HU HU HU ?_
       refine Gc bxA memB ?_
       refine Gf (i := 17) HV HU HU (fun _ => ?_)
       refine GA HU HU HU HU ?_
       refine Gr HU ?_
       refine Gm HV ?_
       exact HF srA (by first | exact Sub.drop.trans (Gg (mem1 memA (fun x hx => by repeat (first | exact hx | refine List.mem_cons_of_mem _ ?_)))) | exact Sub.drop1.trans (Gg (mem1 memA (fun x hx => by repeat (first | exact hx | refine List.mem_cons_of_mem _ ?_))))) (key (b16, a70, k70, c70))
      refine Gq HU (fun b16 => ?_)
      refine Gc bxA memB ?_
      refine Gf (i := 14) HV HU HU (fun _ => ?_)
      first | refine Hf (enc := eI) (lst := lev[q].path) [(j : Int)] HU HU HU (show fI lev[q].path _ _ _ ∈ _ from memA) (fun x d hd v hv => GY hd hv) (.val .nil) HU HU (by decide) (fun _ => rfl) HW HW (fun a70 k70 c70 => ?_) | refine AO.thin Sub.swap2 (Hf (enc := eI) (lst := lev[q].path) [(j : Int)] HU HU HU (show fI lev[q].path _ _ _ ∈ _ from memA) (fun x d hd v hv => GY hd hv) (.val .nil) HU HU (by decide) (fun _ => rfl) HW HW (fun a70 k70 c70 => ?_))
      refine Gz (GH (i := 0) HU) ?_
      refine Gc bxA memB ?_
      refine Gf (i := 15) HV HU HU (fun _ => ?_)
      refine GI HU HU HU ?_
      refine Gc bxA memB ?_
      refine Gf (i := 17) HV HU HU (fun _ => ?_)
      refine GA HU HU HU HU ?_
      refine Gr HU ?_
      refine Gm HV ?_
      exact HF srA (by first | exact Sub.drop.trans (Gg (mem1 memA (fun x hx => by repeat (first | exact hx | refine List.mem_cons_of_mem _ ?_)))) | exact Sub.drop1.trans (Gg (mem1 memA (fun x hx => by repeat (first | exact hx | refine List.mem_cons_of_mem _ ?_))))) (key (b16, a70, k70, c70))
     refine Gq HU (fun b16 => ?_)
     refine Gc bxA memB ?_
     refine Gf (i := 11) HV HU HU (fun _ => ?_)
     refine Gd HU HU (clipI_c lev[q].path (show fI lev[q].path _ _ _ ∈ _ from memA) (fun a67 => ?_))
     refine Gc bxA memB ?_
     refine Gf (i := 14) HV HU HU (fun _ => ?_)
     first | refine Hf (enc := eI) (lst := lev[q].path) [(j : Int)] HU HU HU (show fI lev[q].path _ _ _ ∈ _ from memA) (fun x d hd v hv => GY hd hv) (.val .nil) HU HU (by decide) (fun _ => rfl) HW HW (fun a70 k70 c70 => ?_) | refine AO.thin Sub.swap2 (Hf (enc := eI) (lst := lev[q].path) [(j : Int)] HU HU HU (show fI lev[q].path _ _ _ ∈ _ from memA) (fun x d hd v hv => GY hd hv) (.val .nil) HU HU (by decide) (fun _ => rfl) HW HW (fun a70 k70 c70 => ?_))
     refine Gz (GH (i := 0) HU) ?_
     refine Gc bxA memB ?_
     refine Gf (i := 15) HV HU HU (fun _ => ?_)
     refine GI HU HU HU ?_
     refine Gc bxA memB ?_
     refine Gf (i := 17) HV HU HU (fun _ => ?_)
     refine GA HU HU HU HU ?_
     refine Gr HU ?_
     refine Gm HV ?_
     exact HF srA (by first | exact Sub.drop.trans (Gg (mem1 memA (fun x hx => by repeat (first | exact hx | refine List.mem_cons_of_mem _ ?_)))) | exact Sub.drop1.trans (Gg (mem1 memA (fun x hx => by repeat (first | exact hx | refine List.mem_cons_of_mem _ ?_))))) (key (b16, a70, k70, c70))
    refine Gq HU (fun b16 => ?_)
    refine Gc bxA memB ?_
    refine Hj (i := 11) (j := 13) HV HU HU HU HU (fun _ => ?_) (fun _ => ?_)
    ·refine Gd HU HU (clipI_c lev[q].path (show fI lev[q].path _ _ _ ∈ _ from memA) (fun a67 => ?_))
     refine Gc bxA memB ?_
     refine Gf (i := 13) HV HU HU (fun _ => ?_)
     refine Gi HU HU HU HU HU (fun b69 => ?_)
     refine Gc bxA memB ?_
     refine Gf (i := 14) HV HU HU (fun _ => ?_)
     first | refine Hf (enc := eI) (lst := lev[q].path) [(j : Int)] HU HU HU (show fI lev[q].path _ _ _ ∈ _ from memA) (fun x d hd v hv => GY hd hv) (.val .nil) HU HU (by decide) (fun _ => rfl) HW HW (fun a70 k70 c70 => ?_) | refine AO.thin Sub.swap2 (Hf (enc := eI) (lst := lev[q].path) [(j : Int)] HU HU HU (show fI lev[q].path _ _ _ ∈ _ from memA) (fun x d hd v hv => GY hd hv) (.val .nil) HU HU (by decide) (fun _ => rfl) HW HW (fun a70 k70 c70 => ?_))
     refine Gz (GH (i := 0) HU) ?_
     refine Gc bxA memB ?_
     refine Gf (i := 15) HV HU HU (fun _ => ?_)
     refine GI HU HU HU ?_
     refine Gc bxA memB ?_
     refine Gf (i := 17) HV HU HU (fun _ => ?_)
     refine GA HU HU HU HU ?_
     refine Gr HU ?_
     refine Gm HV ?_
     exact HF srA (by first | exact Sub.drop.trans (Gg (mem1 memA (fun x hx => by repeat (first | exact hx | refine List.mem_cons_of_mem _ ?_)))) | exact Sub.drop1.trans (Gg (mem1 memA (fun x hx => by repeat (first | exact hx | refine List.mem_cons_of_mem _ ?_))))) (key (b16, a70, k70, c70))
    refine Gi HU HU HU HU HU (fun b69 => ?_)
    refine Gc bxA memB ?_
    refine Gf (i := 11) HV HU HU (fun _ => ?_)
    refine Gd HU HU (clipI_c lev[q].path (show fI lev[q].path _ _ _ ∈ _ from memA) (fun a67 => ?_))
    refine Gc bxA memB ?_
    refine Gf (i := 14) HV HU HU (fun _ => ?_)
    first | refine Hf (enc := eI) (lst := lev[q].path) [(j : Int)] HU HU HU (show fI lev[q].path _ _ _ ∈ _ from memA) (fun x d hd v hv => GY hd hv) (.val .nil) HU HU (by decide) (fun _ => rfl) HW HW (fun a70 k70 c70 => ?_) | refine AO.thin Sub.swap2 (Hf (enc := eI) (lst := lev[q].path) [(j : Int)] HU HU HU (show fI lev[q].path _ _ _ ∈ _ from memA) (fun x d hd v hv => GY hd hv) (.val .nil) HU HU (by decide) (fun _ => rfl) HW HW (fun a70 k70 c70 => ?_))
    refine Gz (GH (i := 0) HU) ?_
    refine Gc bxA memB ?_
    refine Gf (i := 15) HV HU HU (fun _ => ?_)
    refine GI HU HU HU ?_
    refine Gc bxA memB ?_
    refine Gf (i := 17) HV HU HU (fun _ => ?_)
    refine GA HU HU HU HU ?_
    refine Gr HU ?_
    refine Gm HV ?_
    exact HF srA (by first | exact Sub.drop.trans (Gg (mem1 memA (fun x hx => by repeat (first | exact hx | refine List.mem_cons_of_mem _ ?_)))) | exact Sub.drop1.trans (Gg (mem1 memA (fun x hx => by repeat (first | exact hx | refine List.mem_cons_of_mem _ ?_))))) (key (b16, a70, k70, c70))
   refine qs 14 ?_
   obtain rfl : j = T[n].words.length := by omega
   exact Gl (q + 1, (ou, mq), (a8, k8, c8)) ⟨by simp only; omega, by simp only; rw [outer_yes hqw hql hn hnl c44, ← hout]; exact hou, hlu, hpu⟩ (by simp only; omega) srA (Sub.drop.trans (Sub.drop.trans subF))
  refine qs 12 ?_
  obtain rfl : q = lev.length := by omega
  have hof := hlo.few
  refine Gz (GH (i := 0) HU) ?_
  refine Ga (AO.move HU HU ?_)
  refine Ga (Gv HU HU (fun hl119 => ?_) (enc := eEn) (lst := out) (hm := memA))
  refine qs 4 ?_
  refine GN (fun (x : Nat × (Int → Option Bool)) => x.1 ≤ out.length ∧ seenP (seen ++ typs (out.take x.1)) x.2) (fun x => [(3, .map (some bs)), (9, .slice a9 k9 c9), (118, .slice a9 k9 c9), (119, .int .i64 out.length), (120, .int .i64 (x.1 : Int))]) (fun x => _ :: _ :: L.set is (Res.map bs vI Value.bool x.2)) (fun _ => _) (fun x => out.length - x.1) (0, m) ⟨Nat.zero_le _, by simpa [typs] using hm⟩ srA (Hn (by simp only [hL0]; rfl)) ?_
  rintro ⟨v, mv⟩ ⟨hv, hmv⟩
  simp only at hv hmv ⊢
  refine qs 2 ?_
  refine Ga (GB HU HU HU (fun c121 => ?_) (fun c121 => ?_))
  ·refine qs 10 ?_
   have hvl : v < out.length := by omega
   refine Ga (Gj HU HU HU HU (enc := eEn) (lst := out) memA hvl (fun _ _ => ?_))
   refine Ga (GU HU HU ?_)
   intro a123 k123 z123
   refine Ga (Gq HU (fun b21 => ?_))
   refine qs 7 ?_
   refine Ga (Hi (kenc := vI) (venc := Value.bool) (m := mv) (i := is + 3) out[v].typ true HU HU HU (show (L.set is (Res.map bs vI Value.bool mv))[is]? = _ from List.getElem?_set_self (HD hs)) ?_)
   refine Gz (Hn (show _ = _ :: _ :: _ :: L.set is (Res.map bs vI Value.bool (upd mv out[v].typ true)) from by show _ :: _ :: _ :: (L.set is _).set is _ = _; rw [List.set_set])) ?_
   refine qs 7 ?_
   exact Gl (v + 1, upd mv out[v].typ true) ⟨by simp only; omega, by
    have := seen_new hmv out[v].typ
    rwa [List.append_assoc, show typs (out.take v) ++ [out[v].typ] = typs (out.take (v + 1)) by unfold typs; rw [List.take_succ_eq_append_getElem hvl, List.map_append]; rfl] at this⟩ (by simp only; omega) srA (Sub.drop.trans subF)
  refine qs 16 ?_
  obtain rfl : v = out.length := by omega
  rw [List.take_length] at hmv
  have hnx : nextL T lev ws seen = out := hout.symm
  rw [hnx] at h
  exact Gb (L' := L.set is (Res.map bs vI Value.bool mv)) (F' := fEn out a9 k9 c9 :: F) Tryz.results152 rfl (Sub.drop.trans (Sub.drop.trans (Gg (mem1 memA (fun x hx => by repeat (first | exact hx | refine List.mem_cons_of_mem _ ?_)))))) (h mv a9 k9 c9 hmv)
end
end Go.Sy
