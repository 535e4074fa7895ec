/- Joined of my own texts: ScB, ScC, PaA, PaB, PaC, PaD, PaE, PaF. -/
import Derived.Test.YtodaafgpfjcpgaaGreatDoorX19
import Derived.Lib.SlicesS
namespace Go.Sy
open Go Go.Proofs Go.RowKit
theorem getD_eq {s : Bs} {j : Nat} (h : j < s.length) : s.getD j 0 = s[j] := by rw [List.getD_eq_getElem?_getD, List.getElem?_eq_getElem h]; rfl
structure ScanG (W0 : World) (F : List Fact) : Prop where
  big : ∃ m, W0.cell? ⟨2, 0, none⟩ = some (.int .i64 m)
  ops : Fact.at_ 0 0 (opsB.map fun x => D.val (S x)) ∈ F
  keys : Fact.slc (.slice (some ⟨1, 0, none⟩) 25 25) 1 (keysB.map eStr) ∈ F
theorem bigAt {W0 : World} {L : List Res} {F : List Fact} (g : ∃ m, W0.cell? ⟨2, 0, none⟩ = some (.int .i64 m)) {w : World} (s : Sat W0 L F w) : ∃ m, w.cell? ⟨2, 0, none⟩ = some (.int .i64 m) := by
  obtain ⟨m, hm⟩ := g
  exact ⟨m, cell_of_block (s.below.block _ (cell_block_lt hm)) hm⟩
attribute [local irreducible] AC AT AO AK AH ACalls ACallsX Sub Res.cells Res.obj Res.nix Res.own Res.map Exit.then Exit.inBlock Exit.noGoto bodyPost Code.wp Code.wpIn WL Next Post PostX Kont
section
variable {W0 : World} {L : List Res} {F : List Fact} {R : Value → List Res → List Fact → Prop}
set_option maxRecDepth 100000
set_option maxHeartbeats 4000000
theorem nonl_c (i : Nat) (c : UInt8) (h : R (.bool (c.toNat != 10)) L F) : ACalls Tryz.prog W0 90 #[.int .i64 (i : Int), .int .u8 c.toNat] L F R := by
  refine Gn Tryz.func90 HQ Tryz.ntmps90 HQ ?_
  refine qs 8 ?_
  refine Gb (Hw HQ HQ HQ (fun c6 => ?_) (fun c6 => ?_))
  ·refine qs 4 ?_
   rw [show (c.toNat != 10) = true by simp; omega] at h
   exact Gg Tryz.results90 rfl (Ga _ _) h
  refine qs 4 ?_
  rw [show (c.toNat != 10) = false by simp; omega] at h
  exact Gg Tryz.results90 rfl (Ga _ _) h
theorem word1_c (i : Nat) (c : UInt8) (h : R (.bool (wordC c)) L F) : ACalls Tryz.prog W0 94 #[.int .i64 (i : Int), .int .u8 c.toNat] L F R := by
  refine Gn Tryz.func94 HQ Tryz.ntmps94 HQ ?_
  refine qs 8 ?_
  refine Gb (Gi HQ HQ (HC _ (fun c6 => ?_) (fun c6 => ?_)))
  ·refine qs 4 ?_
   rw [c6] at h
   exact Gg Tryz.results94 rfl (Ga _ _) h
  refine qs 4 ?_
  rw [c6] at h
  exact Gg Tryz.results94 rfl (Ga _ _) h
theorem basedB_c (s : Bs) (hT : basedB s = true → R (.bool true) L F) (hF : basedB s = false → R (.bool false) L F) : ACalls Tryz.prog W0 115 #[S s] L F R := by
  refine Gn Tryz.func115 HQ Tryz.ntmps115 HQ ?_
  refine qs 9 ?_
  refine Gb (AO.gtr HQ HQ HQ (fun c5 => ?_) (fun c5 => ?_))
  ·refine qs 2 ?_
   refine Gr HQ HQ (Hm (j := 0) HQ HQ HQ HQ HS ?_)
   refine Gr HQ HQ (GA HQ HQ HQ (fun c9 => ?_) (fun c9 => ?_))
   ·refine qs 3 ?_
    refine Gr HQ HQ (Hm (j := 1) HQ HQ HQ HQ HS ?_)
    have h0 := getD_eq (show 0 < s.length by omega)
    have h1 := getD_eq (show 1 < s.length by omega)
    refine Gr HQ HQ (Gi HQ HQ (idxByte_c _ _ ?_))
    refine Gr HQ HQ (AO.geq HQ HQ HQ (fun c15 => ?_) (fun c15 => ?_))
    ·refine qs 5 ?_
     refine Gg Tryz.results115 HQ (Ga _ _) (hT ?_)
     unfold basedB
     rw [h0, h1, Lib.contains_iff_indexByte, decide_eq_true (show 1 < s.length by omega), decide_eq_true c15]
     simp; omega
    refine qs 5 ?_
    refine Gg Tryz.results115 HQ (Ga _ _) (hF ?_)
    unfold basedB
    rw [h0, h1, Lib.contains_iff_indexByte, decide_eq_false (show ¬ ((0 : Int) ≤ Lib.indexByte [120, 88, 98, 66, 111, 79] s[1]) by omega), Bool.and_false]
   refine qs 11 ?_
   have h0 := getD_eq (show 0 < s.length by omega)
   exact Gg Tryz.results115 rfl (Ga _ _) (hF (by simp only [basedB, h0]; simp; omega))
  refine qs 15 ?_
  exact Gg Tryz.results115 rfl (Ga _ _) (hF (by simp [basedB]; omega))
theorem num1_c (s : Bs) (hs : s.length ≤ 100000) (hex : Bool) {b1 b2 i1 i2 : Nat} (hb1 : L[i1]? = some (Res.cells b1 [S s].toArray 9)) (hb2 : L[i2]? = some (Res.cells b2 [.bool hex].toArray 4)) (i : Nat) (hi : i < s.length) (h : R (.bool (numP s hex i s[i])) L F) :
    ACalls Tryz.prog W0 116 #[.int .i64 (i : Int), .int .u8 s[i].toNat, pt b1, pt b2] L F R := by
  have hT : numP s hex i s[i] = true → R (.bool true) L F := fun q => by rw [q] at h; exact h
  have hF : numP s hex i s[i] = false → R (.bool false) L F := fun q => by rw [q] at h; exact h
  clear h
  cases hex
  · skip
    refine Gn Tryz.func116 HQ Tryz.ntmps116 HQ ?_
    refine qs 8 ?_
    refine Gb (GA HQ HQ HQ (fun c9 => ?_) (fun c9 => ?_))
    ·refine qs 6 ?_
     refine Gr HQ HQ (AO.gtr HQ HQ HQ (fun c16 => ?_) (fun c16 => ?_))
     ·refine qs 2 ?_
      refine Gr HQ HQ (GL (b := b1) HQ HQ ?_ (hi := by repeat (first | assumption | exact has0 | apply hasS)))
      refine qs 2 ?_
      refine Gr HQ HQ (Hm (j := i - 1) HQ HQ HQ HS HS ?_)
      refine Gr HQ HQ (GA HQ HQ HQ (fun c23 => ?_) (fun c23 => ?_))
      ·refine qs 9 ?_
       refine Gr HQ HQ (GL (b := b2) HQ HQ ?_ (hi := by repeat (first | assumption | exact has0 | apply hasS)))
       refine qs 8 ?_
       refine Gb (Gi HQ HQ (HC _ (fun c37 => ?_) (fun c37 => ?_)))
       ·refine qs 11 ?_
        have hg := getD_eq (show i - 1 < s.length by omega)
        first | refine Gg Tryz.results116 HQ (Ga _ _) (hT ?_) | refine Gg Tryz.results116 HQ (Ga _ _) (hF ?_)
        unfold numP
        rw [hg, c37]
        simp <;> omega
       refine qs 2 ?_
       refine Gr HQ HQ (GA HQ HQ HQ (fun c40 => ?_) (fun c40 => ?_))
       ·refine qs 8 ?_
        have hg := getD_eq (show i - 1 < s.length by omega)
        first | refine Gg Tryz.results116 HQ (Ga _ _) (hT ?_) | refine Gg Tryz.results116 HQ (Ga _ _) (hF ?_)
        unfold numP
        rw [hg, c37]
        simp <;> omega
       refine qs 8 ?_
       have hg := getD_eq (show i - 1 < s.length by omega)
       first | refine Gg Tryz.results116 HQ (Ga _ _) (hT ?_) | refine Gg Tryz.results116 HQ (Ga _ _) (hF ?_)
       unfold numP
       rw [hg, c37]
       simp <;> omega
      refine qs 1 ?_
      refine Gr HQ HQ (GL (b := b1) HQ HQ ?_ (hi := by repeat (first | assumption | exact has0 | apply hasS)))
      refine qs 2 ?_
      refine Gr HQ HQ (Hm (j := i - 1) HQ HQ HQ HS HS ?_)
      refine Gr HQ HQ (GA HQ HQ HQ (fun c29 => ?_) (fun c29 => ?_))
      ·refine qs 3 ?_
       refine Gr HQ HQ (GL (b := b2) HQ HQ ?_ (hi := by repeat (first | assumption | exact has0 | apply hasS)))
       refine qs 8 ?_
       refine Gb (Gi HQ HQ (HC _ (fun c37 => ?_) (fun c37 => ?_)))
       ·refine qs 11 ?_
        have hg := getD_eq (show i - 1 < s.length by omega)
        first | refine Gg Tryz.results116 HQ (Ga _ _) (hT ?_) | refine Gg Tryz.results116 HQ (Ga _ _) (hF ?_)
        unfold numP
        rw [hg, c37]
        simp <;> omega
       refine qs 2 ?_
       refine Gr HQ HQ (GA HQ HQ HQ (fun c40 => ?_) (fun c40 => ?_))
       ·refine qs 8 ?_
        have hg := getD_eq (show i - 1 < s.length by omega)
        first | refine Gg Tryz.results116 HQ (Ga _ _) (hT ?_) | refine Gg Tryz.results116 HQ (Ga _ _) (hF ?_)
        unfold numP
        rw [hg, c37]
        simp <;> omega
       refine qs 8 ?_
       have hg := getD_eq (show i - 1 < s.length by omega)
       first | refine Gg Tryz.results116 HQ (Ga _ _) (hT ?_) | refine Gg Tryz.results116 HQ (Ga _ _) (hF ?_)
       unfold numP
       rw [hg, c37]
       simp <;> omega
      refine qs 12 ?_
      refine Gb (Gi HQ HQ (HC _ (fun c37 => ?_) (fun c37 => ?_)))
      ·refine qs 11 ?_
       have hg := getD_eq (show i - 1 < s.length by omega)
       first | refine Gg Tryz.results116 HQ (Ga _ _) (hT ?_) | refine Gg Tryz.results116 HQ (Ga _ _) (hF ?_)
       unfold numP
       rw [hg, c37]
       simp <;> omega
      refine qs 2 ?_
      refine Gr HQ HQ (GA HQ HQ HQ (fun c40 => ?_) (fun c40 => ?_))
      ·refine qs 8 ?_
       have hg := getD_eq (show i - 1 < s.length by omega)
       first | refine Gg Tryz.results116 HQ (Ga _ _) (hT ?_) | refine Gg Tryz.results116 HQ (Ga _ _) (hF ?_)
       unfold numP
       rw [hg, c37]
       simp <;> omega
      refine qs 8 ?_
      have hg := getD_eq (show i - 1 < s.length by omega)
      first | refine Gg Tryz.results116 HQ (Ga _ _) (hT ?_) | refine Gg Tryz.results116 HQ (Ga _ _) (hF ?_)
      unfold numP
      rw [hg, c37]
      simp <;> omega
     refine qs 25 ?_
     refine Gb (Gi HQ HQ (HC _ (fun c37 => ?_) (fun c37 => ?_)))
     ·refine qs 11 ?_
      have hg := getD_eq (show i - 1 < s.length by omega)
      first | refine Gg Tryz.results116 HQ (Ga _ _) (hT ?_) | refine Gg Tryz.results116 HQ (Ga _ _) (hF ?_)
      unfold numP
      rw [hg, c37]
      simp <;> omega
     refine qs 2 ?_
     refine Gr HQ HQ (GA HQ HQ HQ (fun c40 => ?_) (fun c40 => ?_))
     ·refine qs 8 ?_
      have hg := getD_eq (show i - 1 < s.length by omega)
      first | refine Gg Tryz.results116 HQ (Ga _ _) (hT ?_) | refine Gg Tryz.results116 HQ (Ga _ _) (hF ?_)
      unfold numP
      rw [hg, c37]
      simp <;> omega
     refine qs 8 ?_
     have hg := getD_eq (show i - 1 < s.length by omega)
     first | refine Gg Tryz.results116 HQ (Ga _ _) (hT ?_) | refine Gg Tryz.results116 HQ (Ga _ _) (hF ?_)
     unfold numP
     rw [hg, c37]
     simp <;> omega
    refine qs 2 ?_
    refine Gr HQ HQ (GA HQ HQ HQ (fun c12 => ?_) (fun c12 => ?_))
    ·refine qs 3 ?_
     refine Gr HQ HQ (AO.gtr HQ HQ HQ (fun c16 => ?_) (fun c16 => ?_))
     ·refine qs 2 ?_
      refine Gr HQ HQ (GL (b := b1) HQ HQ ?_ (hi := by repeat (first | assumption | exact has0 | apply hasS)))
      refine qs 2 ?_
      refine Gr HQ HQ (Hm (j := i - 1) HQ HQ HQ HS HS ?_)
      refine Gr HQ HQ (GA HQ HQ HQ (fun c23 => ?_) (fun c23 => ?_))
      ·refine qs 9 ?_
       refine Gr HQ HQ (GL (b := b2) HQ HQ ?_ (hi := by repeat (first | assumption | exact has0 | apply hasS)))
       refine qs 8 ?_
       refine Gb (Gi HQ HQ (HC _ (fun c37 => ?_) (fun c37 => ?_)))
       ·refine qs 11 ?_
        have hg := getD_eq (show i - 1 < s.length by omega)
        first | refine Gg Tryz.results116 HQ (Ga _ _) (hT ?_) | refine Gg Tryz.results116 HQ (Ga _ _) (hF ?_)
        unfold numP
        rw [hg, c37]
        simp <;> omega
       refine qs 2 ?_
       refine Gr HQ HQ (GA HQ HQ HQ (fun c40 => ?_) (fun c40 => ?_))
       ·refine qs 8 ?_
        have hg := getD_eq (show i - 1 < s.length by omega)
        first | refine Gg Tryz.results116 HQ (Ga _ _) (hT ?_) | refine Gg Tryz.results116 HQ (Ga _ _) (hF ?_)
        unfold numP
        rw [hg, c37]
        simp <;> omega
       refine qs 8 ?_
       have hg := getD_eq (show i - 1 < s.length by omega)
       first | refine Gg Tryz.results116 HQ (Ga _ _) (hT ?_) | refine Gg Tryz.results116 HQ (Ga _ _) (hF ?_)
       unfold numP
       rw [hg, c37]
       simp <;> omega
      refine qs 1 ?_
      refine Gr HQ HQ (GL (b := b1) HQ HQ ?_ (hi := by repeat (first | assumption | exact has0 | apply hasS)))
      refine qs 2 ?_
      refine Gr HQ HQ (Hm (j := i - 1) HQ HQ HQ HS HS ?_)
      refine Gr HQ HQ (GA HQ HQ HQ (fun c29 => ?_) (fun c29 => ?_))
      ·refine qs 3 ?_
       refine Gr HQ HQ (GL (b := b2) HQ HQ ?_ (hi := by repeat (first | assumption | exact has0 | apply hasS)))
       refine qs 8 ?_
       refine Gb (Gi HQ HQ (HC _ (fun c37 => ?_) (fun c37 => ?_)))
       ·refine qs 11 ?_
        have hg := getD_eq (show i - 1 < s.length by omega)
        first | refine Gg Tryz.results116 HQ (Ga _ _) (hT ?_) | refine Gg Tryz.results116 HQ (Ga _ _) (hF ?_)
        unfold numP
        rw [hg, c37]
        simp <;> omega
       refine qs 2 ?_
       refine Gr HQ HQ (GA HQ HQ HQ (fun c40 => ?_) (fun c40 => ?_))
       ·refine qs 8 ?_
        have hg := getD_eq (show i - 1 < s.length by omega)
        first | refine Gg Tryz.results116 HQ (Ga _ _) (hT ?_) | refine Gg Tryz.results116 HQ (Ga _ _) (hF ?_)
        unfold numP
        rw [hg, c37]
        simp <;> omega
       refine qs 8 ?_
       have hg := getD_eq (show i - 1 < s.length by omega)
       first | refine Gg Tryz.results116 HQ (Ga _ _) (hT ?_) | refine Gg Tryz.results116 HQ (Ga _ _) (hF ?_)
       unfold numP
       rw [hg, c37]
       simp <;> omega
      refine qs 12 ?_
      refine Gb (Gi HQ HQ (HC _ (fun c37 => ?_) (fun c37 => ?_)))
      ·refine qs 11 ?_
       have hg := getD_eq (show i - 1 < s.length by omega)
       first | refine Gg Tryz.results116 HQ (Ga _ _) (hT ?_) | refine Gg Tryz.results116 HQ (Ga _ _) (hF ?_)
       unfold numP
       rw [hg, c37]
       simp <;> omega
      refine qs 2 ?_
      refine Gr HQ HQ (GA HQ HQ HQ (fun c40 => ?_) (fun c40 => ?_))
      ·refine qs 8 ?_
       have hg := getD_eq (show i - 1 < s.length by omega)
       first | refine Gg Tryz.results116 HQ (Ga _ _) (hT ?_) | refine Gg Tryz.results116 HQ (Ga _ _) (hF ?_)
       unfold numP
       rw [hg, c37]
       simp <;> omega
      refine qs 8 ?_
      have hg := getD_eq (show i - 1 < s.length by omega)
      first | refine Gg Tryz.results116 HQ (Ga _ _) (hT ?_) | refine Gg Tryz.results116 HQ (Ga _ _) (hF ?_)
      unfold numP
      rw [hg, c37]
      simp <;> omega
     refine qs 25 ?_
     refine Gb (Gi HQ HQ (HC _ (fun c37 => ?_) (fun c37 => ?_)))
     ·refine qs 11 ?_
      have hg := getD_eq (show i - 1 < s.length by omega)
      first | refine Gg Tryz.results116 HQ (Ga _ _) (hT ?_) | refine Gg Tryz.results116 HQ (Ga _ _) (hF ?_)
      unfold numP
      rw [hg, c37]
      simp <;> omega
     refine qs 2 ?_
     refine Gr HQ HQ (GA HQ HQ HQ (fun c40 => ?_) (fun c40 => ?_))
     ·refine qs 8 ?_
      have hg := getD_eq (show i - 1 < s.length by omega)
      first | refine Gg Tryz.results116 HQ (Ga _ _) (hT ?_) | refine Gg Tryz.results116 HQ (Ga _ _) (hF ?_)
      unfold numP
      rw [hg, c37]
      simp <;> omega
     refine qs 8 ?_
     have hg := getD_eq (show i - 1 < s.length by omega)
     first | refine Gg Tryz.results116 HQ (Ga _ _) (hT ?_) | refine Gg Tryz.results116 HQ (Ga _ _) (hF ?_)
     unfold numP
     rw [hg, c37]
     simp <;> omega
    refine qs 29 ?_
    refine Gb (Gi HQ HQ (HC _ (fun c37 => ?_) (fun c37 => ?_)))
    ·refine qs 11 ?_
     have hg := getD_eq (show i - 1 < s.length by omega)
     first | refine Gg Tryz.results116 HQ (Ga _ _) (hT ?_) | refine Gg Tryz.results116 HQ (Ga _ _) (hF ?_)
     unfold numP
     rw [hg, c37]
     simp <;> omega
    refine qs 2 ?_
    refine Gr HQ HQ (GA HQ HQ HQ (fun c40 => ?_) (fun c40 => ?_))
    ·refine qs 8 ?_
     have hg := getD_eq (show i - 1 < s.length by omega)
     first | refine Gg Tryz.results116 HQ (Ga _ _) (hT ?_) | refine Gg Tryz.results116 HQ (Ga _ _) (hF ?_)
     unfold numP
     rw [hg, c37]
     simp <;> omega
    refine qs 8 ?_
    have hg := getD_eq (show i - 1 < s.length by omega)
    first | refine Gg Tryz.results116 HQ (Ga _ _) (hT ?_) | refine Gg Tryz.results116 HQ (Ga _ _) (hF ?_)
    unfold numP
    rw [hg, c37]
    simp <;> omega
  skip
  refine Gn Tryz.func116 HQ Tryz.ntmps116 HQ ?_
  refine qs 8 ?_
  refine Gb (GA HQ HQ HQ (fun c9 => ?_) (fun c9 => ?_))
  ·refine qs 6 ?_
   refine Gr HQ HQ (AO.gtr HQ HQ HQ (fun c16 => ?_) (fun c16 => ?_))
   ·refine qs 2 ?_
    refine Gr HQ HQ (GL (b := b1) HQ HQ ?_ (hi := by repeat (first | assumption | exact has0 | apply hasS)))
    refine qs 2 ?_
    refine Gr HQ HQ (Hm (j := i - 1) HQ HQ HQ HS HS ?_)
    refine Gr HQ HQ (GA HQ HQ HQ (fun c23 => ?_) (fun c23 => ?_))
    ·refine qs 9 ?_
     refine Gr HQ HQ (GL (b := b2) HQ HQ ?_ (hi := by repeat (first | assumption | exact has0 | apply hasS)))
     refine qs 8 ?_
     refine Gb (Gi HQ HQ (HC _ (fun c37 => ?_) (fun c37 => ?_)))
     ·refine qs 11 ?_
      have hg := getD_eq (show i - 1 < s.length by omega)
      first | refine Gg Tryz.results116 HQ (Ga _ _) (hT ?_) | refine Gg Tryz.results116 HQ (Ga _ _) (hF ?_)
      unfold numP
      rw [hg, c37]
      simp <;> omega
     refine qs 2 ?_
     refine Gr HQ HQ (GA HQ HQ HQ (fun c40 => ?_) (fun c40 => ?_))
     ·refine qs 8 ?_
      have hg := getD_eq (show i - 1 < s.length by omega)
      first | refine Gg Tryz.results116 HQ (Ga _ _) (hT ?_) | refine Gg Tryz.results116 HQ (Ga _ _) (hF ?_)
      unfold numP
      rw [hg, c37]
      simp <;> omega
     refine qs 8 ?_
     have hg := getD_eq (show i - 1 < s.length by omega)
     first | refine Gg Tryz.results116 HQ (Ga _ _) (hT ?_) | refine Gg Tryz.results116 HQ (Ga _ _) (hF ?_)
     unfold numP
     rw [hg, c37]
     simp <;> omega
    refine qs 1 ?_
    refine Gr HQ HQ (GL (b := b1) HQ HQ ?_ (hi := by repeat (first | assumption | exact has0 | apply hasS)))
    refine qs 2 ?_
    refine Gr HQ HQ (Hm (j := i - 1) HQ HQ HQ HS HS ?_)
    refine Gr HQ HQ (GA HQ HQ HQ (fun c29 => ?_) (fun c29 => ?_))
    ·refine qs 3 ?_
     refine Gr HQ HQ (GL (b := b2) HQ HQ ?_ (hi := by repeat (first | assumption | exact has0 | apply hasS)))
     refine qs 8 ?_
     refine Gb (Gi HQ HQ (HC _ (fun c37 => ?_) (fun c37 => ?_)))
     ·refine qs 11 ?_
      have hg := getD_eq (show i - 1 < s.length by omega)
      first | refine Gg Tryz.results116 HQ (Ga _ _) (hT ?_) | refine Gg Tryz.results116 HQ (Ga _ _) (hF ?_)
      unfold numP
      rw [hg, c37]
      simp <;> omega
     refine qs 2 ?_
     refine Gr HQ HQ (GA HQ HQ HQ (fun c40 => ?_) (fun c40 => ?_))
     ·refine qs 8 ?_
      have hg := getD_eq (show i - 1 < s.length by omega)
      first | refine Gg Tryz.results116 HQ (Ga _ _) (hT ?_) | refine Gg Tryz.results116 HQ (Ga _ _) (hF ?_)
      unfold numP
      rw [hg, c37]
      simp <;> omega
     refine qs 8 ?_
     have hg := getD_eq (show i - 1 < s.length by omega)
     first | refine Gg Tryz.results116 HQ (Ga _ _) (hT ?_) | refine Gg Tryz.results116 HQ (Ga _ _) (hF ?_)
     unfold numP
     rw [hg, c37]
     simp <;> omega
    refine qs 12 ?_
    refine Gb (Gi HQ HQ (HC _ (fun c37 => ?_) (fun c37 => ?_)))
    ·refine qs 11 ?_
     have hg := getD_eq (show i - 1 < s.length by omega)
     first | refine Gg Tryz.results116 HQ (Ga _ _) (hT ?_) | refine Gg Tryz.results116 HQ (Ga _ _) (hF ?_)
     unfold numP
     rw [hg, c37]
     simp <;> omega
    refine qs 2 ?_
    refine Gr HQ HQ (GA HQ HQ HQ (fun c40 => ?_) (fun c40 => ?_))
    ·refine qs 8 ?_
     have hg := getD_eq (show i - 1 < s.length by omega)
     first | refine Gg Tryz.results116 HQ (Ga _ _) (hT ?_) | refine Gg Tryz.results116 HQ (Ga _ _) (hF ?_)
     unfold numP
     rw [hg, c37]
     simp <;> omega
    refine qs 8 ?_
    have hg := getD_eq (show i - 1 < s.length by omega)
    first | refine Gg Tryz.results116 HQ (Ga _ _) (hT ?_) | refine Gg Tryz.results116 HQ (Ga _ _) (hF ?_)
    unfold numP
    rw [hg, c37]
    simp <;> omega
   refine qs 25 ?_
   refine Gb (Gi HQ HQ (HC _ (fun c37 => ?_) (fun c37 => ?_)))
   ·refine qs 11 ?_
    have hg := getD_eq (show i - 1 < s.length by omega)
    first | refine Gg Tryz.results116 HQ (Ga _ _) (hT ?_) | refine Gg Tryz.results116 HQ (Ga _ _) (hF ?_)
    unfold numP
    rw [hg, c37]
    simp <;> omega
   refine qs 2 ?_
   refine Gr HQ HQ (GA HQ HQ HQ (fun c40 => ?_) (fun c40 => ?_))
   ·refine qs 8 ?_
    have hg := getD_eq (show i - 1 < s.length by omega)
    first | refine Gg Tryz.results116 HQ (Ga _ _) (hT ?_) | refine Gg Tryz.results116 HQ (Ga _ _) (hF ?_)
    unfold numP
    rw [hg, c37]
    simp <;> omega
   refine qs 8 ?_
   have hg := getD_eq (show i - 1 < s.length by omega)
   first | refine Gg Tryz.results116 HQ (Ga _ _) (hT ?_) | refine Gg Tryz.results116 HQ (Ga _ _) (hF ?_)
   unfold numP
   rw [hg, c37]
   simp <;> omega
  refine qs 2 ?_
  refine Gr HQ HQ (GA HQ HQ HQ (fun c12 => ?_) (fun c12 => ?_))
  ·refine qs 3 ?_
   refine Gr HQ HQ (AO.gtr HQ HQ HQ (fun c16 => ?_) (fun c16 => ?_))
   ·refine qs 2 ?_
    refine Gr HQ HQ (GL (b := b1) HQ HQ ?_ (hi := by repeat (first | assumption | exact has0 | apply hasS)))
    refine qs 2 ?_
    refine Gr HQ HQ (Hm (j := i - 1) HQ HQ HQ HS HS ?_)
    refine Gr HQ HQ (GA HQ HQ HQ (fun c23 => ?_) (fun c23 => ?_))
    ·refine qs 9 ?_
     refine Gr HQ HQ (GL (b := b2) HQ HQ ?_ (hi := by repeat (first | assumption | exact has0 | apply hasS)))
     refine qs 8 ?_
     refine Gb (Gi HQ HQ (HC _ (fun c37 => ?_) (fun c37 => ?_)))
     ·refine qs 11 ?_
      have hg := getD_eq (show i - 1 < s.length by omega)
      first | refine Gg Tryz.results116 HQ (Ga _ _) (hT ?_) | refine Gg Tryz.results116 HQ (Ga _ _) (hF ?_)
      unfold numP
      rw [hg, c37]
      simp <;> omega
     refine qs 2 ?_
     refine Gr HQ HQ (GA HQ HQ HQ (fun c40 => ?_) (fun c40 => ?_))
     ·refine qs 8 ?_
      have hg := getD_eq (show i - 1 < s.length by omega)
      first | refine Gg Tryz.results116 HQ (Ga _ _) (hT ?_) | refine Gg Tryz.results116 HQ (Ga _ _) (hF ?_)
      unfold numP
      rw [hg, c37]
      simp <;> omega
     refine qs 8 ?_
     have hg := getD_eq (show i - 1 < s.length by omega)
     first | refine Gg Tryz.results116 HQ (Ga _ _) (hT ?_) | refine Gg Tryz.results116 HQ (Ga _ _) (hF ?_)
     unfold numP
     rw [hg, c37]
     simp <;> omega
    refine qs 1 ?_
    refine Gr HQ HQ (GL (b := b1) HQ HQ ?_ (hi := by repeat (first | assumption | exact has0 | apply hasS)))
    refine qs 2 ?_
    refine Gr HQ HQ (Hm (j := i - 1) HQ HQ HQ HS HS ?_)
    refine Gr HQ HQ (GA HQ HQ HQ (fun c29 => ?_) (fun c29 => ?_))
    ·refine qs 3 ?_
     refine Gr HQ HQ (GL (b := b2) HQ HQ ?_ (hi := by repeat (first | assumption | exact has0 | apply hasS)))
     refine qs 8 ?_
     refine Gb (Gi HQ HQ (HC _ (fun c37 => ?_) (fun c37 => ?_)))
     ·refine qs 11 ?_
      have hg := getD_eq (show i - 1 < s.length by omega)
      first | refine Gg Tryz.results116 HQ (Ga _ _) (hT ?_) | refine Gg Tryz.results116 HQ (Ga _ _) (hF ?_)
      unfold numP
      rw [hg, c37]
      simp <;> omega
     refine qs 2 ?_
     refine Gr HQ HQ (GA HQ HQ HQ (fun c40 => ?_) (fun c40 => ?_))
     ·refine qs 8 ?_
      have hg := getD_eq (show i - 1 < s.length by omega)
      first | refine Gg Tryz.results116 HQ (Ga _ _) (hT ?_) | refine Gg Tryz.results116 HQ (Ga _ _) (hF ?_)
      unfold numP
      rw [hg, c37]
      simp <;> omega
     refine qs 8 ?_
     have hg := getD_eq (show i - 1 < s.length by omega)
     first | refine Gg Tryz.results116 HQ (Ga _ _) (hT ?_) | refine Gg Tryz.results116 HQ (Ga _ _) (hF ?_)
     unfold numP
     rw [hg, c37]
     simp <;> omega
    refine qs 12 ?_
    refine Gb (Gi HQ HQ (HC _ (fun c37 => ?_) (fun c37 => ?_)))
    ·refine qs 11 ?_
     have hg := getD_eq (show i - 1 < s.length by omega)
     first | refine Gg Tryz.results116 HQ (Ga _ _) (hT ?_) | refine Gg Tryz.results116 HQ (Ga _ _) (hF ?_)
     unfold numP
     rw [hg, c37]
     simp <;> omega
    refine qs 2 ?_
    refine Gr HQ HQ (GA HQ HQ HQ (fun c40 => ?_) (fun c40 => ?_))
    ·refine qs 8 ?_
     have hg := getD_eq (show i - 1 < s.length by omega)
     first | refine Gg Tryz.results116 HQ (Ga _ _) (hT ?_) | refine Gg Tryz.results116 HQ (Ga _ _) (hF ?_)
     unfold numP
     rw [hg, c37]
     simp <;> omega
    refine qs 8 ?_
    have hg := getD_eq (show i - 1 < s.length by omega)
    first | refine Gg Tryz.results116 HQ (Ga _ _) (hT ?_) | refine Gg Tryz.results116 HQ (Ga _ _) (hF ?_)
    unfold numP
    rw [hg, c37]
    simp <;> omega
   refine qs 25 ?_
   refine Gb (Gi HQ HQ (HC _ (fun c37 => ?_) (fun c37 => ?_)))
   ·refine qs 11 ?_
    have hg := getD_eq (show i - 1 < s.length by omega)
    first | refine Gg Tryz.results116 HQ (Ga _ _) (hT ?_) | refine Gg Tryz.results116 HQ (Ga _ _) (hF ?_)
    unfold numP
    rw [hg, c37]
    simp <;> omega
   refine qs 2 ?_
   refine Gr HQ HQ (GA HQ HQ HQ (fun c40 => ?_) (fun c40 => ?_))
   ·refine qs 8 ?_
    have hg := getD_eq (show i - 1 < s.length by omega)
    first | refine Gg Tryz.results116 HQ (Ga _ _) (hT ?_) | refine Gg Tryz.results116 HQ (Ga _ _) (hF ?_)
    unfold numP
    rw [hg, c37]
    simp <;> omega
   refine qs 8 ?_
   have hg := getD_eq (show i - 1 < s.length by omega)
   first | refine Gg Tryz.results116 HQ (Ga _ _) (hT ?_) | refine Gg Tryz.results116 HQ (Ga _ _) (hF ?_)
   unfold numP
   rw [hg, c37]
   simp <;> omega
  refine qs 29 ?_
  refine Gb (Gi HQ HQ (HC _ (fun c37 => ?_) (fun c37 => ?_)))
  ·refine qs 11 ?_
   have hg := getD_eq (show i - 1 < s.length by omega)
   first | refine Gg Tryz.results116 HQ (Ga _ _) (hT ?_) | refine Gg Tryz.results116 HQ (Ga _ _) (hF ?_)
   unfold numP
   rw [hg, c37]
   simp <;> omega
  refine qs 2 ?_
  refine Gr HQ HQ (GA HQ HQ HQ (fun c40 => ?_) (fun c40 => ?_))
  ·refine qs 8 ?_
   have hg := getD_eq (show i - 1 < s.length by omega)
   first | refine Gg Tryz.results116 HQ (Ga _ _) (hT ?_) | refine Gg Tryz.results116 HQ (Ga _ _) (hF ?_)
   unfold numP
   rw [hg, c37]
   simp <;> omega
  refine qs 8 ?_
  have hg := getD_eq (show i - 1 < s.length by omega)
  first | refine Gg Tryz.results116 HQ (Ga _ _) (hT ?_) | refine Gg Tryz.results116 HQ (Ga _ _) (hF ?_)
  unfold numP
  rw [hg, c37]
  simp <;> omega
section
variable {q : UInt8} {s : Bs} {n : Nat}
theorem qcons {raw : Bool} {c : UInt8} {r : Bs} : quotedF q raw n (c :: r) = (if c = q then n + 1 else if (!raw && c.toNat == 10) = true then 0 else if (!raw && c.toNat == 92) = true then (match r with
      | [] => 0
      | e :: r' => if e.toNat = 10 then 0 else quotedF q raw (n + 2) r') else quotedF q raw (n + 1) r) := by
  rw [quotedF.eq_def]
  cases r <;> rfl
theorem qnil {raw : Bool} : quotedF q raw n [] = 0 := by rw [quotedF.eq_def]
theorem qend {raw : Bool} (h : s.length ≤ n) : quotedF q raw n (s.drop n) = 0 := by rw [List.drop_of_length_le h, qnil]
theorem qhit {raw : Bool} (h : n < s.length) (hq : s[n] = q) : quotedF q raw n (s.drop n) = n + 1 := by
  rw [List.drop_eq_getElem_cons h, qcons, if_pos hq]
theorem qraw (h : n < s.length) (hq : s[n] ≠ q) : quotedF q true n (s.drop n) = quotedF q true (n + 1) (s.drop (n + 1)) := by
  rw [List.drop_eq_getElem_cons h, qcons, if_neg hq]; rfl
theorem qnl (h : n < s.length) (hq : s[n] ≠ q) (h1 : s[n].toNat = 10) : quotedF q false n (s.drop n) = 0 := by
  rw [List.drop_eq_getElem_cons h, qcons, if_neg hq, h1]; rfl
theorem qgo (h : n < s.length) (hq : s[n] ≠ q) (h1 : s[n].toNat ≠ 10) (h2 : s[n].toNat ≠ 92) : quotedF q false n (s.drop n) = quotedF q false (n + 1) (s.drop (n + 1)) := by
  rw [List.drop_eq_getElem_cons h, qcons, if_neg hq, if_neg (by simp [h1]), if_neg (by simp [h2])]
theorem qescn (h : n + 1 < s.length) (hq : s[n] ≠ q) (h1 : s[n].toNat ≠ 10) (h2 : s[n].toNat = 92) (h3 : s[n + 1].toNat = 10) : quotedF q false n (s.drop n) = 0 := by
  rw [List.drop_eq_getElem_cons (by omega : n < s.length), qcons, if_neg hq, if_neg (by simp [h1]), if_pos (by simp [h2]), List.drop_eq_getElem_cons h]
  simp [h3]
theorem qesc (h : n < s.length) (hq : s[n] ≠ q) (h1 : s[n].toNat ≠ 10) (h2 : s[n].toNat = 92) (h3 : ∀ h : n + 1 < s.length, s[n + 1].toNat ≠ 10) : quotedF q false n (s.drop n) = quotedF q false (n + 2) (s.drop (n + 2)) := by
  rw [List.drop_eq_getElem_cons h, qcons, if_neg hq, if_neg (by simp [h1]), if_pos (by simp [h2])]
  rcases Nat.lt_or_ge (n + 1) s.length with k | k
  · rw [List.drop_eq_getElem_cons k]
    simp [h3 k]
  rw [List.drop_of_length_le k, List.drop_of_length_le HS, qnil]
end
theorem based_len {s : Bs} (h : basedB s = true) : 1 < s.length := by
  unfold basedB at h
  simp only [Bool.and_eq_true, decide_eq_true_eq] at h
  exact h.1.1
theorem whileF_all {p : Nat → UInt8 → Bool} : ∀ (s : Bs) (n j : Nat) (c : UInt8), s[j]? = some c → n + j < whileF p n s → p (n + j) c = true
  | [], n, j, c, h, _ => by simp at h
  | x :: r, n, j, c, h, hj => by
    unfold whileF at hj
    split at hj
    · rename_i hp
      cases j with
      | zero => simp at h; subst h; exact hp
      | succ j =>
        have := whileF_all (p := p) r (n + 1) j c (by simpa using h) HS
        rwa [show n + 1 + j = n + (j + 1) by omega] at this
    omega
theorem num_ascii (s : Bs) (hex : Bool) : ∀ (j : Nat) (b : UInt8), (s.take (whileF (numP s hex) 0 s))[j]? = some b → b.toNat < 128 := by
  intro j b h
  have hj : j < whileF (numP s hex) 0 s := by
    rcases Nat.lt_or_ge j (whileF (numP s hex) 0 s) with q | q
    · exact q
    rw [List.getElem?_eq_none (by rw [List.length_take]; omega)] at h; cases h
  rw [List.getElem?_take_of_lt hj] at h
  have := whileF_all (p := numP s hex) s 0 j b h HS
  unfold numP wordC letC digC at this
  simp only [Bool.or_eq_true, Bool.and_eq_true, decide_eq_true_eq, beq_iff_eq] at this
  omega
theorem hasAny_c (s : Bs) (hs : s.length ≤ 100000) (ha : ∀ (j : Nat) (b : UInt8), s[j]? = some b → b.toNat < 128) (h : R (.bool (Lib.containsAny s [46, 101, 69])) L F) : ACalls Tryz.prog W0 117 #[S s, S [46, 101, 69]] L F R :=
  ACalls.lib (fun w _ => Tryz.strings_ContainsAny_laid ⟨s.toArray⟩ ⟨#[46, 101, 69]⟩ w (by rw [S_size]; omega) (by decide) ha (fun j b hb => by
    match j, hb with
    | 0, hb | 1, hb | 2, hb => simp at hb; subst hb; decide
    | j + 3, hb => simp at hb)) h
theorem cutB_c (g : ∃ m, W0.cell? ⟨2, 0, none⟩ = some (.int .i64 m)) (s p : Bs) (hs : s.length ≤ 100000) (h : R (.tuple #[S (Lib.cut s p).1, S (Lib.cut s p).2.1, .bool (Lib.cut s p).2.2]) L F) : ACalls Tryz.prog W0 91 #[S s, S p] L F R :=
  ACalls.libD (fun w sat => by
    obtain ⟨m, hm⟩ := bigAt g sat
    exact Tryz.strings_Cut ⟨s.toArray⟩ ⟨p.toArray⟩ m w (by rw [S_size]; omega) hm) h
theorem number_c (s : Bs) (hs : s.length ≤ 100000) (h : R (.tuple #[.int .i64 (numberB s).1, .int .i64 ((numberB s).2 : Int)]) L F) : ACalls Tryz.prog W0 98 #[S s] L F R := by
  unfold numberB at h
  simp only at h
  refine Gn Tryz.func98 HQ Tryz.ntmps98 HQ ?_
  refine qs 2 ?_
  refine Gb (GH HQ HQ (fun b1 => ?_))
  refine qs 7 ?_
  refine Gb (Gi HQ HQ (basedB_c _ (fun c7 => ?_) (fun c7 => ?_)))
  ·refine qs 2 ?_
   have hl1 := based_len c7
   have hg1 := getD_eq hl1
   refine Gr HQ HQ (Hm (j := 1) HQ HQ HQ HQ HS ?_)
   refine Gr HQ HQ (GA HQ HQ HQ (fun c11 => ?_) (fun c11 => ?_))
   ·refine qs 6 ?_
    refine Gb (Hh HQ (fun b4 => ?_))
    refine qs 6 ?_
    refine Gb (Hz HQ HQ ?_)
    have hx : hexB s = true := by unfold hexB; rw [hg1, c7]; simp; omega
    rw [hx] at h
    refine Gb (Gi HQ HQ (while_c (cs := [pt b1, pt b4]) (numP s true) s hs (fun i hi {R'} h => num1_c s hs true (i1 := 1) (i2 := 0) HQ HQ i hi h) ?_))
    refine qs 7 ?_
    refine Gb (Gi HQ HQ (basedB_c _ (fun _ => ?_) (fun c22 => by rw [c7] at c22; cases c22)))
    refine qs 20 ?_
    rw [c7] at h
    exact GW Tryz.results98 rfl rfl (by repeat (first | exact Ga _ _ | exact Gc (fun x hx => by repeat (first | exact hx | refine List.mem_cons_of_mem _ ?_)) | refine Ge Gf ?_)) h
   refine qs 2 ?_
   refine Gr HQ HQ (Hm (j := 1) HQ HQ HQ HQ HS ?_)
   refine Gr HQ HQ (GA HQ HQ HQ (fun c15 => ?_) (fun c15 => ?_))
   ·refine qs 2 ?_
    refine Gb (Hh HQ (fun b4 => ?_))
    refine qs 6 ?_
    refine Gb (Hz HQ HQ ?_)
    have hx : hexB s = true := by unfold hexB; rw [hg1, c7]; simp; omega
    rw [hx] at h
    refine Gb (Gi HQ HQ (while_c (cs := [pt b1, pt b4]) (numP s true) s hs (fun i hi {R'} h => num1_c s hs true (i1 := 1) (i2 := 0) HQ HQ i hi h) ?_))
    refine qs 7 ?_
    refine Gb (Gi HQ HQ (basedB_c _ (fun _ => ?_) (fun c22 => by rw [c7] at c22; cases c22)))
    refine qs 20 ?_
    rw [c7] at h
    exact GW Tryz.results98 rfl rfl (by repeat (first | exact Ga _ _ | exact Gc (fun x hx => by repeat (first | exact hx | refine List.mem_cons_of_mem _ ?_)) | refine Ge Gf ?_)) h
   refine qs 2 ?_
   refine Gb (Hh HQ (fun b4 => ?_))
   refine qs 6 ?_
   refine Gb (Hz HQ HQ ?_)
   have hx : hexB s = false := by unfold hexB; rw [hg1, c7]; simp; omega
   rw [hx] at h
   refine Gb (Gi HQ HQ (while_c (cs := [pt b1, pt b4]) (numP s false) s hs (fun i hi {R'} h => num1_c s hs false (i1 := 1) (i2 := 0) HQ HQ i hi h) ?_))
   refine qs 7 ?_
   refine Gb (Gi HQ HQ (basedB_c _ (fun _ => ?_) (fun c22 => by rw [c7] at c22; cases c22)))
   refine qs 20 ?_
   rw [c7] at h
   exact GW Tryz.results98 rfl rfl (by repeat (first | exact Ga _ _ | exact Gc (fun x hx => by repeat (first | exact hx | refine List.mem_cons_of_mem _ ?_)) | refine Ge Gf ?_)) h
  refine qs 10 ?_
  refine Gb (Hh HQ (fun b4 => ?_))
  refine qs 6 ?_
  refine Gb (Hz HQ HQ ?_)
  have hx : hexB s = false := by simp [hexB, c7]
  rw [hx] at h
  refine Gb (Gi HQ HQ (while_c (cs := [pt b1, pt b4]) (numP s false) s hs (fun i hi {R'} h => num1_c s hs false (i1 := 1) (i2 := 0) HQ HQ i hi h) ?_))
  refine qs 7 ?_
  refine Gb (Gi HQ HQ (basedB_c _ (fun c22 => by rw [c7] at c22; cases c22) (fun _ => ?_)))
  refine qs 4 ?_
  have hwl := whileF_le (numP s false) s 0
  refine Gr HQ HQ (AO.sliceSH HQ HQ HQ HQ HS ?_)
  refine Gr HQ HQ (Gi HQ HQ (hasAny_c _ (by rw [List.length_take]; omega) (num_ascii s false) ?_))
  refine qs 3 ?_
  refine AC.cond HQ (fun c29 => ?_) (fun c29 => ?_)
  ·refine qs 9 ?_
   rw [c7, c29] at h
   exact GW Tryz.results98 rfl rfl (by repeat (first | exact Ga _ _ | exact Gc (fun x hx => by repeat (first | exact hx | refine List.mem_cons_of_mem _ ?_)) | refine Ge Gf ?_)) h
  refine qs 10 ?_
  rw [c7, c29] at h
  exact GW Tryz.results98 rfl rfl (by repeat (first | exact Ga _ _ | exact Gc (fun x hx => by repeat (first | exact hx | refine List.mem_cons_of_mem _ ?_)) | refine Ge Gf ?_)) h
theorem quoted_c (s : Bs) (h0 : s ≠ []) (hs : s.length ≤ 100000) (h : R (.int .i64 (quotedB s : Int)) L F) : ACalls Tryz.prog W0 99 #[S s] L F R := by
  have hl : 0 < s.length := List.length_pos_iff.2 h0
  have hg := getD_eq hl
  unfold quotedB at h
  rw [hg] at h
  refine Gn Tryz.func99 HQ Tryz.ntmps99 HQ ?_
  refine qs 8 ?_
  refine Gb (Hm (j := 0) HQ HQ HQ HQ HS ?_)
  refine Gb (GA HQ HQ HQ (fun c7 => ?_) (fun c7 => ?_))
  ·refine qs 10 ?_
   rw [show (s[0].toNat == 96) = true by simp; omega] at h
   refine Hj (fun (n : Nat) => 1 ≤ n ∧ n ≤ s.length + 1 ∧ quotedF s[0] true 1 (s.drop 1) = quotedF s[0] true n (s.drop n)) (fun n => [(0, S s), (3, .bool true), (4, .int .i64 (n : Int))]) (fun _ => L) (fun _ => F) (fun n => s.length + 2 - n) 1 ⟨Nat.le_refl _, by omega, rfl⟩ srA (Ga _ _) ?_
   rintro n ⟨hn1, hn, he⟩
   refine qs 6 ?_
   refine Gb (Hq HQ HQ HQ (fun c11 => ?_) (fun c11 => ?_))
   ·refine qs 9 ?_
    have hlt : n < s.length := by omega
    refine GO (fun _ => false) [] bxA HQ (fun hx hX => ?_)
    refine qt [0, 1] ?_
    refine Gq (i := 2) HQ (Y.indexS HQ HQ HQ HS) HR HQ HQ ?_
    refine qt [3] ?_
    refine Gq (i := 4) HQ (Y.indexS (j := 0) HQ HQ HQ HS) HR HQ HQ ?_
    refine AH.takeB (i := 5) HQ (Y.eql HQ HQ) HR HQ HQ (fun c20 => ?_) (fun c20 => ?_)
    ·replace c20 := eq_of_beq c20
     refine qt [6] ?_
     refine GF HR ?_
     refine qs 16 ?_
     rw [he, qhit hlt (u8_eq.1 c20)] at h
     exact Gg (L' := L) (F' := F) Tryz.results99 rfl (by repeat (first | exact Ga _ _ | exact Gc (fun x hx => by repeat (first | exact hx | refine List.mem_cons_of_mem _ ?_)) | refine Ge Gf ?_)) h
    replace c20 := ne_of_beqF c20
    refine qt [6] ?_
    refine GF HR ?_
    refine qs 39 ?_
    refine GX (n + 1) ⟨by omega, by omega, by rw [he, qraw hlt (fun e => c20 (u8_eq.2 e))]⟩ HS srA subF
   refine qs 14 ?_
   rw [he, qend HS] at h
   exact Gg (L' := L) (F' := F) Tryz.results99 rfl (by repeat (first | exact Ga _ _ | exact Gc (fun x hx => by repeat (first | exact hx | refine List.mem_cons_of_mem _ ?_)) | refine Ge Gf ?_)) h
  refine qs 10 ?_
  rw [show (s[0].toNat == 96) = false by simp; omega] at h
  refine Hj (fun (n : Nat) => 1 ≤ n ∧ n ≤ s.length + 1 ∧ quotedF s[0] false 1 (s.drop 1) = quotedF s[0] false n (s.drop n)) (fun n => [(0, S s), (3, .bool false), (4, .int .i64 (n : Int))]) (fun _ => L) (fun _ => F) (fun n => s.length + 2 - n) 1 ⟨Nat.le_refl _, by omega, rfl⟩ srA (Ga _ _) ?_
  rintro n ⟨hn1, hn, he⟩
  refine qs 6 ?_
  refine Gb (Hq HQ HQ HQ (fun c11 => ?_) (fun c11 => ?_))
  ·refine qs 9 ?_
   have hlt : n < s.length := by omega
   refine GO (fun _ => false) [] bxA HQ (fun hx hX => ?_)
   refine qt [0, 1] ?_
   refine Gq (i := 2) HQ (Y.indexS HQ HQ HQ HS) HR HQ HQ ?_
   refine qt [3] ?_
   refine Gq (i := 4) HQ (Y.indexS (j := 0) HQ HQ HQ HS) HR HQ HQ ?_
   refine AH.takeB (i := 5) HQ (Y.eql HQ HQ) HR HQ HQ (fun c20 => ?_) (fun c20 => ?_)
   ·replace c20 := eq_of_beq c20
    refine qt [6] ?_
    refine GF HR ?_
    refine qs 16 ?_
    rw [he, qhit hlt (u8_eq.1 c20)] at h
    exact Gg (L' := L) (F' := F) Tryz.results99 rfl (by repeat (first | exact Ga _ _ | exact Gc (fun x hx => by repeat (first | exact hx | refine List.mem_cons_of_mem _ ?_)) | refine Ge Gf ?_)) h
   replace c20 := ne_of_beqF c20
   refine qt [6] ?_
   refine GF HR ?_
   refine qs 9 ?_
   refine Gr HQ HQ (Hm HQ HQ HQ HQ HS (Gr HQ HQ (GA HQ HQ HQ (fun c30 => ?_) (fun c30 => ?_))))
   ·refine qs 17 ?_
    rw [he, qnl hlt (fun e => c20 (u8_eq.2 e)) HS] at h
    exact Gg (L' := L) (F' := F) Tryz.results99 rfl (by repeat (first | exact Ga _ _ | exact Gc (fun x hx => by repeat (first | exact hx | refine List.mem_cons_of_mem _ ?_)) | refine Ge Gf ?_)) h
   refine qs 12 ?_
   refine Gr HQ HQ (Hm HQ HQ HQ HQ HS (Gr HQ HQ (GA HQ HQ HQ (fun c39 => ?_) (fun c39 => ?_))))
   ·refine qs 17 ?_
    refine Gb (Hq HQ HQ HQ (fun c46 => ?_) (fun c46 => ?_))
    ·refine qs 3 ?_
     refine Gr HQ HQ (Hm (j := n + 1) HQ HQ HQ HQ HS ?_)
     refine Gr HQ HQ (GA HQ HQ HQ (fun c51 => ?_) (fun c51 => ?_))
     ·refine qs 16 ?_
      rw [he, qescn (show n + 1 < s.length by omega) (fun e => c20 (u8_eq.2 e)) HS HS HS] at h
      exact Gg (L' := L) (F' := F) Tryz.results99 rfl (by repeat (first | exact Ga _ _ | exact Gc (fun x hx => by repeat (first | exact hx | refine List.mem_cons_of_mem _ ?_)) | refine Ge Gf ?_)) h
     refine qs 13 ?_
     refine GX (n + 2) ⟨by omega, by omega, by rw [he, qesc hlt (fun e => c20 (u8_eq.2 e)) HS HS (by intro _; omega)]⟩ HS srA subF
    refine qs 18 ?_
    refine GX (n + 2) ⟨by omega, by omega, by rw [he, qesc hlt (fun e => c20 (u8_eq.2 e)) HS HS (by intro _; omega)]⟩ HS srA subF
   refine qs 14 ?_
   refine GX (n + 1) ⟨by omega, by omega, by rw [he, qgo hlt (fun e => c20 (u8_eq.2 e)) HS HS]⟩ HS srA subF
  refine qs 14 ?_
  rw [he, qend HS] at h
  exact Gg (L' := L) (F' := F) Tryz.results99 rfl (by repeat (first | exact Ga _ _ | exact Gc (fun x hx => by repeat (first | exact hx | refine List.mem_cons_of_mem _ ?_)) | refine Ge Gf ?_)) h
theorem cut_len (s p : Bs) : (Lib.cut s p).1.length ≤ s.length := by
  unfold Lib.cut
  split
  · rw [List.length_take]; omega
  exact Nat.le_refl _
theorem skipped_c (g : ScanG W0 F) (s : Bs) (h0 : s ≠ []) (hs : s.length ≤ 100000) (h : match skippedB s with
    | some (n, b) => R (.tuple #[.int .i64 (n : Int), .bool b]) L F
    | none => R (.tuple #[.int .i64 (-1), .bool false]) L F) : ACalls Tryz.prog W0 65 #[S s] L F R := by
  have hl : 0 < s.length := List.length_pos_iff.2 h0
  have hg := getD_eq hl
  unfold skippedB at h
  simp only [hg] at h
  rw [Lib.contains_iff_indexByte] at h
  refine Gn Tryz.func65 HQ Tryz.ntmps65 HQ ?_
  refine qs 11 ?_
  refine Gb (Hm (j := 0) HQ HQ HQ HQ HS ?_)
  refine Gb (Gi HQ HQ (idxByte_c _ _ ?_))
  refine Gb (AO.geq HQ HQ HQ (fun c11 => ?_) (fun c11 => ?_))
  ·refine qs 13 ?_
   rw [decide_eq_true c11, if_pos rfl] at h
   exact GW Tryz.results65 rfl rfl (Ga _ _) h
  refine qs 5 ?_
  rw [decide_eq_false (show ¬ ((0 : Int) ≤ Lib.indexByte [9, 13, 32] s[0]) by omega), if_neg (by decide)] at h
  refine qs 2 ?_
  refine Gb (Hm (j := 0) HQ HQ HQ HQ HS ?_)
  refine Gb (GA HQ HQ HQ (fun c15 => ?_) (fun c15 => ?_))
  ·refine qs 13 ?_
   rw [if_pos (by simp; omega)] at h
   exact GW Tryz.results65 rfl rfl (Ga _ _) h
  refine qs 5 ?_
  rw [if_neg (by simp; omega)] at h
  refine qs 2 ?_
  refine Gb (Gi HQ HQ (hasPre_c _ _ ?_))
  refine qs 3 ?_
  refine AC.cond HQ (fun c16 => ?_) (fun c16 => ?_)
  ·refine qs 3 ?_
   rw [if_pos c16] at h
   refine Gb (Gi HQ HQ (while_c (cs := []) (fun _ c => c.toNat != 10) s hs (fun i hi {R'} h => nonl_c i _ h) ?_))
   refine qs 7 ?_
   exact GW Tryz.results65 rfl rfl (Ga _ _) h
  refine qs 3 ?_
  rw [if_neg (by rw [c16]; decide)] at h
  refine Gb (Gi HQ HQ (hasPre_c _ _ ?_))
  refine qs 3 ?_
  refine AC.cond HQ (fun c21 => ?_) (fun c21 => ?_)
  ·refine qs 3 ?_
   have h2 : 2 ≤ s.length := by simpa using (List.isPrefixOf_iff_prefix.1 c21).length_le
   rw [if_pos c21] at h
   refine Gb (AO.sliceSL (i' := 2) HQ HQ HQ HQ h2 ?_)
   refine Gb (Gi HQ HQ (cutB_c g.big _ _ (by rw [List.length_drop]; omega) ?_))
   refine qs 16 ?_
   refine AC.cond HQ (fun c32 => ?_) (fun c32 => ?_)
   ·refine qs 10 ?_
    rw [if_neg (by simpa using c32)] at h
    exact GW Tryz.results65 rfl rfl (Ga _ _) h
   refine qs 5 ?_
   rw [if_pos (by simpa using c32)] at h
   refine Gb (AO.lenS HQ HQ ?_)
   have hcl := cut_len (s.drop 2) [42, 47]
   rw [List.length_drop] at hcl
   refine qs 2 ?_
   refine Gb (Gi HQ HQ (hasByte_c _ _ ?_))
   refine qs 7 ?_
   exact GW Tryz.results65 rfl rfl (Ga _ _) h
  refine qs 10 ?_
  rw [if_neg (by rw [c21]; decide)] at h
  exact GW Tryz.results65 rfl rfl (Ga _ _) h
end
end Go.Sy
namespace Go.Sy
open Go Go.Proofs Go.RowKit
theorem contains_iff {x : Bs} {l : List Bs} : Lib.containsS (l.map fun x => (⟨x.toArray⟩ : ByteArray)) ⟨x.toArray⟩ = l.contains x := by
  rw [Bool.eq_iff_iff, Lib.containsS_iff]
  simp only [List.mem_map, List.contains_iff_mem]
  constructor
  · rintro ⟨y, hy, e⟩
    have := S_inj e
    subst this; exact hy
  intro h; exact ⟨x, h, rfl⟩
theorem bytes_get (l : List Bs) (j : Nat) (h : j < l.length) : (l.map fun x => (⟨x.toArray⟩ : ByteArray)).getD j ByteArray.empty = ⟨(l[j]).toArray⟩ := by
  rw [List.getD_eq_getElem?_getD, List.getElem?_map, List.getElem?_eq_getElem h]; rfl
theorem find_at {α : Type} {p : α → Bool} {l : List α} {i : Nat} (h : i < l.length) (hp : p l[i] = true) (hn : ∀ j (hj : j < l.length), j < i → p l[j] = false) : l.find? p = some l[i] := by
  rw [List.find?_eq_some_iff_getElem]
  exact ⟨hp, i, h, rfl, fun j hj => by rw [hn j HS hj]; rfl⟩
theorem find_no {α : Type} {p : α → Bool} {l : List α} (hn : ∀ j (hj : j < l.length), p l[j] = false) : l.find? p = none := by
  rw [List.find?_eq_none]
  intro x hx
  obtain ⟨j, hj, rfl⟩ := List.getElem_of_mem hx
  rw [hn j hj]; decide
theorem ops_len : opsB.length = 33 := by decide
attribute [local irreducible] AC AT AO AK AH ACalls ACallsX Sub Res.cells Res.obj Res.nix Res.own Res.map Exit.then Exit.inBlock Exit.noGoto bodyPost Code.wp Code.wpIn WL Next Post PostX Kont
section
variable {W0 : World} {L : List Res} {F : List Fact} {R : Value → List Res → List Fact → Prop}
set_option maxRecDepth 100000
set_option maxHeartbeats 4000000
theorem pcontains_c {x : Bs} {l : List Bs} {u : Value} (m : Fact.slc u 1 (l.map eStr) ∈ F) (hl : l.length ≤ 1000) (hT : l.contains x = true → R (.bool true) L F) (hF : l.contains x = false → R (.bool false) L F) : ACalls Tryz.prog W0 69 #[u, S x] L F R := by
  have key : R (.bool (l.contains x)) L F := by
    cases hc : l.contains x
    · exact hF hc
    exact hT hc
  refine ACalls.lib0 (fun w sat => ?_) key
  obtain ⟨a', c', e, _, hne⟩ := sat.slcAt (en := S) m
  subst e
  cases l with
  | nil => exact Tryz.slices_Contains_string_empty a' c' ⟨x.toArray⟩ w
  | cons y l =>
    obtain ⟨bb, o, rfl, _, hcell⟩ := hne (by simp)
    have := Tryz.slices_Contains_string bb o (y :: l).length c' ((y :: l).map fun x => (⟨x.toArray⟩ : ByteArray)) ⟨x.toArray⟩ w (by simp) HS (fun j hj => by
      have hj' : j < (y :: l).length := by simpa using hj
      rw [bytes_get _ _ hj']
      exact hcell j _ (List.getElem?_eq_getElem hj'))
    rw [List.take_of_length_le (by simp), contains_iff] at this
    exact this
theorem key_c (g : ScanG W0 F) (s : Bs) (hT : keysB.contains s = true → R (.bool true) L F) (hF : keysB.contains s = false → R (.bool false) L F) : ACalls Tryz.prog W0 96 #[S s] L F R := by
  refine Gn Tryz.func96 HQ Tryz.ntmps96 HQ ?_
  refine qs 7 ?_
  refine Gb (AO.sliceG HQ HQ ?_)
  refine qs 1 ?_
  refine Gb (Gi HQ HQ (pcontains_c g.keys (by decide) (fun c5 => ?_) (fun c5 => ?_)))
  ·refine qs 4 ?_
   exact Gg Tryz.results96 rfl (Ga _ _) (hT c5)
  refine qs 4 ?_
  exact Gg Tryz.results96 rfl (Ga _ _) (hF c5)
theorem token_c (g : ScanG W0 F) (s : Bs) (h0 : s ≠ []) (hs : s.length ≤ 100000) (h : match tokenB s with
    | .ok (k, n) => R (.tuple #[.int .i64 k, .int .i64 (n : Int), .int .i64 0]) L F
    | .error e => R (.tuple #[.int .i64 0, .int .i64 0, .int .i64 e]) L F) : ACalls Tryz.prog W0 67 #[S s] L F R := by
  have hl : 0 < s.length := List.length_pos_iff.2 h0
  have hg := getD_eq hl
  unfold tokenB at h
  simp only [hg] at h
  refine Gn Tryz.func67 HQ Tryz.ntmps67 HQ ?_
  refine qs 10 ?_
  refine Gb (Hm (j := 0) HQ HQ HQ HQ HS ?_)
  refine qs 8 ?_
  refine Gb (Gi HQ HQ (letC_c _ (fun c16 => ?_) (fun c16 => ?_)))
  ·refine qs 7 ?_
   rw [if_pos c16] at h
   have hwl := (whileF_le (fun _ c => wordC c) s 0).2
   refine Gb (Gi HQ HQ (while_c (cs := []) (fun _ c => wordC c) s hs (fun i hi {R'} h => word1_c i _ h) ?_))
   refine qs 8 ?_
   refine Gb (AO.gtr HQ HQ HQ (fun c21 => ?_) (fun c21 => ?_))
   ·refine qs 5 ?_
    rw [if_pos HS] at h
    refine qs 11 ?_
    exact GQ Tryz.results67 rfl rfl rfl (Ga _ _) h
   refine qs 5 ?_
   rw [if_neg HS] at h
   refine qs 3 ?_
   refine Gb (AO.sliceSH HQ HQ HQ HQ HS ?_)
   refine Gb (Gi HQ HQ (key_c g _ (fun c26 => ?_) (fun c26 => ?_)))
   ·refine qs 5 ?_
    rw [if_pos c26] at h
    refine qs 12 ?_
    exact GQ Tryz.results67 rfl rfl rfl (Ga _ _) h
   refine qs 8 ?_
   rw [if_neg (by rw [c26]; decide)] at h
   refine qs 10 ?_
   exact GQ Tryz.results67 rfl rfl rfl (Ga _ _) h
  refine qs 7 ?_
  rw [if_neg (by rw [c16]; decide)] at h
  refine Gb (Gi HQ HQ (digC_c _ (fun c31 => ?_) (fun c31 => ?_)))
  ·refine qs 19 ?_
   rw [if_pos (by rw [c31]; rfl)] at h
   refine qs 2 ?_
   refine Gb (Gi HQ HQ (number_c s hs ?_))
   refine qs 19 ?_
   exact GQ Tryz.results67 rfl rfl rfl (Ga _ _) h
  refine qs 2 ?_
  refine Gr HQ HQ (GA HQ HQ HQ (fun c34 => ?_) (fun c34 => ?_))
  ·refine qs 3 ?_
   refine Gr HQ HQ (AO.gtr HQ HQ HQ (fun c38 => ?_) (fun c38 => ?_))
   ·refine qs 3 ?_
    have hg1 := getD_eq (show 1 < s.length by omega)
    refine Gr HQ HQ (Hm (j := 1) HQ HQ HQ HQ HS ?_)
    refine Gr HQ HQ (Gi HQ HQ (digC_c _ (fun c43 => ?_) (fun c43 => ?_)))
    ·refine qs 7 ?_
     rw [if_pos (by rw [hg1, c43]; simp; omega)] at h
     refine qs 2 ?_
     refine Gb (Gi HQ HQ (number_c s hs ?_))
     refine qs 19 ?_
     exact GQ Tryz.results67 rfl rfl rfl (Ga _ _) h
    refine qs 7 ?_
    rw [if_neg (by rw [c31, hg1, c43]; simp)] at h
    refine qs 2 ?_
    refine Gb (GA HQ HQ HQ (fun c55 => ?_) (fun c55 => ?_))
    ·refine qs 13 ?_
     rw [if_pos (by simp; omega)] at h
     refine qs 2 ?_
     refine Gb (Gi HQ HQ (quoted_c s h0 hs ?_))
     refine qs 7 ?_
     refine Gb (GA HQ HQ HQ (fun c67 => ?_) (fun c67 => ?_))
     ·refine qs 4 ?_
      rw [if_pos HS] at h
      refine qs 10 ?_
      exact GQ Tryz.results67 rfl rfl rfl (Ga _ _) h
     refine qs 7 ?_
     rw [if_neg HS] at h
     refine qs 2 ?_
     refine Gb (GA HQ HQ HQ (fun c69 => ?_) (fun c69 => ?_))
     ·refine qs 4 ?_
      rw [if_pos HS] at h
      refine qs 11 ?_
      exact GQ Tryz.results67 rfl rfl rfl (Ga _ _) h
     refine qs 6 ?_
     rw [if_neg HS] at h
     refine qs 10 ?_
     exact GQ Tryz.results67 rfl rfl rfl (Ga _ _) h
    refine qs 2 ?_
    refine Gr HQ HQ (GA HQ HQ HQ (fun c58 => ?_) (fun c58 => ?_))
    ·refine qs 10 ?_
     rw [if_pos (by simp; omega)] at h
     refine qs 2 ?_
     refine Gb (Gi HQ HQ (quoted_c s h0 hs ?_))
     refine qs 7 ?_
     refine Gb (GA HQ HQ HQ (fun c67 => ?_) (fun c67 => ?_))
     ·refine qs 4 ?_
      rw [if_pos HS] at h
      refine qs 10 ?_
      exact GQ Tryz.results67 rfl rfl rfl (Ga _ _) h
     refine qs 7 ?_
     rw [if_neg HS] at h
     refine qs 2 ?_
     refine Gb (GA HQ HQ HQ (fun c69 => ?_) (fun c69 => ?_))
     ·refine qs 4 ?_
      rw [if_pos HS] at h
      refine qs 11 ?_
      exact GQ Tryz.results67 rfl rfl rfl (Ga _ _) h
     refine qs 6 ?_
     rw [if_neg HS] at h
     refine qs 10 ?_
     exact GQ Tryz.results67 rfl rfl rfl (Ga _ _) h
    refine qs 3 ?_
    refine Gr HQ HQ (GA HQ HQ HQ (fun c62 => ?_) (fun c62 => ?_))
    ·refine qs 6 ?_
     rw [if_pos (by simp; omega)] at h
     refine qs 2 ?_
     refine Gb (Gi HQ HQ (quoted_c s h0 hs ?_))
     refine qs 7 ?_
     refine Gb (GA HQ HQ HQ (fun c67 => ?_) (fun c67 => ?_))
     ·refine qs 4 ?_
      rw [if_pos HS] at h
      refine qs 10 ?_
      exact GQ Tryz.results67 rfl rfl rfl (Ga _ _) h
     refine qs 7 ?_
     rw [if_neg HS] at h
     refine qs 2 ?_
     refine Gb (GA HQ HQ HQ (fun c69 => ?_) (fun c69 => ?_))
     ·refine qs 4 ?_
      rw [if_pos HS] at h
      refine qs 11 ?_
      exact GQ Tryz.results67 rfl rfl rfl (Ga _ _) h
     refine qs 6 ?_
     rw [if_neg HS] at h
     refine qs 10 ?_
     exact GQ Tryz.results67 rfl rfl rfl (Ga _ _) h
    refine qs 10 ?_
    rw [if_neg (by simp; omega)] at h
    refine qs 1 ?_
    refine Gb (AO.loadFA HQ HQ ?_ (hm := g.ops))
    show AT _ _ _ _ _ _
    refine qs 4 ?_
    refine Hj (fun (i : Nat) => i ≤ 33 ∧ ∀ j (hj : j < opsB.length), j < i → opsB[j].isPrefixOf s = false) (fun i => [(0, S s), (72, .agg (opsB.map S).toArray), (73, .int .i64 (i : Int))]) (fun _ => L) (fun _ => F) (fun i => 33 - i) 0 ⟨by omega, by omega⟩ srA subF ?_
    rintro i ⟨hi, hn⟩
    refine qs 2 ?_
    refine Gb (Hq HQ HQ HQ (fun c74 => ?_) (fun c74 => ?_))
    ·refine qs 10 ?_
     have hio : i < opsB.length := by rw [ops_len]; omega
     refine Gb (AO.indexA (j := i) (cs := opsB.map S) (v := S opsB[i]) HQ HQ HQ HQ HS (by rw [List.getElem?_map, List.getElem?_eq_getElem hio]; rfl) ?_)
     refine qs 7 ?_
     refine Gb (Gi HQ HQ (hasPre_c _ _ ?_))
     refine qs 2 ?_
     refine AC.cond HQ (fun c78 => ?_) (fun c78 => ?_)
     ·refine qs 15 ?_
      rw [find_at hio c78 hn] at h
      exact GQ Tryz.results67 rfl rfl rfl (Ga _ _) h
     refine qs 7 ?_
     refine GX (i + 1) ⟨by omega, fun j hj hji => ?_⟩ HS srA (Ga _ _)
     rcases Nat.lt_succ_iff_lt_or_eq.1 hji with q | rfl
     · exact hn j hj q
     exact c78
    refine qs 17 ?_
    rw [find_no (fun j hj => hn j hj (by rw [ops_len] at hj; omega))] at h
    exact GQ Tryz.results67 rfl rfl rfl (Ga _ _) h
   refine qs 12 ?_
   rw [if_neg (by rw [c31]; simp; omega)] at h
   refine qs 2 ?_
   refine Gb (GA HQ HQ HQ (fun c55 => ?_) (fun c55 => ?_))
   ·refine qs 13 ?_
    rw [if_pos (by simp; omega)] at h
    refine qs 2 ?_
    refine Gb (Gi HQ HQ (quoted_c s h0 hs ?_))
    refine qs 7 ?_
    refine Gb (GA HQ HQ HQ (fun c67 => ?_) (fun c67 => ?_))
    ·refine qs 4 ?_
     rw [if_pos HS] at h
     refine qs 10 ?_
     exact GQ Tryz.results67 rfl rfl rfl (Ga _ _) h
    refine qs 7 ?_
    rw [if_neg HS] at h
    refine qs 2 ?_
    refine Gb (GA HQ HQ HQ (fun c69 => ?_) (fun c69 => ?_))
    ·refine qs 4 ?_
     rw [if_pos HS] at h
     refine qs 11 ?_
     exact GQ Tryz.results67 rfl rfl rfl (Ga _ _) h
    refine qs 6 ?_
    rw [if_neg HS] at h
    refine qs 10 ?_
    exact GQ Tryz.results67 rfl rfl rfl (Ga _ _) h
   refine qs 2 ?_
   refine Gr HQ HQ (GA HQ HQ HQ (fun c58 => ?_) (fun c58 => ?_))
   ·refine qs 10 ?_
    rw [if_pos (by simp; omega)] at h
    refine qs 2 ?_
    refine Gb (Gi HQ HQ (quoted_c s h0 hs ?_))
    refine qs 7 ?_
    refine Gb (GA HQ HQ HQ (fun c67 => ?_) (fun c67 => ?_))
    ·refine qs 4 ?_
     rw [if_pos HS] at h
     refine qs 10 ?_
     exact GQ Tryz.results67 rfl rfl rfl (Ga _ _) h
    refine qs 7 ?_
    rw [if_neg HS] at h
    refine qs 2 ?_
    refine Gb (GA HQ HQ HQ (fun c69 => ?_) (fun c69 => ?_))
    ·refine qs 4 ?_
     rw [if_pos HS] at h
     refine qs 11 ?_
     exact GQ Tryz.results67 rfl rfl rfl (Ga _ _) h
    refine qs 6 ?_
    rw [if_neg HS] at h
    refine qs 10 ?_
    exact GQ Tryz.results67 rfl rfl rfl (Ga _ _) h
   refine qs 3 ?_
   refine Gr HQ HQ (GA HQ HQ HQ (fun c62 => ?_) (fun c62 => ?_))
   ·refine qs 6 ?_
    rw [if_pos (by simp; omega)] at h
    refine qs 2 ?_
    refine Gb (Gi HQ HQ (quoted_c s h0 hs ?_))
    refine qs 7 ?_
    refine Gb (GA HQ HQ HQ (fun c67 => ?_) (fun c67 => ?_))
    ·refine qs 4 ?_
     rw [if_pos HS] at h
     refine qs 10 ?_
     exact GQ Tryz.results67 rfl rfl rfl (Ga _ _) h
    refine qs 7 ?_
    rw [if_neg HS] at h
    refine qs 2 ?_
    refine Gb (GA HQ HQ HQ (fun c69 => ?_) (fun c69 => ?_))
    ·refine qs 4 ?_
     rw [if_pos HS] at h
     refine qs 11 ?_
     exact GQ Tryz.results67 rfl rfl rfl (Ga _ _) h
    refine qs 6 ?_
    rw [if_neg HS] at h
    refine qs 10 ?_
    exact GQ Tryz.results67 rfl rfl rfl (Ga _ _) h
   refine qs 10 ?_
   rw [if_neg (by simp; omega)] at h
   refine qs 1 ?_
   refine Gb (AO.loadFA HQ HQ ?_ (hm := g.ops))
   show AT _ _ _ _ _ _
   refine qs 4 ?_
   refine Hj (fun (i : Nat) => i ≤ 33 ∧ ∀ j (hj : j < opsB.length), j < i → opsB[j].isPrefixOf s = false) (fun i => [(0, S s), (72, .agg (opsB.map S).toArray), (73, .int .i64 (i : Int))]) (fun _ => L) (fun _ => F) (fun i => 33 - i) 0 ⟨by omega, by omega⟩ srA subF ?_
   rintro i ⟨hi, hn⟩
   refine qs 2 ?_
   refine Gb (Hq HQ HQ HQ (fun c74 => ?_) (fun c74 => ?_))
   ·refine qs 10 ?_
    have hio : i < opsB.length := by rw [ops_len]; omega
    refine Gb (AO.indexA (j := i) (cs := opsB.map S) (v := S opsB[i]) HQ HQ HQ HQ HS (by rw [List.getElem?_map, List.getElem?_eq_getElem hio]; rfl) ?_)
    refine qs 7 ?_
    refine Gb (Gi HQ HQ (hasPre_c _ _ ?_))
    refine qs 2 ?_
    refine AC.cond HQ (fun c78 => ?_) (fun c78 => ?_)
    ·refine qs 15 ?_
     rw [find_at hio c78 hn] at h
     exact GQ Tryz.results67 rfl rfl rfl (Ga _ _) h
    refine qs 7 ?_
    refine GX (i + 1) ⟨by omega, fun j hj hji => ?_⟩ HS srA (Ga _ _)
    rcases Nat.lt_succ_iff_lt_or_eq.1 hji with q | rfl
    · exact hn j hj q
    exact c78
   refine qs 17 ?_
   rw [find_no (fun j hj => hn j hj (by rw [ops_len] at hj; omega))] at h
   exact GQ Tryz.results67 rfl rfl rfl (Ga _ _) h
  refine qs 16 ?_
  rw [if_neg (by rw [c31]; simp; omega)] at h
  refine qs 2 ?_
  refine Gb (GA HQ HQ HQ (fun c55 => ?_) (fun c55 => ?_))
  ·refine qs 13 ?_
   rw [if_pos (by simp; omega)] at h
   refine qs 2 ?_
   refine Gb (Gi HQ HQ (quoted_c s h0 hs ?_))
   refine qs 7 ?_
   refine Gb (GA HQ HQ HQ (fun c67 => ?_) (fun c67 => ?_))
   ·refine qs 4 ?_
    rw [if_pos HS] at h
    refine qs 10 ?_
    exact GQ Tryz.results67 rfl rfl rfl (Ga _ _) h
   refine qs 7 ?_
   rw [if_neg HS] at h
   refine qs 2 ?_
   refine Gb (GA HQ HQ HQ (fun c69 => ?_) (fun c69 => ?_))
   ·refine qs 4 ?_
    rw [if_pos HS] at h
    refine qs 11 ?_
    exact GQ Tryz.results67 rfl rfl rfl (Ga _ _) h
   refine qs 6 ?_
   rw [if_neg HS] at h
   refine qs 10 ?_
   exact GQ Tryz.results67 rfl rfl rfl (Ga _ _) h
  refine qs 2 ?_
  refine Gr HQ HQ (GA HQ HQ HQ (fun c58 => ?_) (fun c58 => ?_))
  ·refine qs 10 ?_
   rw [if_pos (by simp; omega)] at h
   refine qs 2 ?_
   refine Gb (Gi HQ HQ (quoted_c s h0 hs ?_))
   refine qs 7 ?_
   refine Gb (GA HQ HQ HQ (fun c67 => ?_) (fun c67 => ?_))
   ·refine qs 4 ?_
    rw [if_pos HS] at h
    refine qs 10 ?_
    exact GQ Tryz.results67 rfl rfl rfl (Ga _ _) h
   refine qs 7 ?_
   rw [if_neg HS] at h
   refine qs 2 ?_
   refine Gb (GA HQ HQ HQ (fun c69 => ?_) (fun c69 => ?_))
   ·refine qs 4 ?_
    rw [if_pos HS] at h
    refine qs 11 ?_
    exact GQ Tryz.results67 rfl rfl rfl (Ga _ _) h
   refine qs 6 ?_
   rw [if_neg HS] at h
   refine qs 10 ?_
   exact GQ Tryz.results67 rfl rfl rfl (Ga _ _) h
  refine qs 3 ?_
  refine Gr HQ HQ (GA HQ HQ HQ (fun c62 => ?_) (fun c62 => ?_))
  ·refine qs 6 ?_
   rw [if_pos (by simp; omega)] at h
   refine qs 2 ?_
   refine Gb (Gi HQ HQ (quoted_c s h0 hs ?_))
   refine qs 7 ?_
   refine Gb (GA HQ HQ HQ (fun c67 => ?_) (fun c67 => ?_))
   ·refine qs 4 ?_
    rw [if_pos HS] at h
    refine qs 10 ?_
    exact GQ Tryz.results67 rfl rfl rfl (Ga _ _) h
   refine qs 7 ?_
   rw [if_neg HS] at h
   refine qs 2 ?_
   refine Gb (GA HQ HQ HQ (fun c69 => ?_) (fun c69 => ?_))
   ·refine qs 4 ?_
    rw [if_pos HS] at h
    refine qs 11 ?_
    exact GQ Tryz.results67 rfl rfl rfl (Ga _ _) h
   refine qs 6 ?_
   rw [if_neg HS] at h
   refine qs 10 ?_
   exact GQ Tryz.results67 rfl rfl rfl (Ga _ _) h
  refine qs 10 ?_
  rw [if_neg (by simp; omega)] at h
  refine qs 1 ?_
  refine Gb (AO.loadFA HQ HQ ?_ (hm := g.ops))
  show AT _ _ _ _ _ _
  refine qs 4 ?_
  refine Hj (fun (i : Nat) => i ≤ 33 ∧ ∀ j (hj : j < opsB.length), j < i → opsB[j].isPrefixOf s = false) (fun i => [(0, S s), (72, .agg (opsB.map S).toArray), (73, .int .i64 (i : Int))]) (fun _ => L) (fun _ => F) (fun i => 33 - i) 0 ⟨by omega, by omega⟩ srA subF ?_
  rintro i ⟨hi, hn⟩
  refine qs 2 ?_
  refine Gb (Hq HQ HQ HQ (fun c74 => ?_) (fun c74 => ?_))
  ·refine qs 10 ?_
   have hio : i < opsB.length := by rw [ops_len]; omega
   refine Gb (AO.indexA (j := i) (cs := opsB.map S) (v := S opsB[i]) HQ HQ HQ HQ HS (by rw [List.getElem?_map, List.getElem?_eq_getElem hio]; rfl) ?_)
   refine qs 7 ?_
   refine Gb (Gi HQ HQ (hasPre_c _ _ ?_))
   refine qs 2 ?_
   refine AC.cond HQ (fun c78 => ?_) (fun c78 => ?_)
   ·refine qs 15 ?_
    rw [find_at hio c78 hn] at h
    exact GQ Tryz.results67 rfl rfl rfl (Ga _ _) h
   refine qs 7 ?_
   refine GX (i + 1) ⟨by omega, fun j hj hji => ?_⟩ HS srA (Ga _ _)
   rcases Nat.lt_succ_iff_lt_or_eq.1 hji with q | rfl
   · exact hn j hj q
   exact c78
  refine qs 17 ?_
  rw [find_no (fun j hj => hn j hj (by rw [ops_len] at hj; omega))] at h
  exact GQ Tryz.results67 rfl rfl rfl (Ga _ _) h
end
end Go.Sy
namespace Go.Sy
open Go Go.Proofs Go.RowKit
section
variable {α : Type} {K : List Tk} {s : PS} {R : α → PS → Prop} {X : Nat → Int → Prop} {m1 m2 : PM α}
theorem Kon.retE {a : α} (h : Kon (PM.ret a s) R X) : R a s := h
theorem Kon.okE {a : α} (h : Kon (.ok (a, s)) R X) : R a s := h
theorem Kon.whenT {x : Bs} (c : isB (s.tok K) [x] = true) (h : Kon (pwhen K x m1 m2 s) R X) : Kon (m1 s.next) R X := by unfold pwhen at h; rwa [if_pos c] at h
theorem Kon.whenF {x : Bs} (c : isB (s.tok K) [x] = false) (h : Kon (pwhen K x m1 m2 s) R X) : Kon (m2 s) R X := by unfold pwhen at h; rwa [if_neg (by rw [c]; decide)] at h
theorem Kon.pifT {l : List Bs} (c : isB (s.tok K) l = true) (h : Kon (pif K l m1 m2 s) R X) : Kon (m1 s) R X := by unfold pif at h; rwa [if_pos c] at h
theorem Kon.pifF {l : List Bs} (c : isB (s.tok K) l = false) (h : Kon (pif K l m1 m2 s) R X) : Kon (m2 s) R X := by unfold pif at h; rwa [if_neg (by rw [c]; decide)] at h
theorem Kon.iteT {p : Prop} [Decidable p] {A B : PR α} (c : p) (h : Kon (if p then A else B) R X) : Kon A R X := by rwa [if_pos c] at h
theorem Kon.iteF {p : Prop} [Decidable p] {A B : PR α} (c : ¬p) (h : Kon (if p then A else B) R X) : Kon B R X := by rwa [if_neg c] at h
theorem nott {b : Bool} (c : b = false) : ¬ b = true := by rw [c]; decide
end
def Ahead (K : List Tk) (d : Nat) {α : Type} (s : PS) (k : Nat) (r : PR α) : Prop := ∀ a s', r = .ok (a, s') → Inv K d s' ∧ s.i + k ≤ s'.i
theorem G.go {K : List Tk} {d : Nat} {α : Type} {s : PS} {k : Nat} {p : List Int} {r : PR α} {q : α → List Int} (h : G K d s k p r q) : Ahead K d s k r := fun a s' e => by
  subst e; exact ⟨h.1, h.2.1⟩
theorem pnode_go {K : List Tk} {d : Nat} {s : PS} (h : Inv K d s) {kind : Int} {text : Bs} {tn : Nat} {kids : List Int} : Ahead K d s 0 (pnode kind text tn kids s) := fun a s' e => by
  unfold pnode at e
  split at e
  · cases e
  injection e with e; injection e with _ e; subst e
  have := h.many
  exact ⟨⟨h.i, h.deep, by simp; omega⟩, Nat.le_refl _⟩
theorem Kon.go {K : List Tk} {d : Nat} {α : Type} {s : PS} {k : Nat} {r : PR α} {R R' : α → PS → Prop} {X X' : Nat → Int → Prop} (h : Kon r R X) (g : Ahead K d s k r) (hr : ∀ a s', Inv K d s' → s.i + k ≤ s'.i → r = .ok (a, s') → R a s' → R' a s') (hx : ∀ i e, X i e → X' i e) : Kon r R' X' := by
  match r, h, g, hr with
  | .ok (a, s'), h, g, hr => exact hr a s' (g a s' rfl).1 (g a s' rfl).2 rfl h
  | .error (i, e), h, _, _ => exact hx i e h
abbrev PL (T : List Tok) (b : Nat) (tv : Value) (s : PS) (a : Option Addr) (k c : Nat) (L : List Res) : List Res :=
  Res.cells b #[tv, .int .i64 (s.i : Int), .slice a k c, .int .i64 (s.deep : Int)] 43 :: Res.own (.slice a k c) 50 4 ((s.nodes.map (toNod T)).map eNod) :: L
abbrev wrong (T : List Tok) (i : Nat) (e : Int) : List PanicEntry := [{ v := .iface 54 (.agg #[.int .i64 (posOf T i : Int), .int .i64 e]), recovered := false }]
abbrev fTk (T : List Tok) (tv : Value) : Fact := .slc tv 3 (T.map eTok)
abbrev fNo : Fact := .slc (.slice none 0 0) 1 []
def PC (W0 : World) (T : List Tok) (b : Nat) (tv : Value) (L : List Res) (f : FuncId) (args : Array Value) (s : PS) {α : Type} (m : PM α) (enc : α → Value) : Prop :=
  ∀ {F : List Fact} {R : Value → List Res → List Fact → Prop} {X : List PanicEntry → List Res → List Fact → Prop} {a : Option Addr} {k c : Nat}, fTk T tv ∈ F → fNo ∈ F →
    Kon (m s) (fun x s' => ∀ a k c, R (enc x) (PL T b tv s' a k c L) F) (fun i e => X (wrong T i e) L F) → ACallsX Tryz.prog W0 f args (PL T b tv s a k c L) F R X
abbrev vInt (i : Int) : Value := .int .i64 i
abbrev vUnit (_ : Unit) : Value := .tuple #[]
theorem tk_of {T : List Tok} {i : Nat} (h : i < T.length) : tkAt (T.map Tok.tk) i = T[i].tk ∧ posOf T i = T[i].pos := by
  unfold tkAt posOf
  rw [List.getD_eq_getElem?_getD, List.getElem?_map, List.getD_eq_getElem?_getD, List.getElem?_eq_getElem h]
  exact ⟨rfl, rfl⟩
theorem tok_cells {hx : H} {b o : Nat} {t : Tok} (hat : AtR hx b o (eTok t)) : ∀ (j : Nat) (v : Value), [Value.int .i64 t.kind, S t.text, .int .i64 (t.pos : Int)][j]? = some v → hx b (o + j) = some v := by
  intro j v hj
  match j with
  | 0 => obtain ⟨u, hu, hc⟩ := hat 0 _ rfl; cases hc; simp at hj; subst hj; exact hu
  | 1 => obtain ⟨u, hu, hc⟩ := hat 1 _ rfl; cases hc; simp at hj; subst hj; exact hu
  | 2 => obtain ⟨u, hu, hc⟩ := hat 2 _ rfl; cases hc; simp at hj; subst hj; exact hu
  | j + 3 => simp at hj
theorem Inv.lt {T : List Tok} {d : Nat} {s : PS} (v : Inv (T.map Tok.tk) d s) : s.i < T.length := by simpa using v.i
attribute [local irreducible] AC AT AO AK AH ACalls ACallsX Sub Res.cells Res.obj Res.nix Res.own Res.map Exit.then Exit.inBlock bodyPost Code.wp Code.wpIn WL Next Post PostX Kont
section
variable {W0 : World} {L : List Res} {F : List Fact} {R : Value → List Res → List Fact → Prop} {X : List PanicEntry → List Res → List Fact → Prop}
set_option maxRecDepth 100000
set_option maxHeartbeats 4000000
variable {T : List Tok} {b : Nat} {tv : Value} {d : Nat} {s : PS} {a : Option Addr} {k c : Nat}
abbrev vTok (t : Tk) (p : Nat) : Value := .agg #[.int .i64 t.1, S t.2, .int .i64 (p : Int)]
theorem ptok_c (mT : fTk T tv ∈ F) (v : Inv (T.map Tok.tk) d s) (h : R (vTok (s.tok (T.map Tok.tk)) (posOf T s.i)) (PL T b tv s a k c L) F) : ACalls Tryz.prog W0 17 #[pt b] (PL T b tv s a k c L) F R := by
  have hlt := v.lt
  obtain ⟨q1, q2⟩ := tk_of hlt
  unfold PS.tok at h
  rw [q1, q2] at h
  refine Gn Tryz.func17 HQ Tryz.ntmps17 HQ ?_
  refine qs 2 ?_
  refine Gb (Hh HQ (fun b2 => ?_))
  refine qs 3 ?_
  refine GO (fun i => Nat.beq i 10) [(b, _, _)] bxA HQ (fun hx hX => ?_)
  have hT := hX _ mT
  obtain ⟨ta, tc, e, _⟩ := CR.sv hT
  subst e
  have hln : (T.map eTok).length = T.length := List.length_map ..
  obtain ⟨p1, o1, rfl, at1⟩ := Hs hT hlt
  refine qt [0, 1, 2, 3, 4, 5, 6, 7] ?_
  refine Gq (i := 8) HQ (GE (k := s.i) HQ HQ HQ HS) HR HQ HQ ?_
  refine GP (i := 9) HQ (Y.loadFA HQ HQ (tok_cells at1)) HR HR HQ HQ HQ ?_
  refine GD (i := 10) HR HQ HQ (fun _ => ?_)
  refine HD HQ HQ HQ HQ ?_
  refine AT.spoilt HQ ?_
  refine GF HR ?_
  refine qs 2 ?_
  exact AK.retV (rs := [.cell 2 _]) (L' := PL T b (.slice _ _ tc) s a k c L) (F' := F) Tryz.results17 (.agg (j := 0) rfl rfl rfl .nil) (by repeat (first | exact Ga _ _ | exact Gc (fun x hx => by repeat (first | exact hx | refine List.mem_cons_of_mem _ ?_)) | refine Ge Gf ?_)) h
theorem pbehind_c (w : Wf (T.map Tok.tk)) (mT : fTk T tv ∈ F) (v : Inv (T.map Tok.tk) d s) (m : Nat) (hm : m ≤ 2) (h : R (vTok (tkAt (T.map Tok.tk) (min (s.i + m) ((T.map Tok.tk).length - 1))) (posOf T (min (s.i + m) ((T.map Tok.tk).length - 1)))) (PL T b tv s a k c L) F) : ACalls Tryz.prog W0 72 #[pt b, .int .i64 (m : Int)] (PL T b tv s a k c L) F R := by
  have hlt := v.lt
  have hlen : (T.map Tok.tk).length = T.length := List.length_map ..
  have hw := w.len
  rw [hlen] at h hw
  have hq : min (s.i + m) (T.length - 1) < T.length := by omega
  obtain ⟨q1, q2⟩ := tk_of hq
  rw [q1, q2] at h
  refine Gn Tryz.func72 HQ Tryz.ntmps72 HQ ?_
  refine qs 2 ?_
  refine Gb (Hh HQ (fun b4 => ?_))
  refine qs 3 ?_
  refine GO (fun i => Nat.beq i 19) [(b, _, _)] bxA HQ (fun hx hX => ?_)
  have hT := hX _ mT
  obtain ⟨ta, tc, e, _⟩ := CR.sv hT
  subst e
  have hln : (T.map eTok).length = T.length := List.length_map ..
  obtain ⟨p1, o1, rfl, at1⟩ := Hs hT hq
  refine qt [0, 1, 2, 3, 4, 5, 6, 7, 8] ?_
  refine Gq (i := 9) HQ (Y.add HQ HQ HS HS) HR HQ HQ ?_
  refine qt [10, 11, 12, 13, 14, 15, 16] ?_
  refine Gq (i := 17) HQ (GE (k := min (s.i + m) (T.length - 1)) HQ HQ (by rw [hln]; omega) HS) HR HQ HQ ?_
  refine GP (i := 18) HQ (Y.loadFA HQ HQ (tok_cells at1)) HR HR HQ HQ HQ ?_
  refine GD (i := 19) HR HQ HQ (fun _ => ?_)
  refine HD HQ HQ HQ HQ ?_
  refine AT.spoilt HQ ?_
  refine GF HR ?_
  refine qs 2 ?_
  exact AK.retV (rs := [.cell 4 _]) (L' := PL T b (.slice _ _ tc) s a k c L) (F' := F) Tryz.results72 (.agg (j := 0) rfl rfl rfl .nil) (by repeat (first | exact Ga _ _ | exact Gc (fun x hx => by repeat (first | exact hx | refine List.mem_cons_of_mem _ ?_)) | refine Ge Gf ?_)) h
end
end Go.Sy
namespace Go.Sy
abbrev GC := @pnode_go
abbrev GZ := @ptok_c
end Go.Sy
namespace Go.Sy
open Go Go.Proofs Go.RowKit
attribute [local irreducible] AC AT AO AK AH ACalls ACallsX Sub Res.cells Res.obj Res.nix Res.own Res.map Exit.then Exit.inBlock bodyPost Code.wp Code.wpIn WL Next Post PostX Kont
attribute [local irreducible] pnamed psignature pfield pelem pliteral pbare punion pexpr poperand pprimary punary ptypes punless pbody pfunction pdecl pfile plist plines pnode pof pmust psemi pnone pnested pwhen pif PM.bind PM.ret
section
variable {W0 : World} {L : List Res} {F : List Fact} {R : Value → List Res → List Fact → Prop} {X : List PanicEntry → List Res → List Fact → Prop}
set_option maxRecDepth 100000
set_option maxHeartbeats 4000000
variable {T : List Tok} {b : Nat} {tv : Value} {d : Nat} {s : PS} {a : Option Addr} {k c : Nat}
theorem pis_c {t : Tk} {p : Nat} {l : List Bs} {u : Value} (m : Fact.slc u 1 (l.map eStr) ∈ F) (hl : l.length ≤ 1000) (hT : isB t l = true → R (.bool true) L F) (hF : isB t l = false → R (.bool false) L F) : ACalls Tryz.prog W0 27 #[vTok t p, u] L F R := by
  refine Gn Tryz.func27 HQ Tryz.ntmps27 HQ ?_
  refine qs 2 ?_
  refine Gb (GH HQ HQ (fun b2 => ?_))
  refine qs 7 ?_
  refine Gb (GA HQ HQ HQ (fun c7 => ?_) (fun c7 => ?_))
  ·refine qs 9 ?_
   refine Gr HQ HQ (Gi HQ HQ (pcontains_c memA hl (fun c17 => ?_) (fun c17 => ?_)))
   ·refine qs 5 ?_
    first | refine Gg Tryz.results27 HQ (by repeat (first | exact Ga _ _ | exact Gc (fun x hx => by repeat (first | exact hx | refine List.mem_cons_of_mem _ ?_)) | refine Ge Gf ?_)) (hT ?_) | refine Gg Tryz.results27 HQ (by repeat (first | exact Ga _ _ | exact Gc (fun x hx => by repeat (first | exact hx | refine List.mem_cons_of_mem _ ?_)) | refine Ge Gf ?_)) (hF ?_)
    clear hT hF; simp_all [isB]
   refine qs 5 ?_
   first | refine Gg Tryz.results27 HQ (by repeat (first | exact Ga _ _ | exact Gc (fun x hx => by repeat (first | exact hx | refine List.mem_cons_of_mem _ ?_)) | refine Ge Gf ?_)) (hT ?_) | refine Gg Tryz.results27 HQ (by repeat (first | exact Ga _ _ | exact Gc (fun x hx => by repeat (first | exact hx | refine List.mem_cons_of_mem _ ?_)) | refine Ge Gf ?_)) (hF ?_)
   clear hT hF; simp_all [isB]
  refine qs 3 ?_
  refine Gr HQ HQ (GA HQ HQ HQ (fun c11 => ?_) (fun c11 => ?_))
  ·refine qs 5 ?_
   refine Gr HQ HQ (Gi HQ HQ (pcontains_c memA hl (fun c17 => ?_) (fun c17 => ?_)))
   ·refine qs 5 ?_
    first | refine Gg Tryz.results27 HQ (by repeat (first | exact Ga _ _ | exact Gc (fun x hx => by repeat (first | exact hx | refine List.mem_cons_of_mem _ ?_)) | refine Ge Gf ?_)) (hT ?_) | refine Gg Tryz.results27 HQ (by repeat (first | exact Ga _ _ | exact Gc (fun x hx => by repeat (first | exact hx | refine List.mem_cons_of_mem _ ?_)) | refine Ge Gf ?_)) (hF ?_)
    clear hT hF; simp_all [isB]
   refine qs 5 ?_
   first | refine Gg Tryz.results27 HQ (by repeat (first | exact Ga _ _ | exact Gc (fun x hx => by repeat (first | exact hx | refine List.mem_cons_of_mem _ ?_)) | refine Ge Gf ?_)) (hT ?_) | refine Gg Tryz.results27 HQ (by repeat (first | exact Ga _ _ | exact Gc (fun x hx => by repeat (first | exact hx | refine List.mem_cons_of_mem _ ?_)) | refine Ge Gf ?_)) (hF ?_)
   clear hT hF; simp_all [isB]
  refine qs 11 ?_
  first | refine Gg Tryz.results27 HQ (by repeat (first | exact Ga _ _ | exact Gc (fun x hx => by repeat (first | exact hx | refine List.mem_cons_of_mem _ ?_)) | refine Ge Gf ?_)) (hT ?_) | refine Gg Tryz.results27 HQ (by repeat (first | exact Ga _ _ | exact Gc (fun x hx => by repeat (first | exact hx | refine List.mem_cons_of_mem _ ?_)) | refine Ge Gf ?_)) (hF ?_)
  clear hT hF; simp_all [isB]
theorem psemiB_c {t : Tk} {p : Nat} (hT : semiB t = true → R (.bool true) L F) (hF : semiB t = false → R (.bool false) L F) : ACalls Tryz.prog W0 16 #[vTok t p] L F R := by
  refine Gn Tryz.func16 HQ Tryz.ntmps16 HQ ?_
  refine qs 2 ?_
  refine Gb (GH HQ HQ (fun b1 => ?_))
  refine qs 6 ?_
  refine Gb (Gz HQ HQ HQ HQ HQ HQ (fun b4 => ?_))
  refine Gb (Gi HQ HQ (pis_c (l := [[59], [10]]) memA (by simp) (fun c5 => ?_) (fun c5 => ?_)))
  ·refine qs 4 ?_
   exact Gg Tryz.results16 rfl (by repeat (first | exact Ga _ _ | exact Gc (fun x hx => by repeat (first | exact hx | refine List.mem_cons_of_mem _ ?_)) | refine Ge Gf ?_)) (hT c5)
  refine qs 4 ?_
  exact Gg Tryz.results16 rfl (by repeat (first | exact Ga _ _ | exact Gc (fun x hx => by repeat (first | exact hx | refine List.mem_cons_of_mem _ ?_)) | refine Ge Gf ?_)) (hF c5)
theorem pfail_c (mT : fTk T tv ∈ F) (v : Inv (T.map Tok.tk) d s) (e : Int) (h : X (wrong T s.i e) L F) : ACallsX Tryz.prog W0 23 #[pt b, .int .i64 e] (PL T b tv s a k c L) F R X := by
  refine ACallsX.body Tryz.func23 HQ Tryz.ntmps23 HQ ?_
  refine qs 2 ?_
  refine Gb (Gi HQ HQ (GZ mT v ?_))
  refine Gb (Ha HQ HQ HQ ?_)
  refine qs 2 ?_
  refine Gb (AO.iface HQ HQ ?_)
  refine Gl (AO.panic HQ ?_)
  refine Gm (Gj (by repeat (first | exact Ga _ _ | exact Gc (fun x hx => by repeat (first | exact hx | refine List.mem_cons_of_mem _ ?_)) | refine Ge Gf ?_)) (h))
theorem ptake_c (w : Wf (T.map Tok.tk)) {x : Bs} (mT : fTk T tv ∈ F) (v : Inv (T.map Tok.tk) d s) (hT : isB (s.tok (T.map Tok.tk)) [x] = true → R (.bool true) (PL T b tv s.next a k c L) F) (hF : isB (s.tok (T.map Tok.tk)) [x] = false → R (.bool false) (PL T b tv s a k c L) F) :
    ACalls Tryz.prog W0 68 #[pt b, S x] (PL T b tv s a k c L) F R := by
  have hlt := v.lt
  have hw := w.len
  rw [List.length_map] at hw
  refine Gn Tryz.func68 HQ Tryz.ntmps68 HQ ?_
  refine qs 9 ?_
  refine Gb (Gi HQ HQ (GZ mT v ?_))
  refine qs 1 ?_
  refine Gb (Gz HQ HQ HQ HQ HQ HQ (fun b8 => ?_))
  refine Gb (Gi HQ HQ (pis_c (l := [x]) memA (by simp) (fun c9 => ?_) (fun c9 => ?_)))
  ·refine qs 9 ?_
   refine Gb (Gu HQ HQ ?_)
   refine qs 3 ?_
   refine Gb (Gu HQ HQ ?_)
   refine qs 10 ?_
   exact Gg Tryz.results68 rfl (by repeat (first | exact Ga _ _ | exact Gc (fun x hx => by repeat (first | exact hx | refine List.mem_cons_of_mem _ ?_)) | refine Ge Gf ?_)) (hT c9)
  refine qs 11 ?_
  exact Gg Tryz.results68 rfl (by repeat (first | exact Ga _ _ | exact Gc (fun x hx => by repeat (first | exact hx | refine List.mem_cons_of_mem _ ?_)) | refine Ge Gf ?_)) (hF c9)
theorem pmust_c (w : Wf (T.map Tok.tk)) {x : Bs} (v : Inv (T.map Tok.tk) d s) : PC W0 T b tv L 24 #[pt b, S x] s (pmust (T.map Tok.tk) x) vUnit := by
  intro F R X a k c mT mN h
  unfold pmust at h
  refine ACallsX.body Tryz.func24 HQ Tryz.ntmps24 HQ ?_
  refine qs 4 ?_
  refine Gb (Gi HQ HQ (ptake_c w memA v (fun c6 => ?_) (fun c6 => ?_)))
  ·replace h := Kon.whenT c6 h
   repeat (first | replace h := Kon.bind h | replace h := Kon.retE h | replace h := Kon.okE h)
   have v11 := Inv.next v w (GS c6)
   refine qs 5 ?_
   exact Gw (AK.end0 Tryz.results24 (by repeat (first | exact Ga _ _ | exact Gc (fun x hx => by repeat (first | exact hx | refine List.mem_cons_of_mem _ ?_)) | refine Ge Gf ?_)) (h _ _ _))
  replace h := Kon.whenF c6 h
  repeat (first | replace h := Kon.bind h | replace h := Kon.retE h | replace h := Kon.okE h)
  refine qs 6 ?_
  refine Gl (Gk HQ HQ (pfail_c mT v 5 (Gm (Gj (by repeat (first | exact Ga _ _ | exact Gc (fun x hx => by repeat (first | exact hx | refine List.mem_cons_of_mem _ ?_)) | refine Ge Gf ?_)) (h)))))
theorem psemi_c (w : Wf (T.map Tok.tk)) (v : Inv (T.map Tok.tk) d s) : PC W0 T b tv L 26 #[pt b] s (psemi (T.map Tok.tk)) vUnit := by
  intro F R X a k c mT mN h
  have hlt := v.lt
  have hw := w.len
  rw [List.length_map] at hw
  unfold psemi at h
  refine ACallsX.body Tryz.func26 HQ Tryz.ntmps26 HQ ?_
  refine qs 4 ?_
  refine Gb (Gi HQ HQ (GZ memA v ?_))
  refine Gb (Gi HQ HQ (psemiB_c (fun c4 => ?_) (fun c4 => ?_)))
  ·first | replace h := Kon.iteT c4 h | skip
   repeat (first | replace h := Kon.bind h | replace h := Kon.retE h | replace h := Kon.okE h)
   refine qs 8 ?_
   refine Gb (Gu HQ HQ ?_)
   refine qs 3 ?_
   refine Gb (Gu HQ HQ ?_)
   refine qs 3 ?_
   exact Gw (AK.end0 Tryz.results26 (by repeat (first | exact Ga _ _ | exact Gc (fun x hx => by repeat (first | exact hx | refine List.mem_cons_of_mem _ ?_)) | refine Ge Gf ?_)) (h _ _ _))
  first | replace h := Kon.iteF (nott c4) h | skip
  repeat (first | replace h := Kon.bind h | replace h := Kon.retE h | replace h := Kon.okE h)
  refine qs 6 ?_
  refine Gl (Gk HQ HQ (pfail_c mT v 5 (Gm (Gh (Gj (by repeat (first | exact Ga _ _ | exact Gc (fun x hx => by repeat (first | exact hx | refine List.mem_cons_of_mem _ ?_)) | refine Ge Gf ?_)) (h))))))
theorem pof_c (w : Wf (T.map Tok.tk)) {kd : Int} (_ : kd ≠ 0) (v : Inv (T.map Tok.tk) d s) : PC W0 T b tv L 25 #[pt b, .int .i64 kd] s (pof (T.map Tok.tk) kd) S := by
  intro F R X a k c mT mN h
  have hlt := v.lt
  have hw := w.len
  rw [List.length_map] at hw
  unfold pof at h
  refine ACallsX.body Tryz.func25 HQ Tryz.ntmps25 HQ ?_
  refine qs 8 ?_
  refine Gb (Gi HQ HQ (GZ memA v ?_))
  refine Gb (Hh HQ (fun b5 => GT Hi ?_))
  refine qs 9 ?_
  refine Gb (Hw HQ HQ HQ (fun c11 => ?_) (fun c11 => ?_))
  ·first | replace h := Kon.iteT c11 h | replace h := Kon.iteF c11 h | skip
   repeat (first | replace h := Kon.bind h | replace h := Kon.retE h | replace h := Kon.okE h)
   refine qs 5 ?_
   refine Gl (Gk HQ HQ (pfail_c mT v 5 (Gm (Gh (Gj (by repeat (first | exact Ga _ _ | exact Gc (fun x hx => by repeat (first | exact hx | refine List.mem_cons_of_mem _ ?_)) | refine Ge Gf ?_)) (h))))))
  first | replace h := Kon.iteT c11 h | replace h := Kon.iteF c11 h | skip
  repeat (first | replace h := Kon.bind h | replace h := Kon.retE h | replace h := Kon.okE h)
  refine qs 8 ?_
  refine Gb (Gu HQ HQ ?_)
  refine qs 3 ?_
  refine Gb (Gu HQ HQ ?_)
  refine qs 12 ?_
  exact Gw (Gg Tryz.results25 rfl (by repeat (first | exact Ga _ _ | exact Gc (fun x hx => by repeat (first | exact hx | refine List.mem_cons_of_mem _ ?_)) | refine Ge Gs ?_)) (h _ _ _))
theorem pnode_c (_ : Wf (T.map Tok.tk)) {kind : Int} {text : Bs} {tn : Nat} {kids : List Int} {ka : Option Addr} {kk kc : Nat} (v : Inv (T.map Tok.tk) d s) (mT : fTk T tv ∈ F) (_ : fNo ∈ F) (mk : Fact.slc (.slice ka kk kc) 1 (kids.map eInt) ∈ F)
    (h : Kon (pnode kind text tn kids s) (fun x s' => ∀ a k c, R (vInt x) (PL T b tv s' a k c L) F) (fun i e => X (wrong T i e) L F)) :
    ACallsX Tryz.prog W0 28 #[pt b, .int .i64 kind, S text, .int .i64 (posOf T tn : Int), .slice ka kk kc] (PL T b tv s a k c L) F R X := by
  have hm := v.many
  have hln : (s.nodes.map (toNod T)).length = s.nodes.length := List.length_map ..
  have hln2 : ((s.nodes.map (toNod T)).map eNod).length = s.nodes.length := by rw [List.length_map, hln]
  unfold pnode at h
  refine ACallsX.body Tryz.func28 HQ Tryz.ntmps28 HQ ?_
  refine qs 9 ?_
  refine Gb (Gu HQ HQ ?_)
  refine qs 2 ?_
  refine Gb (AO.lenO HQ HQ (i := 1) HQ (fun hk => ?_))
  refine Gb (GA HQ HQ HQ (fun c16 => ?_) (fun c16 => ?_))
  ·refine qs 5 ?_
   replace h := Kon.iteT HS h
   refine Gl (Gk HQ HQ (pfail_c mT v 7 (Gm (Gh (Gj (by repeat (first | exact Ga _ _ | exact Gc (fun x hx => by repeat (first | exact hx | refine List.mem_cons_of_mem _ ?_)) | refine Ge Gf ?_)) (h))))))
  refine qs 7 ?_
  replace h := Kon.okE (Kon.iteF HS h)
  refine Gb (AO.move HQ HQ ?_)
  refine qs 1 ?_
  refine Gb (Gu HQ HQ ?_)
  refine qs 7 ?_
  refine Gb (GN HQ HQ HQ HQ HQ (fun b29 => ?_))
  refine Gb (Ho (enc := eNod) (lst := s.nodes.map (toNod T)) [toNod T ⟨kind, text, kids, tn⟩] HQ HQ HQ (i := 1) HQ (.val (.val (.slc (.val .nil) mk))) HQ HQ (fun _ => rfl) (by simp only [maxLen]; omega) HS (fun a2 k2 c2 => ?_))
  refine Gb (Gu HQ HQ ?_)
  refine qs 7 ?_
  refine Gb (Gu HQ HQ ?_)
  refine qs 2 ?_
  refine Gb (AO.lenO HQ HQ (i := 1) HQ (fun hk2 => ?_))
  have hq : (((s.nodes.map (toNod T) ++ [toNod T ⟨kind, text, kids, tn⟩]).map eNod).length : Int) - 1 = (s.nodes.length : Int) := by simp
  refine Gb (AO.sub HQ HQ HQ HS HS ?_)
  rw [hq]
  refine qs 4 ?_
  exact Gw (Gg (L' := PL T b tv _ a2 k2 c2 L) (F' := F) Tryz.results28 rfl (HM (by simp [PL])) (h a2 k2 c2))
theorem pnone_c (w : Wf (T.map Tok.tk)) (v : Inv (T.map Tok.tk) d s) : PC W0 T b tv L 71 #[pt b] s pnone vInt := by
  intro F R X a k c mT mN h
  unfold pnone at h
  refine ACallsX.body Tryz.func71 HQ Tryz.ntmps71 HQ ?_
  refine qs 9 ?_
  refine Gb (Gi HQ HQ (GZ memA v ?_))
  refine Gb (Ha HQ HQ HQ ?_)
  refine Gl (Gk HQ HQ (pnode_c w v memA memA memA (h.go (GC v) (fun x7 s11 v11 l11 e11 h a11 k11 c11 => ?_) (fun i e hx => Gm (Gh (Gj (by repeat (first | exact Ga _ _ | exact Gc (fun x hx => by repeat (first | exact hx | refine List.mem_cons_of_mem _ ?_)) | refine Ge Gf ?_)) (hx)))))))
  repeat (first | replace h := Kon.bind h | replace h := Kon.retE h | replace h := Kon.okE h)
  refine qs 4 ?_
  exact Gw (Gg (L' := PL T b tv s11 a11 k11 c11 L) (F' := F) Tryz.results71 rfl (by repeat (first | exact Ga _ _ | exact Gc (fun x hx => by repeat (first | exact hx | refine List.mem_cons_of_mem _ ?_)) | refine Ge Gs ?_)) (h _ _ _))
theorem pnested_c (v : Inv (T.map Tok.tk) (d + 1) s) {f : FuncId} [FnT Tryz.prog f] {fi cs : List Value} {m : PM Int} (ho : ∀ s, Inv (T.map Tok.tk) d s → PC W0 T b tv L f (fi ++ [] ++ cs).toArray s m vInt) (hg : ∀ s, Inv (T.map Tok.tk) d s → Ahead (T.map Tok.tk) d s 1 (m s)) :
    PC W0 T b tv L 30 #[pt b, .func (.func f) fi.toArray cs.toArray] s (pnested m) vInt := by
  intro F R X a k c mT mN h
  have hdp := v.deep
  have vd : Inv (T.map Tok.tk) d s.down := ⟨v.i, (by show s.deep + 1 + d = 40; omega), v.many⟩
  unfold pnested at h
  refine ACallsX.body Tryz.func30 HQ Tryz.ntmps30 HQ ?_
  refine qs 9 ?_
  refine Gb (Gu HQ HQ ?_)
  refine qs 2 ?_
  refine Gb (GA HQ HQ HQ (fun c10 => ?_) (fun c10 => ?_))
  ·refine qs 5 ?_
   exfalso
   omega
  refine qs 7 ?_
  replace h := Kon.bind (Kon.iteF HS h)
  refine Gb (AO.move HQ HQ ?_)
  refine Gb (Gu HQ HQ ?_)
  refine qs 3 ?_
  refine Gb (Gu HQ HQ ?_)
  refine qs 7 ?_
  refine Gl (AO.callBX HQ HQ HQ (ho s.down vd mT mN (h.go (hg _ vd) (fun x21 s1 v1 l1 e1 h a1 k1 c1 => ?_) (fun i e hx => Gm (Gh (Gj (by repeat (first | exact Ga _ _ | exact Gc (fun x hx => by repeat (first | exact hx | refine List.mem_cons_of_mem _ ?_)) | refine Ge Gf ?_)) (hx)))))))
  replace h := Kon.okE h
  have hd1 := v1.deep
  refine qs 6 ?_
  refine Gb (Gu HQ HQ ?_)
  refine qs 2 ?_
  have hsub : (s1.deep : Int) - 1 = ((s1.deep - 1 : Nat) : Int) := by omega
  refine Gb (AO.sub HQ HQ HQ HS HS ?_)
  rw [hsub]
  refine Gb (Gu HQ HQ ?_)
  refine qs 11 ?_
  exact Gw (Gg (L' := PL T b tv s1.up a1 k1 c1 L) (F' := F) Tryz.results30 rfl (by repeat (first | exact Ga _ _ | exact Gc (fun x hx => by repeat (first | exact hx | refine List.mem_cons_of_mem _ ?_)) | refine Ge Gs ?_)) (h _ _ _))
theorem plist_c (w : Wf (T.map Tok.tk)) (v : Inv (T.map Tok.tk) d s) {fin : Bs} {f : FuncId} [FnT Tryz.prog f] {fi cs : List Value} {one : PM Int} (ho : ∀ r s, Inv (T.map Tok.tk) d s → PC W0 T b tv (r :: L) f (fi ++ [] ++ cs).toArray s one vInt) (hg : ∀ s, Inv (T.map Tok.tk) d s → Ahead (T.map Tok.tk) d s 1 (one s))
    (mT : fTk T tv ∈ F) (mN : fNo ∈ F) (h : Kon (plist (T.map Tok.tk) fin one s) (fun l s' => ∀ a k c a' k' c', R (.slice a' k' c') (PL T b tv s' a k c (Res.own (.slice a' k' c') 3 1 (l.map eInt) :: L)) F) (fun i e => X (wrong T i e) L F)) :
    ACallsX Tryz.prog W0 101 #[pt b, S fin, .func (.func f) fi.toArray cs.toArray] (PL T b tv s a k c L) F R X := by
  have hw := w.len
  unfold plist at h
  refine ACallsX.body Tryz.func101 HQ Tryz.ntmps101 HQ ?_
  refine qs 11 ?_
  refine Hj (fun (q : (PS × List Int) × (Option Addr × Nat × Nat) × (Option Addr × Nat × Nat) × Nat) => Inv (T.map Tok.tk) d q.1.1 ∧ (T.map Tok.tk).length ≤ q.2.2.2 + q.1.1.i ∧ q.1.2.length ≤ q.1.1.i ∧ Kon (plistF (T.map Tok.tk) fin one q.2.2.2 q.1.2 q.1.1) (fun l s' => ∀ a k c a' k' c', R (.slice a' k' c') (PL T b tv s' a k c (Res.own (.slice a' k' c') 3 1 (l.map eInt) :: L)) F) (fun i e => X (wrong T i e) L F))
   (fun q => [(0, pt b), (1, S fin), (2, .func (.func f) fi.toArray cs.toArray), (7, .slice q.2.2.1.1 q.2.2.1.2.1 q.2.2.1.2.2)]) (fun q => PL T b tv q.1.1 q.2.1.1 q.2.1.2.1 q.2.1.2.2 (Res.own (.slice q.2.2.1.1 q.2.2.1.2.1 q.2.2.1.2.2) 3 1 (q.1.2.map eInt) :: L)) (fun _ => F) (fun q => q.2.2.2)
   ((s, []), (a, k, c), (none, 0, 0), (T.map Tok.tk).length) ⟨v, Nat.le_add_right _ _, Nat.zero_le _, h⟩ srA (Sub.ownNil.trans Hi) ?_
  clear h
  rintro ⟨⟨s1, out⟩, ⟨a1, k1, c1⟩, ⟨a2, k2, c2⟩, f1⟩ ⟨v1, hf1, ho1, h⟩
  simp only at v1 hf1 ho1 h ⊢
  have hi1 := v1.i
  rcases f1 with _ | f1
  · exfalso; omega
  unfold plistF at h
  replace h := Kon.bind h
  refine qs 6 ?_
  refine Gl (AO.callBX HQ HQ HQ (ho _ s1 v1 memA memA (h.go (hg _ v1) (fun x10 s3 v3 l3 e3 h a3 k3 c3 => ?_) (fun i e hx => Gm (Gh (Gh (Gx (Gh (Gx (Gj (by repeat (first | exact Ga _ _ | exact Gc (fun x hx => by repeat (first | exact hx | refine List.mem_cons_of_mem _ ?_)) | refine Ge Gf ?_)) (hx)))))))))))
  have hi3 := v3.i
  refine Gb (GN HQ HQ HQ HQ HQ (fun b11 => ?_))
  refine Gb (Ho (enc := eInt) (lst := out) [x10] HQ HQ HQ (i := 2) HQ (.val .nil) HQ HQ (fun _ => rfl) (by simp only [maxLen]; omega) HS (fun a4 k4 c4 => ?_))
  refine qs 7 ?_
  refine Gb (Gi HQ HQ (ptake_c w memA v3 (fun c15 => ?_) (fun c15 => ?_)))
  ·replace h := Kon.whenT c15 h
   repeat (first | replace h := Kon.bind h | replace h := Kon.retE h | replace h := Kon.okE h)
   have v11 := Inv.next v3 w (GS c15)
   refine qs 14 ?_
   exact Gw (Gg (L' := PL T b tv s3.next a3 k3 c3 (Res.own (.slice a4 k4 c4) 3 1 ((out ++ [x10]).map eInt) :: L)) (F' := F) Tryz.results101 rfl (by simp only [List.map_append]; exact subF) (h _ _ _ _ _ _))
  replace h := Kon.whenF c15 h
  repeat (first | replace h := Kon.bind h | replace h := Kon.retE h | replace h := Kon.okE h)
  refine qs 8 ?_
  refine Gl (Gk HQ HQ (pmust_c w v3 memA memA (h.go (HA w v3).go (fun x18 s12 v12 l12 e12 h a12 k12 c12 => ?_) (fun i e hx => Gm (Gh (Gx (Gh (Gx (Gj (by repeat (first | exact Ga _ _ | exact Gc (fun x hx => by repeat (first | exact hx | refine List.mem_cons_of_mem _ ?_)) | refine Ge Gf ?_)) (hx))))))))))
  repeat (first | replace h := Kon.bind h | replace h := Kon.retE h | replace h := Kon.okE h)
  refine qs 6 ?_
  refine Gb (Gi HQ HQ (ptake_c w memA v12 (fun c21 => ?_) (fun c21 => ?_)))
  ·replace h := Kon.whenT c21 h
   repeat (first | replace h := Kon.bind h | replace h := Kon.retE h | replace h := Kon.okE h)
   have v13 := Inv.next v12 w (GS c21)
   refine qs 13 ?_
   exact Gw (Gg (L' := PL T b tv s12.next a12 k12 c12 (Res.own (.slice a4 k4 c4) 3 1 ((out ++ [x10]).map eInt) :: L)) (F' := F) Tryz.results101 rfl (by simp only [List.map_append]; exact subF) (h _ _ _ _ _ _))
  replace h := Kon.whenF c21 h
  repeat (first | replace h := Kon.bind h | replace h := Kon.retE h | replace h := Kon.okE h)
  refine qs 5 ?_
  refine GX ((s12, out ++ [x10]), (a12, k12, c12), (a4, k4, c4), f1) ⟨v12, (by simp only; omega), (by simp only [List.length_append, List.length_cons, List.length_nil]; omega), h⟩ (by simp only; omega) srA (by simp only [List.map_append]; exact subF)
theorem plines_c (w : Wf (T.map Tok.tk)) (v : Inv (T.map Tok.tk) d s) {f : FuncId} [FnT Tryz.prog f] {fi cs : List Value} {one : PM Int} (ho : ∀ r s, Inv (T.map Tok.tk) d s → PC W0 T b tv (r :: L) f (fi ++ [] ++ cs).toArray s one vInt) (hg : ∀ s, Inv (T.map Tok.tk) d s → Ahead (T.map Tok.tk) d s 1 (one s))
    (mT : fTk T tv ∈ F) (mN : fNo ∈ F) (h : Kon (plines (T.map Tok.tk) one s) (fun l s' => ∀ a k c a' k' c', R (.slice a' k' c') (PL T b tv s' a k c L) (.slc (.slice a' k' c') 1 (l.map eInt) :: F)) (fun i e => X (wrong T i e) L F)) :
    ACallsX Tryz.prog W0 127 #[pt b, .func (.func f) fi.toArray cs.toArray] (PL T b tv s a k c L) F R X := by
  have hw := w.len
  unfold plines at h
  replace h := Kon.bind h
  refine ACallsX.body Tryz.func127 HQ Tryz.ntmps127 HQ ?_
  refine qs 14 ?_
  refine Gl (Gk HQ HQ (pmust_c w v memA memA (h.go (HA w v).go (fun x7 s11 v11 l11 e11 h a11 k11 c11 => ?_) (fun i e hx => Gm (Gh (Gh (Gj (by repeat (first | exact Ga _ _ | exact Gc (fun x hx => by repeat (first | exact hx | refine List.mem_cons_of_mem _ ?_)) | refine Ge Gf ?_)) (hx))))))))
  repeat (first | replace h := Kon.bind h | replace h := Kon.retE h | replace h := Kon.okE h)
  refine qs 3 ?_
  refine Hj (fun (q : (PS × List Int) × (Option Addr × Nat × Nat) × (Option Addr × Nat × Nat) × Nat) => Inv (T.map Tok.tk) d q.1.1 ∧ (T.map Tok.tk).length ≤ q.2.2.2 + q.1.1.i ∧ q.1.2.length ≤ q.1.1.i ∧ Kon (plinesF (T.map Tok.tk) one q.2.2.2 q.1.2 q.1.1) (fun l s' => ∀ a k c a' k' c', R (.slice a' k' c') (PL T b tv s' a k c L) (.slc (.slice a' k' c') 1 (l.map eInt) :: F)) (fun i e => X (wrong T i e) L F))
   (fun q => [(0, pt b), (1, .func (.func f) fi.toArray cs.toArray), (5, .slice q.2.2.1.1 q.2.2.1.2.1 q.2.2.1.2.2)]) (fun q => PL T b tv q.1.1 q.2.1.1 q.2.1.2.1 q.2.1.2.2 (Res.own (.slice q.2.2.1.1 q.2.2.1.2.1 q.2.2.1.2.2) 3 1 (q.1.2.map eInt) :: L)) (fun _ => F) (fun q => q.2.2.2)
   ((s11, []), (a11, k11, c11), (none, 0, 0), (T.map Tok.tk).length) ⟨v11, Nat.le_add_right _ _, Nat.zero_le _, h⟩ srA (Sub.ownNil.trans Hi) ?_
  clear h
  rintro ⟨⟨s1, out⟩, ⟨a1, k1, c1⟩, ⟨a2, k2, c2⟩, f1⟩ ⟨v1, hf1, ho1, h⟩
  simp only at v1 hf1 ho1 h ⊢
  have hi1 := v1.i
  rcases f1 with _ | f1
  · exfalso; omega
  unfold plinesF at h
  refine qs 4 ?_
  refine Gb (Gi HQ HQ (ptake_c w memA v1 (fun c9 => ?_) (fun c9 => ?_)))
  ·replace h := Kon.whenT c9 h
   repeat (first | replace h := Kon.bind h | replace h := Kon.retE h | replace h := Kon.okE h)
   have v12 := Inv.next v1 w (GS c9)
   refine qs 16 ?_
   exact Gw (Gg (L' := PL T b tv s1.next a1 k1 c1 L) (F' := .slc (.slice a2 k2 c2) 1 (out.map eInt) :: F) Tryz.results127 rfl ((He (i := 2) rfl).trans (Sub.drop2.trans (Sub.headF (fun x hx => by repeat (first | exact hx | refine List.mem_cons_of_mem _ ?_))))) (h _ _ _ _ _ _))
  replace h := Kon.whenF c9 h
  repeat (first | replace h := Kon.bind h | replace h := Kon.retE h | replace h := Kon.okE h)
  refine qs 11 ?_
  refine Gl (AO.callBX HQ HQ HQ (ho _ s1 v1 memA memA (h.go (hg _ v1) (fun x10 s3 v3 l3 e3 h a3 k3 c3 => ?_) (fun i e hx => Gm (Gh (Gx (Gh (Gx (Gh (Gj (by repeat (first | exact Ga _ _ | exact Gc (fun x hx => by repeat (first | exact hx | refine List.mem_cons_of_mem _ ?_)) | refine Ge Gf ?_)) (hx)))))))))))
  have hi3 := v3.i
  refine Gb (GN HQ HQ HQ HQ HQ (fun b11 => ?_))
  refine Gb (Ho (enc := eInt) (lst := out) [x10] HQ HQ HQ (i := 2) HQ (.val .nil) HQ HQ (fun _ => rfl) (by simp only [maxLen]; omega) HS (fun a4 k4 c4 => ?_))
  refine qs 6 ?_
  refine Gb (Gi HQ HQ (GZ memA v3 ?_))
  refine Gb (Gz HQ HQ HQ HQ HQ HQ (fun b18 => ?_))
  refine Gb (Gi HQ HQ (pis_c (l := [[125]]) memA (by simp) (fun c19 => ?_) (fun c19 => ?_)))
  ·first | replace h := Kon.pifT c19 h | replace h := Kon.iteT c19 h | replace h := Kon.whenT c19 h | skip
   repeat (first | replace h := Kon.bind h | replace h := Kon.retE h | replace h := Kon.okE h)
   refine qs 6 ?_
   refine GX ((s3, out ++ [x10]), (a3, k3, c3), (a4, k4, c4), f1) ⟨v3, (by simp only; omega), (by simp only [List.length_append, List.length_cons, List.length_nil]; omega), h⟩ (by simp only; omega) srA (by simp only [List.map_append]; exact subF)
  first | replace h := Kon.pifF c19 h | replace h := Kon.iteF (nott c19) h | replace h := Kon.whenF c19 h | skip
  repeat (first | replace h := Kon.bind h | replace h := Kon.retE h | replace h := Kon.okE h)
  refine qs 6 ?_
  refine Gl (Gk HQ HQ (psemi_c w v3 memA memA (h.go (psemi_g w v3).go (fun x22 s13 v13 l13 e13 h a13 k13 c13 => ?_) (fun i e hx => Gm (Gx (Gh (Gx (Gh (Gj (by repeat (first | exact Ga _ _ | exact Gc (fun x hx => by repeat (first | exact hx | refine List.mem_cons_of_mem _ ?_)) | refine Ge Gf ?_)) (hx))))))))))
  repeat (first | replace h := Kon.bind h | replace h := Kon.retE h | replace h := Kon.okE h)
  refine qs 2 ?_
  refine GX ((s13, out ++ [x10]), (a13, k13, c13), (a4, k4, c4), f1) ⟨v13, (by simp only; omega), (by simp only [List.length_append, List.length_cons, List.length_nil]; omega), h⟩ (by simp only; omega) srA (by simp only [List.map_append]; exact subF)
end
end Go.Sy
namespace Go.Sy
abbrev GG := @pnode_c
abbrev Hp := @ptake_c
abbrev HE := @pmust_c
end Go.Sy
namespace Go.Sy
open Go Go.Proofs Go.RowKit
theorem G.len {K : List Tk} {d : Nat} {s s' : PS} {k : Nat} {l : List Int} {r : PR (List Int)} (h : G K d s k [] r (fun l => l)) (e : r = .ok (l, s')) : l.length ≤ 2000 := by
  subst e
  obtain ⟨h1, _, h3⟩ := h
  obtain ⟨new, e, sg⟩ := h3 (by simp)
  have := sg.perm.length_eq
  have hm := h1.many
  rw [e] at hm
  simp at this hm
  omega
theorem no2 {p : Prop} {b : Bool} (c : ¬p) (e : b = false) : ¬(p ∨ b = true) := fun q => q.elim c (fun q => by rw [e] at q; cases q)
theorem one_eInt : ∀ (x : Int) (d : D), d ∈ eInt x → ∀ v, d = .val v → oneC v = true := fun x d hd v e => by
  simp at hd; subst hd; injection e with e; subst e; rfl
attribute [local irreducible] AC AT AO AK AH ACalls ACallsX Sub Res.cells Res.obj Res.nix Res.own Res.map Exit.then Exit.inBlock bodyPost Code.wp Code.wpIn WL Next Post PostX Kont
attribute [local irreducible] pnamed psignature pfield pelem pliteral pbare punion pexpr poperand pprimary punary ptypes punless pbody pfunction pdecl pfile plist plines pnode pof pmust psemi pnone pnested pwhen pif PM.bind PM.ret
structure RecC (W0 : World) (T : List Tok) (b : Nat) (tv : Value) (d : Nat) (r : Rec) : Prop where
  typ : ∀ {L : List Res} {s : PS}, Inv (T.map Tok.tk) d s → PC W0 T b tv L 74 #[pt b] s r.typ vInt
  union : ∀ {L : List Res} {s : PS}, Inv (T.map Tok.tk) d s → PC W0 T b tv L 103 #[pt b] s r.union vInt
  expr : ∀ {L : List Res} {s : PS} (n : Nat), n ≤ 10 → Inv (T.map Tok.tk) d s → PC W0 T b tv L 15 #[pt b, .int .i64 (n : Int)] s (r.expr n) vInt
  unary : ∀ {L : List Res} {s : PS}, Inv (T.map Tok.tk) d s → PC W0 T b tv L 32 #[pt b] s r.unary vInt
section
variable {W0 : World} {L : List Res} {F : List Fact} {R : Value → List Res → List Fact → Prop} {X : List PanicEntry → List Res → List Fact → Prop}
set_option maxRecDepth 100000
set_option maxHeartbeats 4000000
variable {T : List Tok} {b : Nat} {tv : Value} {d : Nat} {s : PS} {a : Option Addr} {k c : Nat} {r : Rec}
theorem pnamed_c (w : Wf (T.map Tok.tk)) (rc : RecC W0 T b tv d r) (hr : RecG (T.map Tok.tk) d r) (v : Inv (T.map Tok.tk) d s) : PC W0 T b tv L 119 #[pt b] s (pnamed (T.map Tok.tk) r) vInt := by
  intro F R X a k c mT mN h
  unfold pnamed at h
  replace h := Kon.bind h
  refine ACallsX.body Tryz.func119 HQ Tryz.ntmps119 HQ ?_
  refine qs 8 ?_
  refine Gb (Gi HQ HQ (GZ memA v ?_))
  refine Gb (Ha HQ HQ HQ ?_)
  refine qs 7 ?_
  refine Gl (Gk HQ HQ (pof_c w (by decide) v memA memA (h.go (pof_g w v (by decide)).go (fun x10 s11 v11 l11 e11 h a11 k11 c11 => ?_) (fun i e hx => Gm (Gh (Gj (by repeat (first | exact Ga _ _ | exact Gc (fun x hx => by repeat (first | exact hx | refine List.mem_cons_of_mem _ ?_)) | refine Ge Gf ?_)) (hx)))))))
  repeat (first | replace h := Kon.bind h | replace h := Kon.retE h | replace h := Kon.okE h)
  refine qs 1 ?_
  refine Gl (Gk HQ HQ (GG w v11 memA memA memA (h.go (GC v11) (fun x12 s12 v12 l12 e12 h a12 k12 c12 => ?_) (fun i e hx => Gm (Gh (Gj (by repeat (first | exact Ga _ _ | exact Gc (fun x hx => by repeat (first | exact hx | refine List.mem_cons_of_mem _ ?_)) | refine Ge Gf ?_)) (hx)))))))
  repeat (first | replace h := Kon.bind h | replace h := Kon.retE h | replace h := Kon.okE h)
  refine qs 7 ?_
  refine Gb (Gi HQ HQ (Hp w memA v12 (fun c14 => ?_) (fun c14 => ?_)))
  ·replace h := Kon.whenT c14 h
   repeat (first | replace h := Kon.bind h | replace h := Kon.retE h | replace h := Kon.okE h)
   have v13 := Inv.next v12 w (GS c14)
   refine qs 6 ?_
   refine Gl (Gk HQ HQ (pof_c w (by decide) v13 memA memA (h.go (pof_g w v13 (by decide)).go (fun x17 s14 v14 l14 e14 h a14 k14 c14 => ?_) (fun i e hx => Gm (Gh (Gj (by repeat (first | exact Ga _ _ | exact Gc (fun x hx => by repeat (first | exact hx | refine List.mem_cons_of_mem _ ?_)) | refine Ge Gf ?_)) (hx)))))))
   repeat (first | replace h := Kon.bind h | replace h := Kon.retE h | replace h := Kon.okE h)
   refine qs 2 ?_
   refine Gb (Gz HQ HQ HQ HQ HQ HQ (fun b20 => ?_))
   refine Gl (Gk HQ HQ (GG w v14 memA memA memA (h.go (GC v14) (fun x21 s15 v15 l15 e15 h a15 k15 c15 => ?_) (fun i e hx => Gm (Gh (Gj (by repeat (first | exact Ga _ _ | exact Gc (fun x hx => by repeat (first | exact hx | refine List.mem_cons_of_mem _ ?_)) | refine Ge Gf ?_)) (hx)))))))
   repeat (first | replace h := Kon.bind h | replace h := Kon.retE h | replace h := Kon.okE h)
   refine qs 7 ?_
   refine Gb (Gi HQ HQ (Hp w memA v15 (fun c23 => ?_) (fun c23 => ?_)))
   ·replace h := Kon.whenT c23 h
    repeat (first | replace h := Kon.bind h | replace h := Kon.retE h | replace h := Kon.okE h)
    have v16 := Inv.next v15 w (GS c23)
    refine qs 8 ?_
    refine Gb (GN HQ HQ HQ HQ HQ (fun b27 => GT ((Sub.toOwn (i := 0) (sz := 1) (enc := eInt) [x21] HQ (.val .nil) (fun _ => rfl) HQ (Nat.le_of_ble_eq_true HQ)).trans Hi) ?_))
    refine qs 2 ?_
    refine Gb (GB HQ HQ HQ ?_)
    refine Gl (Gk HQ HQ (plist_c w v16 (fun _ _ v => rc.typ v) (fun _ v => (hr.typ _ v).go) memA memA (h.go (plist_g w hr.typ v16).go (fun x31 s17 v17 l17 e17 h a17 k17 c17 p31 q31 r31 => ?_) (fun i e hx => Gm (Gh (Gh (Gj (by repeat (first | exact Ga _ _ | exact Gc (fun x hx => by repeat (first | exact hx | refine List.mem_cons_of_mem _ ?_)) | refine Ge Gf ?_)) (hx))))))))
    repeat (first | replace h := Kon.bind h | replace h := Kon.retE h | replace h := Kon.okE h)
    have ln31 := (plist_g w hr.typ v16).len e17
    refine GT ((He (i := 2) HQ).trans Gs) ?_
    refine Gb (AO.appendF (enc := eInt) (lst := [x21]) HQ HQ HQ (by repeat (first | exact has0 | apply hasS)) memA one_eInt (fun _ => rfl) (by unfold maxLen; first | omega | (simp <;> omega)) (by first | omega | (simp <;> omega)) (fun a32 k32 c32 => ?_))
    refine GT (He (v := .slice a32 k32 c32) (by repeat (first | exact has0 | apply hasS))) ?_
    refine Gl (Gk HQ HQ (GG w v17 memA memA memA (h.go (GC v17) (fun x33 s18 v18 l18 e18 h a18 k18 c18 => ?_) (fun i e hx => Gm (Gh (Gh (Gj (by repeat (first | exact Ga _ _ | exact Gc (fun x hx => by repeat (first | exact hx | refine List.mem_cons_of_mem _ ?_)) | refine Ge Gf ?_)) (hx))))))))
    repeat (first | replace h := Kon.bind h | replace h := Kon.retE h | replace h := Kon.okE h)
    refine qs 5 ?_
    exact Gw (Gg (L' := PL T b tv s18 a18 k18 c18 L) (F' := F) Tryz.results119 rfl (by repeat (first | exact Ga _ _ | exact Gc (fun x hx => by repeat (first | exact hx | refine List.mem_cons_of_mem _ ?_)) | refine Ge Gs ?_)) (h _ _ _))
   replace h := Kon.whenF c23 h
   repeat (first | replace h := Kon.bind h | replace h := Kon.retE h | replace h := Kon.okE h)
   refine qs 12 ?_
   exact Gw (Gg (L' := PL T b tv s15 a15 k15 c15 L) (F' := F) Tryz.results119 rfl (by repeat (first | exact Ga _ _ | exact Gc (fun x hx => by repeat (first | exact hx | refine List.mem_cons_of_mem _ ?_)) | refine Ge Gs ?_)) (h _ _ _))
  replace h := Kon.whenF c14 h
  repeat (first | replace h := Kon.bind h | replace h := Kon.retE h | replace h := Kon.okE h)
  refine qs 9 ?_
  refine Gb (Gi HQ HQ (Hp w memA v12 (fun c23 => ?_) (fun c23 => ?_)))
  ·replace h := Kon.whenT c23 h
   repeat (first | replace h := Kon.bind h | replace h := Kon.retE h | replace h := Kon.okE h)
   have v19 := Inv.next v12 w (GS c23)
   refine qs 8 ?_
   refine Gb (GN HQ HQ HQ HQ HQ (fun b27 => GT ((Sub.toOwn (i := 0) (sz := 1) (enc := eInt) [x12] HQ (.val .nil) (fun _ => rfl) HQ (Nat.le_of_ble_eq_true HQ)).trans Hi) ?_))
   refine qs 2 ?_
   refine Gb (GB HQ HQ HQ ?_)
   refine Gl (Gk HQ HQ (plist_c w v19 (fun _ _ v => rc.typ v) (fun _ v => (hr.typ _ v).go) memA memA (h.go (plist_g w hr.typ v19).go (fun x31 s20 v20 l20 e20 h a20 k20 c20 p31 q31 r31 => ?_) (fun i e hx => Gm (Gh (Gh (Gj (by repeat (first | exact Ga _ _ | exact Gc (fun x hx => by repeat (first | exact hx | refine List.mem_cons_of_mem _ ?_)) | refine Ge Gf ?_)) (hx))))))))
   repeat (first | replace h := Kon.bind h | replace h := Kon.retE h | replace h := Kon.okE h)
   have ln31 := (plist_g w hr.typ v19).len e20
   refine GT ((He (i := 2) HQ).trans Gs) ?_
   refine Gb (AO.appendF (enc := eInt) (lst := [x12]) HQ HQ HQ (by repeat (first | exact has0 | apply hasS)) memA one_eInt (fun _ => rfl) (by unfold maxLen; first | omega | (simp <;> omega)) (by first | omega | (simp <;> omega)) (fun a32 k32 c32 => ?_))
   refine GT (He (v := .slice a32 k32 c32) (by repeat (first | exact has0 | apply hasS))) ?_
   refine Gl (Gk HQ HQ (GG w v20 memA memA memA (h.go (GC v20) (fun x33 s21 v21 l21 e21 h a21 k21 c21 => ?_) (fun i e hx => Gm (Gh (Gh (Gj (by repeat (first | exact Ga _ _ | exact Gc (fun x hx => by repeat (first | exact hx | refine List.mem_cons_of_mem _ ?_)) | refine Ge Gf ?_)) (hx))))))))
   repeat (first | replace h := Kon.bind h | replace h := Kon.retE h | replace h := Kon.okE h)
   refine qs 5 ?_
   exact Gw (Gg (L' := PL T b tv s21 a21 k21 c21 L) (F' := F) Tryz.results119 rfl (by repeat (first | exact Ga _ _ | exact Gc (fun x hx => by repeat (first | exact hx | refine List.mem_cons_of_mem _ ?_)) | refine Ge Gs ?_)) (h _ _ _))
  replace h := Kon.whenF c23 h
  repeat (first | replace h := Kon.bind h | replace h := Kon.retE h | replace h := Kon.okE h)
  refine qs 12 ?_
  exact Gw (Gg (L' := PL T b tv s12 a12 k12 c12 L) (F' := F) Tryz.results119 rfl (by repeat (first | exact Ga _ _ | exact Gc (fun x hx => by repeat (first | exact hx | refine List.mem_cons_of_mem _ ?_)) | refine Ge Gs ?_)) (h _ _ _))
theorem psig1_g (w : Wf (T.map Tok.tk)) (hr : RecG (T.map Tok.tk) d r) {s : PS} (v : Inv (T.map Tok.tk) d s) : G (T.map Tok.tk) d s 1 [] ((fun s => ((pof (T.map Tok.tk) 1).bind fun nm => (r.typ).bind fun t => pnode 19 nm s.i [t]) s : PM Int) s) (fun v => [v]) := by
  refine (G.bind (k2 := 0) (pof_g w v (by decide)) (fun nm s4 _ h4 l4 => ?_)).le HS
  refine (G.bind (k2 := 0) (hr.typ _ h4) (fun t s5 _ h5 l5 => ?_)).le HS
  exact pnode_g h5 (by decide) rfl
theorem psig1_c (w : Wf (T.map Tok.tk)) (rc : RecC W0 T b tv d r) (hr : RecG (T.map Tok.tk) d r) (v : Inv (T.map Tok.tk) d s) {bp i : Nat} (hb : L[i]? = some (Res.cells bp [pt b].toArray 33)) :
    PC W0 T b tv L 121 #[pt bp] s (fun s => ((pof (T.map Tok.tk) 1).bind fun nm => (r.typ).bind fun t => pnode 19 nm s.i [t]) s) vInt := by
  intro F R X a k c mT mN h
  replace h := Kon.bind h
  refine ACallsX.body Tryz.func121 HQ Tryz.ntmps121 HQ ?_
  refine qs 7 ?_
  refine Gb (GL HQ HQ ?_ (hi := by repeat (first | assumption | exact has0 | apply hasS)))
  refine Gb (Gi HQ HQ (GZ memA v ?_))
  refine Gb (Ha HQ HQ HQ ?_)
  refine qs 5 ?_
  refine Gb (GL HQ HQ ?_ (hi := by repeat (first | assumption | exact has0 | apply hasS)))
  refine Gl (Gk HQ HQ (pof_c w (by decide) v memA memA (h.go (pof_g w v (by decide)).go (fun x8 s11 v11 l11 e11 h a11 k11 c11 => ?_) (fun i e hx => Gm (Gh (Gj (by repeat (first | exact Ga _ _ | exact Gc (fun x hx => by repeat (first | exact hx | refine List.mem_cons_of_mem _ ?_)) | refine Ge Gf ?_)) (hx)))))))
  repeat (first | replace h := Kon.bind h | replace h := Kon.retE h | replace h := Kon.okE h)
  refine qs 4 ?_
  refine GO (fun _ => false) [(bp, _, _)] bxA HQ (fun hx hX => ?_)
  refine qt [0, 1, 2, 3] ?_
  refine GD (i := 4) HR HQ HQ (fun _ => ?_)
  refine (Gk HQ HQ (rc.typ v11 memA memA (h.go (hr.typ _ v11).go (fun x13 s12 v12 l12 e12 h a12 k12 c12 => ?_) (fun i e hx => HB (Hc (Hv (by repeat (first | exact Ga _ _ | exact Gc (fun x hx => by repeat (first | exact hx | refine List.mem_cons_of_mem _ ?_)) | refine Ge Gf ?_)) (hx)))))))
  repeat (first | replace h := Kon.bind h | replace h := Kon.retE h | replace h := Kon.okE h)
  refine Gy bxA memB ?_
  refine GD (i := 5) HR HQ HQ (fun _ => ?_)
  refine Gz HQ HQ HQ HQ HQ HQ (fun b14 => ?_)
  refine Gy bxA memB ?_
  refine GD (i := 6) HR HQ HQ (fun _ => ?_)
  refine (Gk HQ HQ (GG w v12 memA memA memA (h.go (GC v12) (fun x15 s13 v13 l13 e13 h a13 k13 c13 => ?_) (fun i e hx => HB (Hc (Hv (by repeat (first | exact Ga _ _ | exact Gc (fun x hx => by repeat (first | exact hx | refine List.mem_cons_of_mem _ ?_)) | refine Ge Gf ?_)) (hx)))))))
  repeat (first | replace h := Kon.bind h | replace h := Kon.retE h | replace h := Kon.okE h)
  refine Gy bxA memB ?_
  refine qt [7] ?_
  refine GF HR ?_
  refine qs 2 ?_
  exact Gw (Gg (L' := PL T b tv s13 a13 k13 c13 L) (F' := F) Tryz.results121 rfl (by repeat (first | exact Ga _ _ | exact Gc (fun x hx => by repeat (first | exact hx | refine List.mem_cons_of_mem _ ?_)) | refine Ge Gs ?_)) (h _ _ _))
theorem psignature_c (w : Wf (T.map Tok.tk)) (rc : RecC W0 T b tv d r) (hr : RecG (T.map Tok.tk) d r) (q : Nat) (v : Inv (T.map Tok.tk) d s) : PC W0 T b tv L 105 #[pt b, .int .i64 (posOf T q : Int)] s (psignature (T.map Tok.tk) r q) vInt := by
  intro F R X a k c mT mN h
  unfold psignature at h
  replace h := Kon.bind h
  refine ACallsX.body Tryz.func105 HQ Tryz.ntmps105 HQ ?_
  refine qs 2 ?_
  refine Gb (GH HQ HQ (fun b2 => GT Hi ?_))
  refine qs 6 ?_
  refine Gl (Gk HQ HQ (HE w v memA memA (h.go (HA w v).go (fun x8 s11 v11 l11 e11 h a11 k11 c11 => ?_) (fun i e hx => Gm (Gh (Gj (by repeat (first | exact Ga _ _ | exact Gc (fun x hx => by repeat (first | exact hx | refine List.mem_cons_of_mem _ ?_)) | refine Ge Gf ?_)) (hx)))))))
  repeat (first | replace h := Kon.bind h | replace h := Kon.retE h | replace h := Kon.okE h)
  refine qs 4 ?_
  refine GT ((Sub.ownNil (e := 3) (sz := 1)).trans Hi) ?_
  refine Gb (AO.assign HQ HQ ?_)
  refine qs 6 ?_
  refine Gb (Gi HQ HQ (Hp w memA v11 (fun c10 => ?_) (fun c10 => ?_)))
  ·replace h := Kon.whenT c10 h
   repeat (first | replace h := Kon.bind h | replace h := Kon.retE h | replace h := Kon.okE h)
   have v12 := Inv.next v11 w (GS c10)
   refine qs 10 ?_
   refine Gb (Gi HQ HQ (GZ memA v12 ?_))
   refine Gb (Hh HQ (fun b6 => GT Hi ?_))
   refine qs 7 ?_
   refine Gb (GA HQ HQ HQ (fun c19 => ?_) (fun c19 => ?_))
   ·first | replace h := Kon.iteT c19 h | replace h := Kon.iteF c19 h | skip
    repeat (first | replace h := Kon.bind h | replace h := Kon.retE h | replace h := Kon.okE h)
    refine qs 9 ?_
    replace h := Kon.bind (Kon.iteT (Or.inl c19) h)
    refine GO (fun _ => false) [(b2, _, _)] bxA HQ (fun hx hX => ?_)
    refine qt [0, 1, 2, 3] ?_
    refine GD (i := 4) HR HQ HQ (fun _ => ?_)
    refine (Gk HQ HQ (rc.typ v12 memA memA (h.go (hr.typ _ v12).go (fun x29 s13 v13 l13 e13 h a13 k13 c13 => ?_) (fun i e hx => HB (Hc (Hc (Hv (by repeat (first | exact Ga _ _ | exact Gc (fun x hx => by repeat (first | exact hx | refine List.mem_cons_of_mem _ ?_)) | refine Ge Gf ?_)) (hx))))))))
    repeat (first | replace h := Kon.bind h | replace h := Kon.retE h | replace h := Kon.okE h)
    refine Gy bxA memB ?_
    refine GD (i := 5) HR HQ HQ (fun _ => ?_)
    refine GN HQ HQ HQ HQ HQ (fun b30 => ?_)
    refine Gy bxA memB ?_
    refine GD (i := 6) HR HQ HQ (fun _ => ?_)
    refine Ho (enc := eInt) (lst := []) [x29] HQ HQ HQ (by repeat (first | exact has0 | apply hasS)) (.val .nil) HQ HQ (fun _ => rfl) (by unfold maxLen; first | omega | (simp <;> omega)) (by first | omega | (simp <;> omega)) (fun a31 k31 c31 => ?_)
    refine GT (He (v := .slice a31 k31 c31) (by repeat (first | exact has0 | apply hasS))) ?_
    refine Gy bxA memB ?_
    refine GD (i := 7) HR HQ HQ (fun _ => ?_)
    refine (Gk HQ HQ (GG w v13 memA memA memA (h.go (GC v13) (fun x32 s14 v14 l14 e14 h a14 k14 c14 => ?_) (fun i e hx => HB (Hc (Hc (Hv (by repeat (first | exact Ga _ _ | exact Gc (fun x hx => by repeat (first | exact hx | refine List.mem_cons_of_mem _ ?_)) | refine Ge Gf ?_)) (hx))))))))
    repeat (first | replace h := Kon.bind h | replace h := Kon.retE h | replace h := Kon.okE h)
    refine Gy bxA memB ?_
    refine qt [8] ?_
    refine GF HR ?_
    refine qs 3 ?_
    exact Gw (Gg (L' := PL T b tv s14 a14 k14 c14 L) (F' := F) Tryz.results105 rfl (by repeat (first | exact Ga _ _ | exact Gc (fun x hx => by repeat (first | exact hx | refine List.mem_cons_of_mem _ ?_)) | refine Ge Gs ?_)) (h _ _ _))
   first | replace h := Kon.iteT c19 h | replace h := Kon.iteF c19 h | skip
   repeat (first | replace h := Kon.bind h | replace h := Kon.retE h | replace h := Kon.okE h)
   refine qs 2 ?_
   refine Gr HQ HQ (Gz HQ HQ HQ HQ HQ HQ (fun b22 => ?_))
   refine Gr HQ HQ (Gi HQ HQ (pis_c (l := [[42], [91], [40], [109, 97, 112], [102, 117, 110, 99], [115, 116, 114, 117, 99, 116], [105, 110, 116, 101, 114, 102, 97, 99, 101]]) memA (by simp) (fun c23 => ?_) (fun c23 => ?_)))
   ·first | replace h := Kon.pifT c23 h | replace h := Kon.iteT c23 h | replace h := Kon.whenT c23 h | skip
    repeat (first | replace h := Kon.bind h | replace h := Kon.retE h | replace h := Kon.okE h)
    refine qs 5 ?_
    replace h := Kon.bind (Kon.iteT (Or.inr c23) h)
    refine GO (fun _ => false) [(b2, _, _)] bxA HQ (fun hx hX => ?_)
    refine qt [0, 1, 2, 3] ?_
    refine GD (i := 4) HR HQ HQ (fun _ => ?_)
    refine (Gk HQ HQ (rc.typ v12 memA memA (h.go (hr.typ _ v12).go (fun x29 s15 v15 l15 e15 h a15 k15 c15 => ?_) (fun i e hx => HB (Hc (Hc (Hv (by repeat (first | exact Ga _ _ | exact Gc (fun x hx => by repeat (first | exact hx | refine List.mem_cons_of_mem _ ?_)) | refine Ge Gf ?_)) (hx))))))))
    repeat (first | replace h := Kon.bind h | replace h := Kon.retE h | replace h := Kon.okE h)
    refine Gy bxA memB ?_
    refine GD (i := 5) HR HQ HQ (fun _ => ?_)
    refine GN HQ HQ HQ HQ HQ (fun b30 => ?_)
    refine Gy bxA memB ?_
    refine GD (i := 6) HR HQ HQ (fun _ => ?_)
    refine Ho (enc := eInt) (lst := []) [x29] HQ HQ HQ (by repeat (first | exact has0 | apply hasS)) (.val .nil) HQ HQ (fun _ => rfl) (by unfold maxLen; first | omega | (simp <;> omega)) (by first | omega | (simp <;> omega)) (fun a31 k31 c31 => ?_)
    refine GT (He (v := .slice a31 k31 c31) (by repeat (first | exact has0 | apply hasS))) ?_
    refine Gy bxA memB ?_
    refine GD (i := 7) HR HQ HQ (fun _ => ?_)
    refine (Gk HQ HQ (GG w v15 memA memA memA (h.go (GC v15) (fun x32 s16 v16 l16 e16 h a16 k16 c16 => ?_) (fun i e hx => HB (Hc (Hc (Hv (by repeat (first | exact Ga _ _ | exact Gc (fun x hx => by repeat (first | exact hx | refine List.mem_cons_of_mem _ ?_)) | refine Ge Gf ?_)) (hx))))))))
    repeat (first | replace h := Kon.bind h | replace h := Kon.retE h | replace h := Kon.okE h)
    refine Gy bxA memB ?_
    refine qt [8] ?_
    refine GF HR ?_
    refine qs 3 ?_
    exact Gw (Gg (L' := PL T b tv s16 a16 k16 c16 L) (F' := F) Tryz.results105 rfl (by repeat (first | exact Ga _ _ | exact Gc (fun x hx => by repeat (first | exact hx | refine List.mem_cons_of_mem _ ?_)) | refine Ge Gs ?_)) (h _ _ _))
   first | replace h := Kon.pifF c23 h | replace h := Kon.iteF (nott c23) h | replace h := Kon.whenF c23 h | skip
   repeat (first | replace h := Kon.bind h | replace h := Kon.retE h | replace h := Kon.okE h)
   refine qs 7 ?_
   replace h := Kon.bind (Kon.iteF (no2 c19 c23) h)
   refine GO (fun _ => false) [(b2, _, _)] bxA HQ (fun hx hX => ?_)
   refine qt [0, 1, 2, 3] ?_
   refine GD (i := 4) HR HQ HQ (fun _ => ?_)
   refine (Gk HQ HQ (pnone_c w v12 memA memA (h.go (pnone_g v12).go (fun x37 s17 v17 l17 e17 h a17 k17 c17 => ?_) (fun i e hx => HB (Hc (Hv (by repeat (first | exact Ga _ _ | exact Gc (fun x hx => by repeat (first | exact hx | refine List.mem_cons_of_mem _ ?_)) | refine Ge Gf ?_)) (hx)))))))
   repeat (first | replace h := Kon.bind h | replace h := Kon.retE h | replace h := Kon.okE h)
   refine Gy bxA memB ?_
   refine GD (i := 5) HR HQ HQ (fun _ => ?_)
   refine GN HQ HQ HQ HQ HQ (fun b38 => ?_)
   refine Gy bxA memB ?_
   refine GD (i := 6) HR HQ HQ (fun _ => ?_)
   refine Ho (enc := eInt) (lst := []) [x37] HQ HQ HQ (by repeat (first | exact has0 | apply hasS)) (.val .nil) HQ HQ (fun _ => rfl) (by unfold maxLen; first | omega | (simp <;> omega)) (by first | omega | (simp <;> omega)) (fun a39 k39 c39 => ?_)
   refine GT (He (v := .slice a39 k39 c39) (by repeat (first | exact has0 | apply hasS))) ?_
   refine Gy bxA memB ?_
   refine GD (i := 7) HR HQ HQ (fun _ => ?_)
   refine (Gk HQ HQ (GG w v17 memA memA memA (h.go (GC v17) (fun x40 s18 v18 l18 e18 h a18 k18 c18 => ?_) (fun i e hx => HB (Hc (Hv (by repeat (first | exact Ga _ _ | exact Gc (fun x hx => by repeat (first | exact hx | refine List.mem_cons_of_mem _ ?_)) | refine Ge Gf ?_)) (hx)))))))
   repeat (first | replace h := Kon.bind h | replace h := Kon.retE h | replace h := Kon.okE h)
   refine Gy bxA memB ?_
   refine qt [8] ?_
   refine GF HR ?_
   refine qs 2 ?_
   exact Gw (Gg (L' := PL T b tv s18 a18 k18 c18 L) (F' := F) Tryz.results105 rfl (by repeat (first | exact Ga _ _ | exact Gc (fun x hx => by repeat (first | exact hx | refine List.mem_cons_of_mem _ ?_)) | refine Ge Gs ?_)) (h _ _ _))
  replace h := Kon.whenF c10 h
  repeat (first | replace h := Kon.bind h | replace h := Kon.retE h | replace h := Kon.okE h)
  refine qs 6 ?_
  refine Gb (Hz HQ HQ ?_)
  refine Gl (Gk HQ HQ (plist_c w v11 (fi := []) (fun _ _ v => psig1_c w rc hr v (i := 2) HQ) (fun _ v => (psig1_g w hr v).go) memA memA (h.go (plist_g w (fun _ v => psig1_g w hr v) v11).go (fun x14 s19 v19 l19 e19 h a19 k19 c19 p14 q14 r14 => ?_) (fun i e hx => Gm (Gh (Gj (by repeat (first | exact Ga _ _ | exact Gc (fun x hx => by repeat (first | exact hx | refine List.mem_cons_of_mem _ ?_)) | refine Ge Gf ?_)) (hx)))))))
  repeat (first | replace h := Kon.bind h | replace h := Kon.retE h | replace h := Kon.okE h)
  have ln14 := (plist_g w (fun _ v => psig1_g w hr v) v11).len e19
  refine qs 7 ?_
  refine Gb (Gi HQ HQ (GZ memA v19 ?_))
  refine Gb (Hh HQ (fun b6 => GT Hi ?_))
  refine qs 7 ?_
  refine Gb (GA HQ HQ HQ (fun c19 => ?_) (fun c19 => ?_))
  ·first | replace h := Kon.iteT c19 h | replace h := Kon.iteF c19 h | skip
   repeat (first | replace h := Kon.bind h | replace h := Kon.retE h | replace h := Kon.okE h)
   refine qs 9 ?_
   replace h := Kon.bind (Kon.iteT (Or.inl c19) h)
   refine GO (fun _ => false) [(b2, _, _)] bxA HQ (fun hx hX => ?_)
   refine qt [0, 1, 2, 3] ?_
   refine GD (i := 4) HR HQ HQ (fun _ => ?_)
   refine (Gk HQ HQ (rc.typ v19 memA memA (h.go (hr.typ _ v19).go (fun x29 s20 v20 l20 e20 h a20 k20 c20 => ?_) (fun i e hx => HB (Hc (Hc (Hv (by repeat (first | exact Ga _ _ | exact Gc (fun x hx => by repeat (first | exact hx | refine List.mem_cons_of_mem _ ?_)) | refine Ge Gf ?_)) (hx))))))))
   repeat (first | replace h := Kon.bind h | replace h := Kon.retE h | replace h := Kon.okE h)
   refine Gy bxA memB ?_
   refine GD (i := 5) HR HQ HQ (fun _ => ?_)
   refine GN HQ HQ HQ HQ HQ (fun b30 => ?_)
   refine Gy bxA memB ?_
   refine GD (i := 6) HR HQ HQ (fun _ => ?_)
   refine Ho (enc := eInt) (lst := x14) [x29] HQ HQ HQ (by repeat (first | exact has0 | apply hasS)) (.val .nil) HQ HQ (fun _ => rfl) (by unfold maxLen; first | omega | (simp <;> omega)) (by first | omega | (simp <;> omega)) (fun a31 k31 c31 => ?_)
   refine GT (He (v := .slice a31 k31 c31) (by repeat (first | exact has0 | apply hasS))) ?_
   refine Gy bxA memB ?_
   refine GD (i := 7) HR HQ HQ (fun _ => ?_)
   refine (Gk HQ HQ (GG w v20 memA memA memA (h.go (GC v20) (fun x32 s21 v21 l21 e21 h a21 k21 c21 => ?_) (fun i e hx => HB (Hc (Hc (Hv (by repeat (first | exact Ga _ _ | exact Gc (fun x hx => by repeat (first | exact hx | refine List.mem_cons_of_mem _ ?_)) | refine Ge Gf ?_)) (hx))))))))
   repeat (first | replace h := Kon.bind h | replace h := Kon.retE h | replace h := Kon.okE h)
   refine Gy bxA memB ?_
   refine qt [8] ?_
   refine GF HR ?_
   refine qs 3 ?_
   exact Gw (Gg (L' := PL T b tv s21 a21 k21 c21 L) (F' := F) Tryz.results105 rfl (by repeat (first | exact Ga _ _ | exact Gc (fun x hx => by repeat (first | exact hx | refine List.mem_cons_of_mem _ ?_)) | refine Ge Gs ?_)) (h _ _ _))
  first | replace h := Kon.iteT c19 h | replace h := Kon.iteF c19 h | skip
  repeat (first | replace h := Kon.bind h | replace h := Kon.retE h | replace h := Kon.okE h)
  refine qs 2 ?_
  refine Gr HQ HQ (Gz HQ HQ HQ HQ HQ HQ (fun b22 => ?_))
  refine Gr HQ HQ (Gi HQ HQ (pis_c (l := [[42], [91], [40], [109, 97, 112], [102, 117, 110, 99], [115, 116, 114, 117, 99, 116], [105, 110, 116, 101, 114, 102, 97, 99, 101]]) memA (by simp) (fun c23 => ?_) (fun c23 => ?_)))
  ·first | replace h := Kon.pifT c23 h | replace h := Kon.iteT c23 h | replace h := Kon.whenT c23 h | skip
   repeat (first | replace h := Kon.bind h | replace h := Kon.retE h | replace h := Kon.okE h)
   refine qs 5 ?_
   replace h := Kon.bind (Kon.iteT (Or.inr c23) h)
   refine GO (fun _ => false) [(b2, _, _)] bxA HQ (fun hx hX => ?_)
   refine qt [0, 1, 2, 3] ?_
   refine GD (i := 4) HR HQ HQ (fun _ => ?_)
   refine (Gk HQ HQ (rc.typ v19 memA memA (h.go (hr.typ _ v19).go (fun x29 s22 v22 l22 e22 h a22 k22 c22 => ?_) (fun i e hx => HB (Hc (Hc (Hv (by repeat (first | exact Ga _ _ | exact Gc (fun x hx => by repeat (first | exact hx | refine List.mem_cons_of_mem _ ?_)) | refine Ge Gf ?_)) (hx))))))))
   repeat (first | replace h := Kon.bind h | replace h := Kon.retE h | replace h := Kon.okE h)
   refine Gy bxA memB ?_
   refine GD (i := 5) HR HQ HQ (fun _ => ?_)
   refine GN HQ HQ HQ HQ HQ (fun b30 => ?_)
   refine Gy bxA memB ?_
   refine GD (i := 6) HR HQ HQ (fun _ => ?_)
   refine Ho (enc := eInt) (lst := x14) [x29] HQ HQ HQ (by repeat (first | exact has0 | apply hasS)) (.val .nil) HQ HQ (fun _ => rfl) (by unfold maxLen; first | omega | (simp <;> omega)) (by first | omega | (simp <;> omega)) (fun a31 k31 c31 => ?_)
   refine GT (He (v := .slice a31 k31 c31) (by repeat (first | exact has0 | apply hasS))) ?_
   refine Gy bxA memB ?_
   refine GD (i := 7) HR HQ HQ (fun _ => ?_)
   refine (Gk HQ HQ (GG w v22 memA memA memA (h.go (GC v22) (fun x32 s23 v23 l23 e23 h a23 k23 c23 => ?_) (fun i e hx => HB (Hc (Hc (Hv (by repeat (first | exact Ga _ _ | exact Gc (fun x hx => by repeat (first | exact hx | refine List.mem_cons_of_mem _ ?_)) | refine Ge Gf ?_)) (hx))))))))
   repeat (first | replace h := Kon.bind h | replace h := Kon.retE h | replace h := Kon.okE h)
   refine Gy bxA memB ?_
   refine qt [8] ?_
   refine GF HR ?_
   refine qs 3 ?_
   exact Gw (Gg (L' := PL T b tv s23 a23 k23 c23 L) (F' := F) Tryz.results105 rfl (by repeat (first | exact Ga _ _ | exact Gc (fun x hx => by repeat (first | exact hx | refine List.mem_cons_of_mem _ ?_)) | refine Ge Gs ?_)) (h _ _ _))
  first | replace h := Kon.pifF c23 h | replace h := Kon.iteF (nott c23) h | replace h := Kon.whenF c23 h | skip
  repeat (first | replace h := Kon.bind h | replace h := Kon.retE h | replace h := Kon.okE h)
  refine qs 7 ?_
  replace h := Kon.bind (Kon.iteF (no2 c19 c23) h)
  refine GO (fun _ => false) [(b2, _, _)] bxA HQ (fun hx hX => ?_)
  refine qt [0, 1, 2, 3] ?_
  refine GD (i := 4) HR HQ HQ (fun _ => ?_)
  refine (Gk HQ HQ (pnone_c w v19 memA memA (h.go (pnone_g v19).go (fun x37 s24 v24 l24 e24 h a24 k24 c24 => ?_) (fun i e hx => HB (Hc (Hv (by repeat (first | exact Ga _ _ | exact Gc (fun x hx => by repeat (first | exact hx | refine List.mem_cons_of_mem _ ?_)) | refine Ge Gf ?_)) (hx)))))))
  repeat (first | replace h := Kon.bind h | replace h := Kon.retE h | replace h := Kon.okE h)
  refine Gy bxA memB ?_
  refine GD (i := 5) HR HQ HQ (fun _ => ?_)
  refine GN HQ HQ HQ HQ HQ (fun b38 => ?_)
  refine Gy bxA memB ?_
  refine GD (i := 6) HR HQ HQ (fun _ => ?_)
  refine Ho (enc := eInt) (lst := x14) [x37] HQ HQ HQ (by repeat (first | exact has0 | apply hasS)) (.val .nil) HQ HQ (fun _ => rfl) (by unfold maxLen; first | omega | (simp <;> omega)) (by first | omega | (simp <;> omega)) (fun a39 k39 c39 => ?_)
  refine GT (He (v := .slice a39 k39 c39) (by repeat (first | exact has0 | apply hasS))) ?_
  refine Gy bxA memB ?_
  refine GD (i := 7) HR HQ HQ (fun _ => ?_)
  refine (Gk HQ HQ (GG w v24 memA memA memA (h.go (GC v24) (fun x40 s25 v25 l25 e25 h a25 k25 c25 => ?_) (fun i e hx => HB (Hc (Hv (by repeat (first | exact Ga _ _ | exact Gc (fun x hx => by repeat (first | exact hx | refine List.mem_cons_of_mem _ ?_)) | refine Ge Gf ?_)) (hx)))))))
  repeat (first | replace h := Kon.bind h | replace h := Kon.retE h | replace h := Kon.okE h)
  refine Gy bxA memB ?_
  refine qt [8] ?_
  refine GF HR ?_
  refine qs 2 ?_
  exact Gw (Gg (L' := PL T b tv s25 a25 k25 c25 L) (F' := F) Tryz.results105 rfl (by repeat (first | exact Ga _ _ | exact Gc (fun x hx => by repeat (first | exact hx | refine List.mem_cons_of_mem _ ?_)) | refine Ge Gs ?_)) (h _ _ _))
theorem pfield_c (w : Wf (T.map Tok.tk)) (rc : RecC W0 T b tv d r) (hr : RecG (T.map Tok.tk) d r) (v : Inv (T.map Tok.tk) d s) : PC W0 T b tv L 128 #[pt b] s (pfield (T.map Tok.tk) r) vInt := by
  intro F R X a k c mT mN h
  unfold pfield at h
  refine ACallsX.body Tryz.func128 HQ Tryz.ntmps128 HQ ?_
  refine qs 8 ?_
  refine Gb (Gi HQ HQ (GZ memA v ?_))
  refine Gb (Ha HQ HQ HQ ?_)
  refine qs 7 ?_
  refine Gb (Gi HQ HQ (GZ memA v ?_))
  refine Gb (Gz HQ HQ HQ HQ HQ HQ (fun b11 => ?_))
  refine Gb (Gi HQ HQ (pis_c (l := [[42]]) memA (by simp) (fun c12 => ?_) (fun c12 => ?_)))
  ·first | replace h := Kon.pifT c12 h | replace h := Kon.iteT c12 h | replace h := Kon.whenT c12 h | skip
   repeat (first | replace h := Kon.bind h | replace h := Kon.retE h | replace h := Kon.okE h)
   refine qs 8 ?_
   refine Gl (Gk HQ HQ (rc.typ v memA memA (h.go (hr.typ _ v).go (fun x16 s11 v11 l11 e11 h a11 k11 c11 => ?_) (fun i e hx => Gm (Gh (Gh (Gj (by repeat (first | exact Ga _ _ | exact Gc (fun x hx => by repeat (first | exact hx | refine List.mem_cons_of_mem _ ?_)) | refine Ge Gf ?_)) (hx))))))))
   repeat (first | replace h := Kon.bind h | replace h := Kon.retE h | replace h := Kon.okE h)
   refine Gb (Gz HQ HQ HQ HQ HQ HQ (fun b17 => ?_))
   refine Gl (Gk HQ HQ (GG w v11 memA memA memA (h.go (GC v11) (fun x18 s12 v12 l12 e12 h a12 k12 c12 => ?_) (fun i e hx => Gm (Gh (Gh (Gj (by repeat (first | exact Ga _ _ | exact Gc (fun x hx => by repeat (first | exact hx | refine List.mem_cons_of_mem _ ?_)) | refine Ge Gf ?_)) (hx))))))))
   repeat (first | replace h := Kon.bind h | replace h := Kon.retE h | replace h := Kon.okE h)
   refine qs 5 ?_
   exact Gw (Gg (L' := PL T b tv s12 a12 k12 c12 L) (F' := F) Tryz.results128 rfl (by repeat (first | exact Ga _ _ | exact Gc (fun x hx => by repeat (first | exact hx | refine List.mem_cons_of_mem _ ?_)) | refine Ge Gs ?_)) (h _ _ _))
  first | replace h := Kon.pifF c12 h | replace h := Kon.iteF (nott c12) h | replace h := Kon.whenF c12 h | skip
  repeat (first | replace h := Kon.bind h | replace h := Kon.retE h | replace h := Kon.okE h)
  refine qs 9 ?_
  refine Gb (Gi HQ HQ (pbehind_c w memA v 1 (by decide) ?_))
  refine Gb (Hh HQ (fun b4 => GT Hi ?_))
  refine qs 6 ?_
  refine Gb (Gi HQ HQ (GZ memA v ?_))
  refine Gb (Ha HQ HQ HQ (Gb (GA HQ HQ HQ (fun c24 => ?_) (fun c24 => ?_))))
  ·first | replace h := Kon.iteT c24 h | replace h := Kon.iteF c24 h | skip
   repeat (first | replace h := Kon.bind h | replace h := Kon.retE h | replace h := Kon.okE h)
   refine qs 2 ?_
   refine Gr HQ HQ (Gi HQ HQ (psemiB_c (fun c27 => ?_) (fun c27 => ?_)))
   ·first | replace h := Kon.iteT c27 h | skip
    repeat (first | replace h := Kon.bind h | replace h := Kon.retE h | replace h := Kon.okE h)
    refine qs 10 ?_
    replace h := Kon.bind (Kon.iteT ⟨c24, Or.inl c27⟩ h)
    refine qs 4 ?_
    refine Gl (Gk HQ HQ (pnamed_c w rc hr v memA memA (h.go (pnamed_g w hr v).go (fun x37 s13 v13 l13 e13 h a13 k13 c13 => ?_) (fun i e hx => Gm (Gh (Gh (Gj (by repeat (first | exact Ga _ _ | exact Gc (fun x hx => by repeat (first | exact hx | refine List.mem_cons_of_mem _ ?_)) | refine Ge Gf ?_)) (hx))))))))
    repeat (first | replace h := Kon.bind h | replace h := Kon.retE h | replace h := Kon.okE h)
    refine Gb (Gz HQ HQ HQ HQ HQ HQ (fun b38 => ?_))
    refine Gl (Gk HQ HQ (GG w v13 memA memA memA (h.go (GC v13) (fun x39 s14 v14 l14 e14 h a14 k14 c14 => ?_) (fun i e hx => Gm (Gh (Gh (Gj (by repeat (first | exact Ga _ _ | exact Gc (fun x hx => by repeat (first | exact hx | refine List.mem_cons_of_mem _ ?_)) | refine Ge Gf ?_)) (hx))))))))
    repeat (first | replace h := Kon.bind h | replace h := Kon.retE h | replace h := Kon.okE h)
    refine qs 5 ?_
    exact Gw (Gg (L' := PL T b tv s14 a14 k14 c14 L) (F' := F) Tryz.results128 rfl (by repeat (first | exact Ga _ _ | exact Gc (fun x hx => by repeat (first | exact hx | refine List.mem_cons_of_mem _ ?_)) | refine Ge Gs ?_)) (h _ _ _))
   first | replace h := Kon.iteF (nott c27) h | skip
   repeat (first | replace h := Kon.bind h | replace h := Kon.retE h | replace h := Kon.okE h)
   refine qs 2 ?_
   refine Gr HQ HQ (Gz HQ HQ HQ HQ HQ HQ (fun b30 => ?_))
   refine Gr HQ HQ (Gi HQ HQ (pis_c (l := [[125], [46]]) memA (by simp) (fun c31 => ?_) (fun c31 => ?_)))
   ·first | replace h := Kon.pifT c31 h | replace h := Kon.iteT c31 h | replace h := Kon.whenT c31 h | skip
    repeat (first | replace h := Kon.bind h | replace h := Kon.retE h | replace h := Kon.okE h)
    refine qs 6 ?_
    replace h := Kon.bind (Kon.iteT ⟨c24, Or.inr c31⟩ h)
    refine qs 4 ?_
    refine Gl (Gk HQ HQ (pnamed_c w rc hr v memA memA (h.go (pnamed_g w hr v).go (fun x37 s15 v15 l15 e15 h a15 k15 c15 => ?_) (fun i e hx => Gm (Gh (Gh (Gj (by repeat (first | exact Ga _ _ | exact Gc (fun x hx => by repeat (first | exact hx | refine List.mem_cons_of_mem _ ?_)) | refine Ge Gf ?_)) (hx))))))))
    repeat (first | replace h := Kon.bind h | replace h := Kon.retE h | replace h := Kon.okE h)
    refine Gb (Gz HQ HQ HQ HQ HQ HQ (fun b38 => ?_))
    refine Gl (Gk HQ HQ (GG w v15 memA memA memA (h.go (GC v15) (fun x39 s16 v16 l16 e16 h a16 k16 c16 => ?_) (fun i e hx => Gm (Gh (Gh (Gj (by repeat (first | exact Ga _ _ | exact Gc (fun x hx => by repeat (first | exact hx | refine List.mem_cons_of_mem _ ?_)) | refine Ge Gf ?_)) (hx))))))))
    repeat (first | replace h := Kon.bind h | replace h := Kon.retE h | replace h := Kon.okE h)
    refine qs 5 ?_
    exact Gw (Gg (L' := PL T b tv s16 a16 k16 c16 L) (F' := F) Tryz.results128 rfl (by repeat (first | exact Ga _ _ | exact Gc (fun x hx => by repeat (first | exact hx | refine List.mem_cons_of_mem _ ?_)) | refine Ge Gs ?_)) (h _ _ _))
   first | replace h := Kon.pifF c31 h | replace h := Kon.iteF (nott c31) h | replace h := Kon.whenF c31 h | skip
   repeat (first | replace h := Kon.bind h | replace h := Kon.retE h | replace h := Kon.okE h)
   refine qs 8 ?_
   replace h := Kon.bind (Kon.iteF (fun q => no2 (nott c27) c31 q.2) h)
   refine qs 2 ?_
   refine Gl (Gk HQ HQ (pof_c w (by decide) v memA memA (h.go (pof_g w v (by decide)).go (fun x41 s17 v17 l17 e17 h a17 k17 c17 => ?_) (fun i e hx => Gm (Gh (Gj (by repeat (first | exact Ga _ _ | exact Gc (fun x hx => by repeat (first | exact hx | refine List.mem_cons_of_mem _ ?_)) | refine Ge Gf ?_)) (hx)))))))
   repeat (first | replace h := Kon.bind h | replace h := Kon.retE h | replace h := Kon.okE h)
   refine qs 9 ?_
   refine Gl (Gk HQ HQ (rc.typ v17 memA memA (h.go (hr.typ _ v17).go (fun x46 s18 v18 l18 e18 h a18 k18 c18 => ?_) (fun i e hx => Gm (Gh (Gj (by repeat (first | exact Ga _ _ | exact Gc (fun x hx => by repeat (first | exact hx | refine List.mem_cons_of_mem _ ?_)) | refine Ge Gf ?_)) (hx)))))))
   repeat (first | replace h := Kon.bind h | replace h := Kon.retE h | replace h := Kon.okE h)
   refine Gb (Gz HQ HQ HQ HQ HQ HQ (fun b47 => ?_))
   refine Gl (Gk HQ HQ (GG w v18 memA memA memA (h.go (GC v18) (fun x48 s19 v19 l19 e19 h a19 k19 c19 => ?_) (fun i e hx => Gm (Gh (Gj (by repeat (first | exact Ga _ _ | exact Gc (fun x hx => by repeat (first | exact hx | refine List.mem_cons_of_mem _ ?_)) | refine Ge Gf ?_)) (hx)))))))
   repeat (first | replace h := Kon.bind h | replace h := Kon.retE h | replace h := Kon.okE h)
   refine qs 4 ?_
   exact Gw (Gg (L' := PL T b tv s19 a19 k19 c19 L) (F' := F) Tryz.results128 rfl (by repeat (first | exact Ga _ _ | exact Gc (fun x hx => by repeat (first | exact hx | refine List.mem_cons_of_mem _ ?_)) | refine Ge Gs ?_)) (h _ _ _))
  first | replace h := Kon.iteT c24 h | replace h := Kon.iteF c24 h | skip
  repeat (first | replace h := Kon.bind h | replace h := Kon.retE h | replace h := Kon.okE h)
  refine qs 15 ?_
  replace h := Kon.bind (Kon.iteF (fun q => c24 q.1) h)
  refine qs 2 ?_
  refine Gl (Gk HQ HQ (pof_c w (by decide) v memA memA (h.go (pof_g w v (by decide)).go (fun x41 s20 v20 l20 e20 h a20 k20 c20 => ?_) (fun i e hx => Gm (Gh (Gj (by repeat (first | exact Ga _ _ | exact Gc (fun x hx => by repeat (first | exact hx | refine List.mem_cons_of_mem _ ?_)) | refine Ge Gf ?_)) (hx)))))))
  repeat (first | replace h := Kon.bind h | replace h := Kon.retE h | replace h := Kon.okE h)
  refine qs 9 ?_
  refine Gl (Gk HQ HQ (rc.typ v20 memA memA (h.go (hr.typ _ v20).go (fun x46 s21 v21 l21 e21 h a21 k21 c21 => ?_) (fun i e hx => Gm (Gh (Gj (by repeat (first | exact Ga _ _ | exact Gc (fun x hx => by repeat (first | exact hx | refine List.mem_cons_of_mem _ ?_)) | refine Ge Gf ?_)) (hx)))))))
  repeat (first | replace h := Kon.bind h | replace h := Kon.retE h | replace h := Kon.okE h)
  refine Gb (Gz HQ HQ HQ HQ HQ HQ (fun b47 => ?_))
  refine Gl (Gk HQ HQ (GG w v21 memA memA memA (h.go (GC v21) (fun x48 s22 v22 l22 e22 h a22 k22 c22 => ?_) (fun i e hx => Gm (Gh (Gj (by repeat (first | exact Ga _ _ | exact Gc (fun x hx => by repeat (first | exact hx | refine List.mem_cons_of_mem _ ?_)) | refine Ge Gf ?_)) (hx)))))))
  repeat (first | replace h := Kon.bind h | replace h := Kon.retE h | replace h := Kon.okE h)
  refine qs 4 ?_
  exact Gw (Gg (L' := PL T b tv s22 a22 k22 c22 L) (F' := F) Tryz.results128 rfl (by repeat (first | exact Ga _ _ | exact Gc (fun x hx => by repeat (first | exact hx | refine List.mem_cons_of_mem _ ?_)) | refine Ge Gs ?_)) (h _ _ _))
theorem pelem_c (w : Wf (T.map Tok.tk)) (rc : RecC W0 T b tv d r) (hr : RecG (T.map Tok.tk) d r) (v : Inv (T.map Tok.tk) d s) : PC W0 T b tv L 129 #[pt b] s (pelem (T.map Tok.tk) r) vInt := by
  intro F R X a k c mT mN h
  unfold pelem at h
  refine ACallsX.body Tryz.func129 HQ Tryz.ntmps129 HQ ?_
  refine qs 8 ?_
  refine Gb (Gi HQ HQ (GZ memA v ?_))
  refine Gb (Ha HQ HQ HQ ?_)
  refine qs 7 ?_
  refine Gb (Gi HQ HQ (GZ memA v ?_))
  refine Gb (Ha HQ HQ HQ (Gb (GA HQ HQ HQ (fun c11 => ?_) (fun c11 => ?_))))
  ·first | replace h := Kon.iteT c11 h | replace h := Kon.iteF c11 h | skip
   repeat (first | replace h := Kon.bind h | replace h := Kon.retE h | replace h := Kon.okE h)
   refine qs 2 ?_
   refine Gr HQ HQ (Gi HQ HQ (pbehind_c w memA v 1 (by decide) ?_))
   refine Gr HQ HQ (Gz HQ HQ HQ HQ HQ HQ (fun b15 => ?_))
   refine Gr HQ HQ (Gi HQ HQ (pis_c (l := [[40]]) memA (by simp) (fun c16 => ?_) (fun c16 => ?_)))
   ·first | replace h := Kon.pifT c16 h | replace h := Kon.iteT c16 h | replace h := Kon.whenT c16 h | skip
    repeat (first | replace h := Kon.bind h | replace h := Kon.retE h | replace h := Kon.okE h)
    refine qs 5 ?_
    replace h := Kon.bind (Kon.iteT ⟨c11, c16⟩ h)
    refine qs 2 ?_
    refine Gl (Gk HQ HQ (pof_c w (by decide) v memA memA (h.go (pof_g w v (by decide)).go (fun x19 s11 v11 l11 e11 h a11 k11 c11 => ?_) (fun i e hx => Gm (Gh (Gh (Gj (by repeat (first | exact Ga _ _ | exact Gc (fun x hx => by repeat (first | exact hx | refine List.mem_cons_of_mem _ ?_)) | refine Ge Gf ?_)) (hx))))))))
    repeat (first | replace h := Kon.bind h | replace h := Kon.retE h | replace h := Kon.okE h)
    refine qs 10 ?_
    refine Gb (Gi HQ HQ (GZ memA v11 ?_))
    refine Gb (Ha HQ HQ HQ ?_)
    refine Gl (Gk HQ HQ (psignature_c w rc hr _ v11 memA memA (h.go (psignature_g w hr v11 _).go (fun x27 s12 v12 l12 e12 h a12 k12 c12 => ?_) (fun i e hx => Gm (Gh (Gh (Gj (by repeat (first | exact Ga _ _ | exact Gc (fun x hx => by repeat (first | exact hx | refine List.mem_cons_of_mem _ ?_)) | refine Ge Gf ?_)) (hx))))))))
    repeat (first | replace h := Kon.bind h | replace h := Kon.retE h | replace h := Kon.okE h)
    refine Gb (Gz HQ HQ HQ HQ HQ HQ (fun b28 => ?_))
    refine Gl (Gk HQ HQ (GG w v12 memA memA memA (h.go (GC v12) (fun x29 s13 v13 l13 e13 h a13 k13 c13 => ?_) (fun i e hx => Gm (Gh (Gh (Gj (by repeat (first | exact Ga _ _ | exact Gc (fun x hx => by repeat (first | exact hx | refine List.mem_cons_of_mem _ ?_)) | refine Ge Gf ?_)) (hx))))))))
    repeat (first | replace h := Kon.bind h | replace h := Kon.retE h | replace h := Kon.okE h)
    refine qs 5 ?_
    exact Gw (Gg (L' := PL T b tv s13 a13 k13 c13 L) (F' := F) Tryz.results129 rfl (by repeat (first | exact Ga _ _ | exact Gc (fun x hx => by repeat (first | exact hx | refine List.mem_cons_of_mem _ ?_)) | refine Ge Gs ?_)) (h _ _ _))
   first | replace h := Kon.pifF c16 h | replace h := Kon.iteF (nott c16) h | replace h := Kon.whenF c16 h | skip
   repeat (first | replace h := Kon.bind h | replace h := Kon.retE h | replace h := Kon.okE h)
   refine qs 7 ?_
   replace h := Kon.iteF (fun q => nott c16 q.2) h
   refine qs 2 ?_
   refine Gl (Gk HQ HQ (rc.union v memA memA (h.go (hr.union _ v).go (fun x31 s14 v14 l14 e14 h a14 k14 c14 => ?_) (fun i e hx => Gm (Gh (Gj (by repeat (first | exact Ga _ _ | exact Gc (fun x hx => by repeat (first | exact hx | refine List.mem_cons_of_mem _ ?_)) | refine Ge Gf ?_)) (hx)))))))
   repeat (first | replace h := Kon.bind h | replace h := Kon.retE h | replace h := Kon.okE h)
   refine qs 4 ?_
   exact Gw (Gg (L' := PL T b tv s14 a14 k14 c14 L) (F' := F) Tryz.results129 rfl (by repeat (first | exact Ga _ _ | exact Gc (fun x hx => by repeat (first | exact hx | refine List.mem_cons_of_mem _ ?_)) | refine Ge Gs ?_)) (h _ _ _))
  first | replace h := Kon.iteT c11 h | replace h := Kon.iteF c11 h | skip
  repeat (first | replace h := Kon.bind h | replace h := Kon.retE h | replace h := Kon.okE h)
  refine qs 12 ?_
  replace h := Kon.iteF (fun q => c11 q.1) h
  refine qs 2 ?_
  refine Gl (Gk HQ HQ (rc.union v memA memA (h.go (hr.union _ v).go (fun x31 s15 v15 l15 e15 h a15 k15 c15 => ?_) (fun i e hx => Gm (Gh (Gj (by repeat (first | exact Ga _ _ | exact Gc (fun x hx => by repeat (first | exact hx | refine List.mem_cons_of_mem _ ?_)) | refine Ge Gf ?_)) (hx)))))))
  repeat (first | replace h := Kon.bind h | replace h := Kon.retE h | replace h := Kon.okE h)
  refine qs 4 ?_
  exact Gw (Gg (L' := PL T b tv s15 a15 k15 c15 L) (F' := F) Tryz.results129 rfl (by repeat (first | exact Ga _ _ | exact Gc (fun x hx => by repeat (first | exact hx | refine List.mem_cons_of_mem _ ?_)) | refine Ge Gs ?_)) (h _ _ _))
end
end Go.Sy
namespace Go.Sy
open Go Go.Proofs Go.RowKit
def bindL : List (List Bs) := [[[124, 124]], [[38, 38]], [[61, 61], [33, 61], [60], [60, 61], [62], [62, 61]], [[43], [45], [124], [94]], [[42], [47], [37], [38], [60, 60], [62, 62]]]
theorem binds_at {t : Tk} {i : Nat} (hi : i < 5) (h : isB t (bindL.getD i []) = true) (hn : ∀ j, j < i → isB t (bindL.getD j []) = false) : bindsB t = i + 1 := by
  unfold bindsB
  match i, hi with
  | 0, _ => rw [if_pos (show isB t [[124, 124]] = true from h)]
  | 1, _ => rw [if_neg (nott (show isB t [[124, 124]] = false from hn 0 HS)), if_pos (show isB t [[38, 38]] = true from h)]
  | 2, _ => rw [if_neg (nott (show isB t [[124, 124]] = false from hn 0 HS)), if_neg (nott (show isB t [[38, 38]] = false from hn 1 HS)), if_pos (show isB t [[61, 61], [33, 61], [60], [60, 61], [62], [62, 61]] = true from h)]
  | 3, _ => rw [if_neg (nott (show isB t [[124, 124]] = false from hn 0 HS)), if_neg (nott (show isB t [[38, 38]] = false from hn 1 HS)), if_neg (nott (show isB t [[61, 61], [33, 61], [60], [60, 61], [62], [62, 61]] = false from hn 2 HS)), if_pos (show isB t [[43], [45], [124], [94]] = true from h)]
  | 4, _ => rw [if_neg (nott (show isB t [[124, 124]] = false from hn 0 HS)), if_neg (nott (show isB t [[38, 38]] = false from hn 1 HS)), if_neg (nott (show isB t [[61, 61], [33, 61], [60], [60, 61], [62], [62, 61]] = false from hn 2 HS)), if_neg (nott (show isB t [[43], [45], [124], [94]] = false from hn 3 HS)), if_pos (show isB t [[42], [47], [37], [38], [60, 60], [62, 62]] = true from h)]
theorem binds_no {t : Tk} (hn : ∀ j, j < 5 → isB t (bindL.getD j []) = false) : bindsB t = 0 := by
  unfold bindsB
  rw [if_neg (nott (show isB t [[124, 124]] = false from hn 0 HS)), if_neg (nott (show isB t [[38, 38]] = false from hn 1 HS)), if_neg (nott (show isB t [[61, 61], [33, 61], [60], [60, 61], [62], [62, 61]] = false from hn 2 HS)), if_neg (nott (show isB t [[43], [45], [124], [94]] = false from hn 3 HS)), if_neg (nott (show isB t [[42], [47], [37], [38], [60, 60], [62, 62]] = false from hn 4 HS))]
theorem binds_le (t : Tk) : bindsB t ≤ 5 := by
  unfold bindsB
  repeat' split
  all_goals omega
attribute [local irreducible] AC AT AO AK AH ACalls ACallsX Sub Res.cells Res.obj Res.nix Res.own Res.map Exit.then Exit.inBlock bodyPost Code.wp Code.wpIn WL Next Post PostX Kont
attribute [local irreducible] pnamed psignature pfield pelem pliteral pbare punion pexpr poperand pprimary punary ptypes punless pbody pfunction pdecl pfile plist plines pnode pof pmust psemi pnone pnested pwhen pif PM.bind PM.ret
section
variable {W0 : World} {L : List Res} {F : List Fact} {R : Value → List Res → List Fact → Prop} {X : List PanicEntry → List Res → List Fact → Prop}
set_option maxRecDepth 100000
set_option maxHeartbeats 4000000
variable {T : List Tok} {b : Nat} {tv : Value} {d : Nat} {s : PS} {a : Option Addr} {k c : Nat} {r : Rec}
theorem pbinds_c {t : Tk} {p : Nat} (h : R (.int .i64 (bindsB t : Int)) L F) : ACalls Tryz.prog W0 33 #[vTok t p] L F R := by
  refine Gn Tryz.func33 HQ Tryz.ntmps33 HQ ?_
  refine qs 2 ?_
  refine Gb (GH HQ HQ (fun b1 => ?_))
  refine qs 6 ?_
  refine Gb (Gz HQ HQ HQ HQ HQ HQ (fun b5 => (Gb (Gz HQ HQ HQ HQ HQ HQ (fun b6 => (Gb (Gz HQ HQ HQ HQ HQ HQ (fun b7 => ?_))))))))
  refine Gb (Gz HQ HQ HQ HQ HQ HQ (fun b8 => (Gb (Gz HQ HQ HQ HQ HQ HQ (fun b9 => (Gb (Gz HQ HQ HQ HQ HQ HQ (fun b10 => ?_))))))))
  refine Gb (Hr HQ HQ (fun hl11 => ?_) (enc := eV) (lst := [.slice (some ⟨b5, 0, none⟩) 1 1, .slice (some ⟨b6, 0, none⟩) 1 1, .slice (some ⟨b7, 0, none⟩) 6 6, .slice (some ⟨b8, 0, none⟩) 4 4, .slice (some ⟨b9, 0, none⟩) 6 6]) (hm := memA))
  refine qs 4 ?_
  refine Hj (fun (i : Nat) => i ≤ 5 ∧ ∀ j, j < i → isB t (bindL.getD j []) = false) (fun i => [(1, pt b1), (10, .slice (some ⟨b10, 0, none⟩) 5 5), (11, .int .i64 5), (12, .int .i64 (i : Int))]) (fun _ => _ :: L) (fun _ => _) (fun i => 5 - i) 0 ⟨by omega, by omega⟩ srA (Ga _ _) ?_
  rintro i ⟨hi, hn⟩
  refine qs 2 ?_
  refine Gb (Hq HQ HQ HQ (fun c13 => ?_) (fun c13 => ?_))
  ·refine qs 11 ?_
   have hi5 : i < 5 := by omega
   have hv : ∃ u, [Value.slice (some ⟨b5, 0, none⟩) 1 1, .slice (some ⟨b6, 0, none⟩) 1 1, .slice (some ⟨b7, 0, none⟩) 6 6, .slice (some ⟨b8, 0, none⟩) 4 4, .slice (some ⟨b9, 0, none⟩) 6 6][i]'hi5 = u := ⟨_, rfl⟩
   obtain ⟨u, hu⟩ := hv
   refine Gb (Hg HQ HQ HQ HQ (enc := eV) (lst := [Value.slice (some ⟨b5, 0, none⟩) 1 1, .slice (some ⟨b6, 0, none⟩) 1 1, .slice (some ⟨b7, 0, none⟩) 6 6, .slice (some ⟨b8, 0, none⟩) 4 4, .slice (some ⟨b9, 0, none⟩) 6 6]) memA hi5 (fun _ _ => ?_))
   rw [hu]
   refine Gb (HN HQ HQ ?_)
   show AT _ _ _ _ _ _
   refine qs 8 ?_
   refine Gb (Gi HQ HQ (pis_c (l := bindL.getD i []) ?_ ?_ (fun c19 => ?_) (fun c19 => ?_)))
   · match i, hi5 with
     | 0, _ => subst hu; exact memA
     | 1, _ => subst hu; exact memA
     | 2, _ => subst hu; exact memA
     | 3, _ => subst hu; exact memA
     | 4, _ => subst hu; exact memA
   · match i, hi5 with
     | 0, _ | 1, _ | 2, _ | 3, _ | 4, _ => decide
   ·refine qs 16 ?_
    rw [binds_at HS c19 hn] at h
    exact Gg (L' := L) (F' := F) Tryz.results33 rfl (by repeat (first | exact Ga _ _ | exact Gc (fun x hx => by repeat (first | exact hx | refine List.mem_cons_of_mem _ ?_)) | refine Ge Gf ?_)) h
   refine qs 10 ?_
   refine GX (i + 1) ⟨by omega, fun j hj => ?_⟩ HS srA subF
   rcases Nat.lt_succ_iff_lt_or_eq.1 hj with q | rfl
   · exact hn j q
   exact c19
  refine qs 15 ?_
  rw [binds_no (fun j hj => hn j HS)] at h
  exact Gg (L' := L) (F' := F) Tryz.results33 rfl (by repeat (first | exact Ga _ _ | exact Gc (fun x hx => by repeat (first | exact hx | refine List.mem_cons_of_mem _ ?_)) | refine Ge Gf ?_)) h
theorem pexpr1_c (w : Wf (T.map Tok.tk)) (rc : RecC W0 T b tv d r) (hr : RecG (T.map Tok.tk) d r) (n : Nat) (v : Inv (T.map Tok.tk) d s) {bp bl i j : Nat} (hb : L[i]? = some (Res.cells bp [pt b].toArray 33)) (hb2 : L[j]? = some (Res.cells bl [.int .i64 (n : Int)].toArray 3)) :
    PC W0 T b tv L 31 #[pt bp, pt bl] s (pexpr (T.map Tok.tk) r n) vInt := by
  intro F R X a k c mT mN h
  have hw := w.len
  unfold pexpr at h
  replace h := Kon.bind h
  refine ACallsX.body Tryz.func31 HQ Tryz.ntmps31 HQ ?_
  refine qs 7 ?_
  refine Gb (GL HQ HQ ?_ (hi := by repeat (first | assumption | exact has0 | apply hasS)))
  refine Gb (Gi HQ HQ (GZ memA v ?_))
  refine Gb (Ha HQ HQ HQ ?_)
  refine qs 5 ?_
  refine Gb (GL HQ HQ ?_ (hi := by repeat (first | assumption | exact has0 | apply hasS)))
  refine Gl (Gk HQ HQ (rc.unary v memA memA (h.go (hr.unary _ v).go (fun x11 s11 v11 l11 e11 h a11 k11 c11 => ?_) (fun i e hx => Gm (Gh (Gj (by repeat (first | exact Ga _ _ | exact Gc (fun x hx => by repeat (first | exact hx | refine List.mem_cons_of_mem _ ?_)) | refine Ge Gf ?_)) (hx)))))))
  repeat (first | replace h := Kon.bind h | replace h := Kon.retE h | replace h := Kon.okE h)
  refine qs 4 ?_
  refine Hj (fun (q : (PS × Int) × (Option Addr × Nat × Nat) × Nat) => Inv (T.map Tok.tk) d q.1.1 ∧ (T.map Tok.tk).length ≤ q.2.2 + q.1.1.i ∧ Kon (pexprF (T.map Tok.tk) r n s.i q.2.2 q.1.2 q.1.1) (fun x s' => ∀ a k c, R (vInt x) (PL T b tv s' a k c L) F) (fun i e => X (wrong T i e) L F))
   (fun q => [(0, pt bp), (1, pt bl), (3, .int .i64 (posOf T s.i : Int)), (4, .int .i64 q.1.2)]) (fun q => PL T b tv q.1.1 q.2.1.1 q.2.1.2.1 q.2.1.2.2 L) (fun _ => F) (fun q => q.2.2)
   ((s11, x11), (a11, k11, c11), (T.map Tok.tk).length) ⟨v11, Nat.le_add_right _ _, h⟩ srA (Ga _ _) ?_
  clear h
  rintro ⟨⟨s1, x⟩, ⟨a1, k1, c1⟩, f1⟩ ⟨v1, hf1, h⟩
  simp only at v1 hf1 h ⊢
  have hi1 := v1.i
  rcases f1 with _ | f1
  · exfalso; omega
  unfold pexprF at h
  refine qs 3 ?_
  refine Gb (GL HQ HQ ?_ (hi := by repeat (first | assumption | exact has0 | apply hasS)))
  refine Gb (Gi HQ HQ (GZ memA v1 ?_))
  refine Gb (Hh HQ (fun b5 => GT Hi ?_))
  refine qs 6 ?_
  refine Gb (Gi HQ HQ (pbinds_c ?_))
  refine qs 7 ?_
  refine Gb (GL HQ HQ ?_ (hi := by repeat (first | assumption | exact has0 | apply hasS)))
  refine Gb (Hq HQ HQ HQ (fun c18 => ?_) (fun c18 => ?_))
  ·first | replace h := Kon.iteT c18 h | replace h := Kon.iteF c18 h | skip
   repeat (first | replace h := Kon.bind h | replace h := Kon.retE h | replace h := Kon.okE h)
   refine qs 8 ?_
   replace h := Kon.okE (Kon.iteT (Or.inl HS) h)
   refine qs 10 ?_
   exact Gw (Gg (L' := PL T b tv s1 a1 k1 c1 L) (F' := F) Tryz.results31 rfl (by repeat (first | exact Ga _ _ | exact Gc (fun x hx => by repeat (first | exact hx | refine List.mem_cons_of_mem _ ?_)) | refine Ge Gs ?_)) (h _ _ _))
  first | replace h := Kon.iteT c18 h | replace h := Kon.iteF c18 h | skip
  repeat (first | replace h := Kon.bind h | replace h := Kon.retE h | replace h := Kon.okE h)
  refine qs 2 ?_
  refine Gr HQ HQ (GA HQ HQ HQ (fun c21 => ?_) (fun c21 => ?_))
  ·first | replace h := Kon.iteT c21 h | replace h := Kon.iteF c21 h | skip
   repeat (first | replace h := Kon.bind h | replace h := Kon.retE h | replace h := Kon.okE h)
   refine qs 5 ?_
   replace h := Kon.okE (Kon.iteT (Or.inr HS) h)
   refine qs 10 ?_
   exact Gw (Gg (L' := PL T b tv s1 a1 k1 c1 L) (F' := F) Tryz.results31 rfl (by repeat (first | exact Ga _ _ | exact Gc (fun x hx => by repeat (first | exact hx | refine List.mem_cons_of_mem _ ?_)) | refine Ge Gs ?_)) (h _ _ _))
  first | replace h := Kon.iteT c21 h | replace h := Kon.iteF c21 h | skip
  repeat (first | replace h := Kon.bind h | replace h := Kon.retE h | replace h := Kon.okE h)
  refine qs 7 ?_
  replace h := Kon.bind (Kon.iteF HS h)
  have hbl := binds_le (s1.tok (T.map Tok.tk))
  refine qs 1 ?_
  refine Gb (GL HQ HQ ?_ (hi := by repeat (first | assumption | exact has0 | apply hasS)))
  refine Gb (Gu HQ HQ ?_)
  refine qs 3 ?_
  refine Gb (Gu HQ HQ ?_)
  refine qs 4 ?_
  have v2 := Inv.next v1 w (binds_ne HS)
  refine GO (fun _ => false) [(bp, _, _), (b5, _, _)] bxA HQ (fun hx hX => ?_)
  refine qt [0, 1, 2, 3, 4, 5, 6, 7] ?_
  refine GD (i := 8) HR HQ HQ (fun _ => ?_)
  refine Gk HQ HQ (rc.expr (bindsB (s1.tok (T.map Tok.tk)) + 1) HS v2 memA memA (h.go (hr.expr _ _ v2).go (fun x39 s51 v51 l51 e51 h a51 k51 c51 => ?_) (fun i e hx => HB (AK.allB (Hc (AK.allB (Hv (by repeat (first | exact Ga _ _ | exact Gc (fun x hx => by repeat (first | exact hx | refine List.mem_cons_of_mem _ ?_)) | refine Ge Gf ?_)) (hx))))))))
  replace h := Kon.bind h
  have hn51 : s1.i + 1 + 1 ≤ s51.i := l51
  refine Gy bxA memB ?_
  refine GD (i := 9) HR HQ HQ (fun _ => ?_)
  refine Gz HQ HQ HQ HQ HQ HQ (fun b40 => ?_)
  refine Gy bxA memB ?_
  refine GD (i := 10) HR HQ HQ (fun _ => ?_)
  refine (Gk HQ HQ (GG w v51 memA memA memA (h.go (GC v51) (fun x41 s12 v12 l12 e12 h a12 k12 c12 => ?_) (fun i e hx => HB (AK.allB (Hc (AK.allB (Hv (by repeat (first | exact Ga _ _ | exact Gc (fun x hx => by repeat (first | exact hx | refine List.mem_cons_of_mem _ ?_)) | refine Ge Gf ?_)) (hx)))))))))
  repeat (first | replace h := Kon.bind h | replace h := Kon.retE h | replace h := Kon.okE h)
  refine Gy bxA memB ?_
  refine qt [11] ?_
  refine GF HR ?_
  refine qs 1 ?_
  refine GX ((s12, x41), (a12, k12, c12), f1) ⟨v12, (by simp only; omega), h⟩ (by simp only; omega) srA (by repeat (first | exact Ga _ _ | exact Gc (fun x hx => by repeat (first | exact hx | refine List.mem_cons_of_mem _ ?_)) | refine Ge Gs ?_))
end
end Go.Sy
namespace Go.Sy
open Go Go.Proofs Go.RowKit
attribute [local irreducible] AC AT AO AK AH ACalls ACallsX Sub Res.cells Res.obj Res.nix Res.own Res.map Exit.then Exit.inBlock bodyPost Code.wp Code.wpIn WL Next Post PostX Kont
attribute [local irreducible] pnamed psignature pfield pelem pliteral pbare punion pexpr poperand pprimary punary ptypes punless pbody pfunction pdecl pfile plist plines pnode pof pmust psemi pnone pnested pwhen pif PM.bind PM.ret
section
variable {W0 : World} {L : List Res} {F : List Fact} {R : Value → List Res → List Fact → Prop} {X : List PanicEntry → List Res → List Fact → Prop}
set_option maxRecDepth 100000
set_option maxHeartbeats 4000000
variable {T : List Tok} {b : Nat} {tv : Value} {d : Nat} {s : PS} {a : Option Addr} {k c : Nat} {r : Rec}
theorem punion1_c (w : Wf (T.map Tok.tk)) (rc : RecC W0 T b tv d r) (hr : RecG (T.map Tok.tk) d r) (v : Inv (T.map Tok.tk) d s) {bp i : Nat} (hb : L[i]? = some (Res.cells bp [pt b].toArray 33)) :
    PC W0 T b tv L 118 #[pt bp] s (punion (T.map Tok.tk) r) vInt := by
  intro F R X a k c mT mN h
  have hw := w.len
  unfold punion at h
  refine ACallsX.body Tryz.func118 HQ Tryz.ntmps118 HQ ?_
  refine qs 7 ?_
  refine Gb (GL HQ HQ ?_ (hi := by repeat (first | assumption | exact has0 | apply hasS)))
  refine Gb (Gi HQ HQ (GZ memA v ?_))
  refine Gb (Ha HQ HQ HQ ?_)
  refine qs 9 ?_
  refine Hj (fun (q : (PS × List Int) × (Option Addr × Nat × Nat) × (Option Addr × Nat × Nat) × Nat) => Inv (T.map Tok.tk) d q.1.1 ∧ (T.map Tok.tk).length ≤ q.2.2.2 + q.1.1.i ∧ q.1.2.length ≤ q.1.1.i ∧ Kon (punionF (T.map Tok.tk) r s.i q.2.2.2 q.1.2 q.1.1) (fun x s' => ∀ a k c, R (vInt x) (PL T b tv s' a k c L) F) (fun i e => X (wrong T i e) L F))
   (fun q => [(0, pt bp), (2, .int .i64 (posOf T s.i : Int)), (3, .slice q.2.2.1.1 q.2.2.1.2.1 q.2.2.1.2.2)]) (fun q => PL T b tv q.1.1 q.2.1.1 q.2.1.2.1 q.2.1.2.2 (Res.own (.slice q.2.2.1.1 q.2.2.1.2.1 q.2.2.1.2.2) 3 1 (q.1.2.map eInt) :: L)) (fun _ => F) (fun q => q.2.2.2)
   ((s, []), (a, k, c), (none, 0, 0), (T.map Tok.tk).length) ⟨v, Nat.le_add_right _ _, Nat.zero_le _, h⟩ srA (Sub.ownNil.trans Hi) ?_
  clear h
  rintro ⟨⟨s1, out⟩, ⟨a1, k1, c1⟩, ⟨a2, k2, c2⟩, f1⟩ ⟨v1, hf1, ho1, h⟩
  simp only at v1 hf1 ho1 h ⊢
  have hi1 := v1.i
  rcases f1 with _ | f1
  · exfalso; omega
  unfold punionF at h
  replace h := Kon.bind h
  refine qs 3 ?_
  refine Gb (GL HQ HQ ?_ (hi := by repeat (first | assumption | exact has0 | apply hasS)))
  refine Gb (Gi HQ HQ (GZ memA v1 ?_))
  refine Gb (Ha HQ HQ HQ ?_)
  refine qs 11 ?_
  refine Gb (GL HQ HQ ?_ (hi := by repeat (first | assumption | exact has0 | apply hasS)))
  refine Gb (Gi HQ HQ (Hp w memA v1 (fun c13 => ?_) (fun c13 => ?_)))
  ·replace h := Kon.whenT c13 h
   repeat (first | replace h := Kon.bind h | replace h := Kon.retE h | replace h := Kon.okE h)
   have v11 := Inv.next v1 w (GS c13)
   refine qs 8 ?_
   have hn1 : s1.next.i = s1.i + 1 := rfl
   refine GO (fun _ => false) [(bp, _, _)] bxA HQ (fun hx hX => ?_)
   refine qt [0, 1, 2, 3, 4] ?_
   refine GD (i := 5) HR HQ HQ (fun _ => ?_)
   refine (Gk HQ HQ (rc.typ v11 memA memA (h.go (hr.typ _ v11).go (fun x19 s12 v12 l12 e12 h a12 k12 c12 => ?_) (fun i e hx => HB (Hc (AK.allB (Hc (AK.allB (Hv (by repeat (first | exact Ga _ _ | exact Gc (fun x hx => by repeat (first | exact hx | refine List.mem_cons_of_mem _ ?_)) | refine Ge Gf ?_)) (hx))))))))))
   repeat (first | replace h := Kon.bind h | replace h := Kon.retE h | replace h := Kon.okE h)
   refine Gy bxA memB ?_
   refine GD (i := 6) HR HQ HQ (fun _ => ?_)
   refine Gz HQ HQ HQ HQ HQ HQ (fun b20 => ?_)
   refine Gy bxA memB ?_
   refine GD (i := 7) HR HQ HQ (fun _ => ?_)
   refine (Gk HQ HQ (GG w v12 memA memA memA (h.go (GC v12) (fun x21 s13 v13 l13 e13 h a13 k13 c13 => ?_) (fun i e hx => HB (Hc (AK.allB (Hc (AK.allB (Hv (by repeat (first | exact Ga _ _ | exact Gc (fun x hx => by repeat (first | exact hx | refine List.mem_cons_of_mem _ ?_)) | refine Ge Gf ?_)) (hx))))))))))
   repeat (first | replace h := Kon.bind h | replace h := Kon.retE h | replace h := Kon.okE h)
   refine Gy bxA memB ?_
   refine GD (i := 8) HR HQ HQ (fun _ => ?_)
   refine GN HQ HQ HQ HQ HQ (fun b22 => ?_)
   refine Gy bxA memB ?_
   refine GD (i := 9) HR HQ HQ (fun _ => ?_)
   refine Ho (enc := eInt) (lst := out) [x21] HQ HQ HQ (by repeat (first | exact has0 | apply hasS)) (.val .nil) HQ HQ (fun _ => rfl) (by unfold maxLen; first | omega | (simp <;> omega)) (by first | omega | (simp <;> omega)) (fun a23 k23 c23 => ?_)
   refine Gy bxA memB ?_
   refine qt [10] ?_
   refine GF HR ?_
   refine qs 3 ?_
   refine Gb (GL HQ HQ ?_ (hi := by repeat (first | assumption | exact has0 | apply hasS)))
   refine Gb (Gi HQ HQ (Hp w memA v13 (fun c25 => ?_) (fun c25 => ?_)))
   ·replace h := Kon.whenT c25 h
    repeat (first | replace h := Kon.bind h | replace h := Kon.retE h | replace h := Kon.okE h)
    have v14 := Inv.next v13 w (GS c25)
    refine qs 6 ?_
    refine GX ((s13.next, out ++ [x21]), (a13, k13, c13), (a23, k23, c23), f1) ⟨v14, (by simp only; omega), (by simp only [List.length_append, List.length_cons, List.length_nil]; omega), h⟩ (by simp only; omega) srA (by simp only [List.map_append]; exact subF)
   replace h := Kon.whenF c25 h
   repeat (first | replace h := Kon.bind h | replace h := Kon.retE h | replace h := Kon.okE h)
   refine qs 6 ?_
   refine GT (He (i := 2) HQ) ?_
   refine Gb (GL HQ HQ ?_ (hi := by repeat (first | assumption | exact has0 | apply hasS)))
   refine qs 2 ?_
   refine Gl (Gk HQ HQ (GG w v13 memA memA memA (h.go (GC v13) (fun x30 s15 v15 l15 e15 h a15 k15 c15 => ?_) (fun i e hx => Gm (Gh (Gx (Gh (Gx (Gj (by repeat (first | exact Ga _ _ | exact Gc (fun x hx => by repeat (first | exact hx | refine List.mem_cons_of_mem _ ?_)) | refine Ge Gf ?_)) (hx))))))))))
   repeat (first | replace h := Kon.bind h | replace h := Kon.retE h | replace h := Kon.okE h)
   refine qs 7 ?_
   exact Gw (Gg (L' := PL T b tv s15 a15 k15 c15 L) (F' := F) Tryz.results118 rfl (by repeat (first | exact Ga _ _ | exact Gc (fun x hx => by repeat (first | exact hx | refine List.mem_cons_of_mem _ ?_)) | refine Ge Gs ?_)) (h _ _ _))
  replace h := Kon.whenF c13 h
  repeat (first | replace h := Kon.bind h | replace h := Kon.retE h | replace h := Kon.okE h)
  refine qs 6 ?_
  refine GO (fun _ => false) [(bp, _, _)] bxA HQ (fun hx hX => ?_)
  refine qt [0, 1, 2, 3, 4] ?_
  refine GD (i := 5) HR HQ HQ (fun _ => ?_)
  refine (Gk HQ HQ (rc.typ v1 memA memA (h.go (hr.typ _ v1).go (fun x19 s16 v16 l16 e16 h a16 k16 c16 => ?_) (fun i e hx => HB (Hc (AK.allB (Hc (AK.allB (Hv (by repeat (first | exact Ga _ _ | exact Gc (fun x hx => by repeat (first | exact hx | refine List.mem_cons_of_mem _ ?_)) | refine Ge Gf ?_)) (hx))))))))))
  repeat (first | replace h := Kon.bind h | replace h := Kon.retE h | replace h := Kon.okE h)
  refine Gy bxA memB ?_
  refine GD (i := 6) HR HQ HQ (fun _ => ?_)
  refine Gz HQ HQ HQ HQ HQ HQ (fun b20 => ?_)
  refine Gy bxA memB ?_
  refine GD (i := 7) HR HQ HQ (fun _ => ?_)
  refine (Gk HQ HQ (GG w v16 memA memA memA (h.go (GC v16) (fun x21 s17 v17 l17 e17 h a17 k17 c17 => ?_) (fun i e hx => HB (Hc (AK.allB (Hc (AK.allB (Hv (by repeat (first | exact Ga _ _ | exact Gc (fun x hx => by repeat (first | exact hx | refine List.mem_cons_of_mem _ ?_)) | refine Ge Gf ?_)) (hx))))))))))
  repeat (first | replace h := Kon.bind h | replace h := Kon.retE h | replace h := Kon.okE h)
  refine Gy bxA memB ?_
  refine GD (i := 8) HR HQ HQ (fun _ => ?_)
  refine GN HQ HQ HQ HQ HQ (fun b22 => ?_)
  refine Gy bxA memB ?_
  refine GD (i := 9) HR HQ HQ (fun _ => ?_)
  refine Ho (enc := eInt) (lst := out) [x21] HQ HQ HQ (by repeat (first | exact has0 | apply hasS)) (.val .nil) HQ HQ (fun _ => rfl) (by unfold maxLen; first | omega | (simp <;> omega)) (by first | omega | (simp <;> omega)) (fun a23 k23 c23 => ?_)
  refine Gy bxA memB ?_
  refine qt [10] ?_
  refine GF HR ?_
  refine qs 3 ?_
  refine Gb (GL HQ HQ ?_ (hi := by repeat (first | assumption | exact has0 | apply hasS)))
  refine Gb (Gi HQ HQ (Hp w memA v17 (fun c25 => ?_) (fun c25 => ?_)))
  ·replace h := Kon.whenT c25 h
   repeat (first | replace h := Kon.bind h | replace h := Kon.retE h | replace h := Kon.okE h)
   have v18 := Inv.next v17 w (GS c25)
   refine qs 6 ?_
   refine GX ((s17.next, out ++ [x21]), (a17, k17, c17), (a23, k23, c23), f1) ⟨v18, (by simp only; omega), (by simp only [List.length_append, List.length_cons, List.length_nil]; omega), h⟩ (by simp only; omega) srA (by simp only [List.map_append]; exact subF)
  replace h := Kon.whenF c25 h
  repeat (first | replace h := Kon.bind h | replace h := Kon.retE h | replace h := Kon.okE h)
  refine qs 6 ?_
  refine GT (He (i := 2) HQ) ?_
  refine Gb (GL HQ HQ ?_ (hi := by repeat (first | assumption | exact has0 | apply hasS)))
  refine qs 2 ?_
  refine Gl (Gk HQ HQ (GG w v17 memA memA memA (h.go (GC v17) (fun x30 s19 v19 l19 e19 h a19 k19 c19 => ?_) (fun i e hx => Gm (Gh (Gx (Gh (Gx (Gj (by repeat (first | exact Ga _ _ | exact Gc (fun x hx => by repeat (first | exact hx | refine List.mem_cons_of_mem _ ?_)) | refine Ge Gf ?_)) (hx))))))))))
  repeat (first | replace h := Kon.bind h | replace h := Kon.retE h | replace h := Kon.okE h)
  refine qs 7 ?_
  exact Gw (Gg (L' := PL T b tv s19 a19 k19 c19 L) (F' := F) Tryz.results118 rfl (by repeat (first | exact Ga _ _ | exact Gc (fun x hx => by repeat (first | exact hx | refine List.mem_cons_of_mem _ ?_)) | refine Ge Gs ?_)) (h _ _ _))
theorem pliteral_c (w : Wf (T.map Tok.tk)) (rc : RecC W0 T b tv d r) (hr : RecG (T.map Tok.tk) d r) (v : Inv (T.map Tok.tk) d s) : PC W0 T b tv L 120 #[pt b] s (pliteral (T.map Tok.tk) r) vInt := by
  intro F R X a k c mT mN h
  unfold pliteral at h
  refine ACallsX.body Tryz.func120 HQ Tryz.ntmps120 HQ ?_
  refine qs 8 ?_
  refine Gb (Gi HQ HQ (GZ memA v ?_))
  refine Gb (Ha HQ HQ HQ ?_)
  refine qs 8 ?_
  refine Gb (Gi HQ HQ (Hp w memA v (fun c11 => ?_) (fun c11 => ?_)))
  ·replace h := Kon.whenT c11 h
   repeat (first | replace h := Kon.bind h | replace h := Kon.retE h | replace h := Kon.okE h)
   have v11 := Inv.next v w (GS c11)
   refine qs 8 ?_
   refine Gb (Gi HQ HQ (Hp w memA v11 (fun c13 => ?_) (fun c13 => ?_)))
   ·replace h := Kon.whenT c13 h
    repeat (first | replace h := Kon.bind h | replace h := Kon.retE h | replace h := Kon.okE h)
    have v12 := Inv.next v11 w (GS c13)
    refine qs 8 ?_
    refine Gl (Gk HQ HQ (rc.typ v12 memA memA (h.go (hr.typ _ v12).go (fun x17 s13 v13 l13 e13 h a13 k13 c13 => ?_) (fun i e hx => Gm (Gh (Gh (Gx (Gh (Gj (by repeat (first | exact Ga _ _ | exact Gc (fun x hx => by repeat (first | exact hx | refine List.mem_cons_of_mem _ ?_)) | refine Ge Gf ?_)) (hx))))))))))
    repeat (first | replace h := Kon.bind h | replace h := Kon.retE h | replace h := Kon.okE h)
    refine Gb (Gz HQ HQ HQ HQ HQ HQ (fun b18 => ?_))
    refine Gl (Gk HQ HQ (GG w v13 memA memA memA (h.go (GC v13) (fun x19 s14 v14 l14 e14 h a14 k14 c14 => ?_) (fun i e hx => Gm (Gh (Gh (Gx (Gh (Gj (by repeat (first | exact Ga _ _ | exact Gc (fun x hx => by repeat (first | exact hx | refine List.mem_cons_of_mem _ ?_)) | refine Ge Gf ?_)) (hx))))))))))
    repeat (first | replace h := Kon.bind h | replace h := Kon.retE h | replace h := Kon.okE h)
    refine qs 7 ?_
    exact Gw (Gg (L' := PL T b tv s14 a14 k14 c14 L) (F' := F) Tryz.results120 rfl (by repeat (first | exact Ga _ _ | exact Gc (fun x hx => by repeat (first | exact hx | refine List.mem_cons_of_mem _ ?_)) | refine Ge Gs ?_)) (h _ _ _))
   replace h := Kon.whenF c13 h
   repeat (first | replace h := Kon.bind h | replace h := Kon.retE h | replace h := Kon.okE h)
   refine qs 8 ?_
   refine Gl (Gk HQ HQ (rc.expr 1 (by decide) v11 memA memA (h.go (hr.expr _ _ v11).go (fun x21 s15 v15 l15 e15 h a15 k15 c15 => ?_) (fun i e hx => Gm (Gh (Gx (Gh (Gj (by repeat (first | exact Ga _ _ | exact Gc (fun x hx => by repeat (first | exact hx | refine List.mem_cons_of_mem _ ?_)) | refine Ge Gf ?_)) (hx)))))))))
   repeat (first | replace h := Kon.bind h | replace h := Kon.retE h | replace h := Kon.okE h)
   refine qs 6 ?_
   refine Gl (Gk HQ HQ (HE w v15 memA memA (h.go (HA w v15).go (fun x23 s16 v16 l16 e16 h a16 k16 c16 => ?_) (fun i e hx => Gm (Gh (Gx (Gh (Gj (by repeat (first | exact Ga _ _ | exact Gc (fun x hx => by repeat (first | exact hx | refine List.mem_cons_of_mem _ ?_)) | refine Ge Gf ?_)) (hx)))))))))
   repeat (first | replace h := Kon.bind h | replace h := Kon.retE h | replace h := Kon.okE h)
   refine qs 8 ?_
   refine Gl (Gk HQ HQ (rc.typ v16 memA memA (h.go (hr.typ _ v16).go (fun x28 s17 v17 l17 e17 h a17 k17 c17 => ?_) (fun i e hx => Gm (Gh (Gx (Gh (Gj (by repeat (first | exact Ga _ _ | exact Gc (fun x hx => by repeat (first | exact hx | refine List.mem_cons_of_mem _ ?_)) | refine Ge Gf ?_)) (hx)))))))))
   repeat (first | replace h := Kon.bind h | replace h := Kon.retE h | replace h := Kon.okE h)
   refine Gb (Gz HQ HQ HQ HQ HQ HQ (fun b29 => ?_))
   refine Gl (Gk HQ HQ (GG w v17 memA memA memA (h.go (GC v17) (fun x30 s18 v18 l18 e18 h a18 k18 c18 => ?_) (fun i e hx => Gm (Gh (Gx (Gh (Gj (by repeat (first | exact Ga _ _ | exact Gc (fun x hx => by repeat (first | exact hx | refine List.mem_cons_of_mem _ ?_)) | refine Ge Gf ?_)) (hx)))))))))
   repeat (first | replace h := Kon.bind h | replace h := Kon.retE h | replace h := Kon.okE h)
   refine qs 6 ?_
   exact Gw (Gg (L' := PL T b tv s18 a18 k18 c18 L) (F' := F) Tryz.results120 rfl (by repeat (first | exact Ga _ _ | exact Gc (fun x hx => by repeat (first | exact hx | refine List.mem_cons_of_mem _ ?_)) | refine Ge Gs ?_)) (h _ _ _))
  replace h := Kon.whenF c11 h
  repeat (first | replace h := Kon.bind h | replace h := Kon.retE h | replace h := Kon.okE h)
  refine qs 7 ?_
  refine Gb (Gi HQ HQ (Hp w memA v (fun c33 => ?_) (fun c33 => ?_)))
  ·replace h := Kon.whenT c33 h
   repeat (first | replace h := Kon.bind h | replace h := Kon.retE h | replace h := Kon.okE h)
   have v19 := Inv.next v w (GS c33)
   refine qs 7 ?_
   refine Gl (Gk HQ HQ (HE w v19 memA memA (h.go (HA w v19).go (fun x35 s20 v20 l20 e20 h a20 k20 c20 => ?_) (fun i e hx => Gm (Gh (Gx (Gh (Gj (by repeat (first | exact Ga _ _ | exact Gc (fun x hx => by repeat (first | exact hx | refine List.mem_cons_of_mem _ ?_)) | refine Ge Gf ?_)) (hx)))))))))
   repeat (first | replace h := Kon.bind h | replace h := Kon.retE h | replace h := Kon.okE h)
   refine qs 5 ?_
   refine Gl (Gk HQ HQ (rc.typ v20 memA memA (h.go (hr.typ _ v20).go (fun x37 s21 v21 l21 e21 h a21 k21 c21 => ?_) (fun i e hx => Gm (Gh (Gx (Gh (Gj (by repeat (first | exact Ga _ _ | exact Gc (fun x hx => by repeat (first | exact hx | refine List.mem_cons_of_mem _ ?_)) | refine Ge Gf ?_)) (hx)))))))))
   repeat (first | replace h := Kon.bind h | replace h := Kon.retE h | replace h := Kon.okE h)
   refine qs 6 ?_
   refine Gl (Gk HQ HQ (HE w v21 memA memA (h.go (HA w v21).go (fun x39 s22 v22 l22 e22 h a22 k22 c22 => ?_) (fun i e hx => Gm (Gh (Gx (Gh (Gj (by repeat (first | exact Ga _ _ | exact Gc (fun x hx => by repeat (first | exact hx | refine List.mem_cons_of_mem _ ?_)) | refine Ge Gf ?_)) (hx)))))))))
   repeat (first | replace h := Kon.bind h | replace h := Kon.retE h | replace h := Kon.okE h)
   refine qs 8 ?_
   refine Gl (Gk HQ HQ (rc.typ v22 memA memA (h.go (hr.typ _ v22).go (fun x44 s23 v23 l23 e23 h a23 k23 c23 => ?_) (fun i e hx => Gm (Gh (Gx (Gh (Gj (by repeat (first | exact Ga _ _ | exact Gc (fun x hx => by repeat (first | exact hx | refine List.mem_cons_of_mem _ ?_)) | refine Ge Gf ?_)) (hx)))))))))
   repeat (first | replace h := Kon.bind h | replace h := Kon.retE h | replace h := Kon.okE h)
   refine Gb (Gz HQ HQ HQ HQ HQ HQ (fun b45 => ?_))
   refine Gl (Gk HQ HQ (GG w v23 memA memA memA (h.go (GC v23) (fun x46 s24 v24 l24 e24 h a24 k24 c24 => ?_) (fun i e hx => Gm (Gh (Gx (Gh (Gj (by repeat (first | exact Ga _ _ | exact Gc (fun x hx => by repeat (first | exact hx | refine List.mem_cons_of_mem _ ?_)) | refine Ge Gf ?_)) (hx)))))))))
   repeat (first | replace h := Kon.bind h | replace h := Kon.retE h | replace h := Kon.okE h)
   refine qs 6 ?_
   exact Gw (Gg (L' := PL T b tv s24 a24 k24 c24 L) (F' := F) Tryz.results120 rfl (by repeat (first | exact Ga _ _ | exact Gc (fun x hx => by repeat (first | exact hx | refine List.mem_cons_of_mem _ ?_)) | refine Ge Gs ?_)) (h _ _ _))
  replace h := Kon.whenF c33 h
  repeat (first | replace h := Kon.bind h | replace h := Kon.retE h | replace h := Kon.okE h)
  refine qs 7 ?_
  refine Gb (Gi HQ HQ (Hp w memA v (fun c49 => ?_) (fun c49 => ?_)))
  ·replace h := Kon.whenT c49 h
   repeat (first | replace h := Kon.bind h | replace h := Kon.retE h | replace h := Kon.okE h)
   have v25 := Inv.next v w (GS c49)
   refine qs 8 ?_
   refine Gl (Gk HQ HQ (psignature_c w rc hr _ v25 memA memA (h.go (psignature_g w hr v25 _).go (fun x52 s26 v26 l26 e26 h a26 k26 c26 => ?_) (fun i e hx => Gm (Gh (Gx (Gh (Gj (by repeat (first | exact Ga _ _ | exact Gc (fun x hx => by repeat (first | exact hx | refine List.mem_cons_of_mem _ ?_)) | refine Ge Gf ?_)) (hx)))))))))
   repeat (first | replace h := Kon.bind h | replace h := Kon.retE h | replace h := Kon.okE h)
   refine qs 6 ?_
   exact Gw (Gg (L' := PL T b tv s26 a26 k26 c26 L) (F' := F) Tryz.results120 rfl (by repeat (first | exact Ga _ _ | exact Gc (fun x hx => by repeat (first | exact hx | refine List.mem_cons_of_mem _ ?_)) | refine Ge Gs ?_)) (h _ _ _))
  replace h := Kon.whenF c49 h
  repeat (first | replace h := Kon.bind h | replace h := Kon.retE h | replace h := Kon.okE h)
  refine qs 7 ?_
  refine Gb (Gi HQ HQ (Hp w memA v (fun c55 => ?_) (fun c55 => ?_)))
  ·replace h := Kon.whenT c55 h
   repeat (first | replace h := Kon.bind h | replace h := Kon.retE h | replace h := Kon.okE h)
   have v27 := Inv.next v w (GS c55)
   refine qs 10 ?_
   refine Gb (GB HQ HQ HQ ?_)
   refine Gl (Gk HQ HQ (plines_c w v27 (fun _ _ v => pfield_c w rc hr v) (fun _ v => (pfield_g w hr v).go) memA memA (h.go (plines_g w (fun _ v => pfield_g w hr v) v27).go (fun x61 s28 v28 l28 e28 h a28 k28 c28 p61 q61 r61 => ?_) (fun i e hx => Gm (Gh (Gx (Gh (Gj (by repeat (first | exact Ga _ _ | exact Gc (fun x hx => by repeat (first | exact hx | refine List.mem_cons_of_mem _ ?_)) | refine Ge Gf ?_)) (hx)))))))))
   repeat (first | replace h := Kon.bind h | replace h := Kon.retE h | replace h := Kon.okE h)
   have ln61 := (plines_g w (fun _ v => pfield_g w hr v) v27).len e28
   refine Gl (Gk HQ HQ (GG w v28 memA memA memA (h.go (GC v28) (fun x62 s29 v29 l29 e29 h a29 k29 c29 => ?_) (fun i e hx => Gm (Gh (Gx (Gh (Gj (by repeat (first | exact Ga _ _ | exact Gc (fun x hx => by repeat (first | exact hx | refine List.mem_cons_of_mem _ ?_)) | refine Ge Gf ?_)) (hx)))))))))
   repeat (first | replace h := Kon.bind h | replace h := Kon.retE h | replace h := Kon.okE h)
   refine qs 6 ?_
   exact Gw (Gg (L' := PL T b tv s29 a29 k29 c29 L) (F' := F) Tryz.results120 rfl (by repeat (first | exact Ga _ _ | exact Gc (fun x hx => by repeat (first | exact hx | refine List.mem_cons_of_mem _ ?_)) | refine Ge Gs ?_)) (h _ _ _))
  replace h := Kon.whenF c55 h
  repeat (first | replace h := Kon.bind h | replace h := Kon.retE h | replace h := Kon.okE h)
  refine qs 7 ?_
  refine Gb (Gi HQ HQ (Hp w memA v (fun c65 => ?_) (fun c65 => ?_)))
  ·replace h := Kon.whenT c65 h
   repeat (first | replace h := Kon.bind h | replace h := Kon.retE h | replace h := Kon.okE h)
   have v30 := Inv.next v w (GS c65)
   refine qs 10 ?_
   refine Gb (GB HQ HQ HQ ?_)
   refine Gl (Gk HQ HQ (plines_c w v30 (fun _ _ v => pelem_c w rc hr v) (fun _ v => (pelem_g w hr v).go) memA memA (h.go (plines_g w (fun _ v => pelem_g w hr v) v30).go (fun x71 s31 v31 l31 e31 h a31 k31 c31 p71 q71 r71 => ?_) (fun i e hx => Gm (Gh (Gx (Gh (Gj (by repeat (first | exact Ga _ _ | exact Gc (fun x hx => by repeat (first | exact hx | refine List.mem_cons_of_mem _ ?_)) | refine Ge Gf ?_)) (hx)))))))))
   repeat (first | replace h := Kon.bind h | replace h := Kon.retE h | replace h := Kon.okE h)
   have ln71 := (plines_g w (fun _ v => pelem_g w hr v) v30).len e31
   refine Gl (Gk HQ HQ (GG w v31 memA memA memA (h.go (GC v31) (fun x72 s32 v32 l32 e32 h a32 k32 c32 => ?_) (fun i e hx => Gm (Gh (Gx (Gh (Gj (by repeat (first | exact Ga _ _ | exact Gc (fun x hx => by repeat (first | exact hx | refine List.mem_cons_of_mem _ ?_)) | refine Ge Gf ?_)) (hx)))))))))
   repeat (first | replace h := Kon.bind h | replace h := Kon.retE h | replace h := Kon.okE h)
   refine qs 6 ?_
   exact Gw (Gg (L' := PL T b tv s32 a32 k32 c32 L) (F' := F) Tryz.results120 rfl (by repeat (first | exact Ga _ _ | exact Gc (fun x hx => by repeat (first | exact hx | refine List.mem_cons_of_mem _ ?_)) | refine Ge Gs ?_)) (h _ _ _))
  replace h := Kon.whenF c65 h
  repeat (first | replace h := Kon.bind h | replace h := Kon.retE h | replace h := Kon.okE h)
  refine qs 10 ?_
  refine Gl (Gk HQ HQ (pfail_c memA v 5 (Gm (Gh (Gj (by repeat (first | exact Ga _ _ | exact Gc (fun x hx => by repeat (first | exact hx | refine List.mem_cons_of_mem _ ?_)) | refine Ge Gf ?_)) (h))))))
theorem pbare_c (w : Wf (T.map Tok.tk)) (rc : RecC W0 T b tv d r) (hr : RecG (T.map Tok.tk) d r) (v : Inv (T.map Tok.tk) d s) : PC W0 T b tv L 104 #[pt b] s (pbare (T.map Tok.tk) r) vInt := by
  intro F R X a k c mT mN h
  unfold pbare at h
  refine ACallsX.body Tryz.func104 HQ Tryz.ntmps104 HQ ?_
  refine qs 8 ?_
  refine Gb (Gi HQ HQ (GZ memA v ?_))
  refine Gb (Ha HQ HQ HQ ?_)
  refine qs 8 ?_
  refine Gb (Gi HQ HQ (GZ memA v ?_))
  refine Gb (Ha HQ HQ HQ (Gb (GA HQ HQ HQ (fun c12 => ?_) (fun c12 => ?_))))
  ·first | replace h := Kon.iteT c12 h | replace h := Kon.iteF c12 h | skip
   repeat (first | replace h := Kon.bind h | replace h := Kon.retE h | replace h := Kon.okE h)
   refine qs 7 ?_
   refine Gl (Gk HQ HQ (pnamed_c w rc hr v memA memA (h.go (pnamed_g w hr v).go (fun x14 s11 v11 l11 e11 h a11 k11 c11 => ?_) (fun i e hx => Gm (Gh (Gx (Gh (Gj (by repeat (first | exact Ga _ _ | exact Gc (fun x hx => by repeat (first | exact hx | refine List.mem_cons_of_mem _ ?_)) | refine Ge Gf ?_)) (hx)))))))))
   repeat (first | replace h := Kon.bind h | replace h := Kon.retE h | replace h := Kon.okE h)
   refine qs 6 ?_
   exact Gw (Gg (L' := PL T b tv s11 a11 k11 c11 L) (F' := F) Tryz.results104 rfl (by repeat (first | exact Ga _ _ | exact Gc (fun x hx => by repeat (first | exact hx | refine List.mem_cons_of_mem _ ?_)) | refine Ge Gs ?_)) (h _ _ _))
  first | replace h := Kon.iteT c12 h | replace h := Kon.iteF c12 h | skip
  repeat (first | replace h := Kon.bind h | replace h := Kon.retE h | replace h := Kon.okE h)
  refine qs 7 ?_
  refine Gb (Gi HQ HQ (Hp w memA v (fun c17 => ?_) (fun c17 => ?_)))
  ·replace h := Kon.whenT c17 h
   repeat (first | replace h := Kon.bind h | replace h := Kon.retE h | replace h := Kon.okE h)
   have v12 := Inv.next v w (GS c17)
   refine qs 9 ?_
   refine Gl (Gk HQ HQ (rc.typ v12 memA memA (h.go (hr.typ _ v12).go (fun x21 s13 v13 l13 e13 h a13 k13 c13 => ?_) (fun i e hx => Gm (Gh (Gx (Gh (Gj (by repeat (first | exact Ga _ _ | exact Gc (fun x hx => by repeat (first | exact hx | refine List.mem_cons_of_mem _ ?_)) | refine Ge Gf ?_)) (hx)))))))))
   repeat (first | replace h := Kon.bind h | replace h := Kon.retE h | replace h := Kon.okE h)
   refine Gb (Gz HQ HQ HQ HQ HQ HQ (fun b22 => ?_))
   refine Gl (Gk HQ HQ (GG w v13 memA memA memA (h.go (GC v13) (fun x23 s14 v14 l14 e14 h a14 k14 c14 => ?_) (fun i e hx => Gm (Gh (Gx (Gh (Gj (by repeat (first | exact Ga _ _ | exact Gc (fun x hx => by repeat (first | exact hx | refine List.mem_cons_of_mem _ ?_)) | refine Ge Gf ?_)) (hx)))))))))
   repeat (first | replace h := Kon.bind h | replace h := Kon.retE h | replace h := Kon.okE h)
   refine qs 6 ?_
   exact Gw (Gg (L' := PL T b tv s14 a14 k14 c14 L) (F' := F) Tryz.results104 rfl (by repeat (first | exact Ga _ _ | exact Gc (fun x hx => by repeat (first | exact hx | refine List.mem_cons_of_mem _ ?_)) | refine Ge Gs ?_)) (h _ _ _))
  replace h := Kon.whenF c17 h
  repeat (first | replace h := Kon.bind h | replace h := Kon.retE h | replace h := Kon.okE h)
  refine qs 7 ?_
  refine Gb (Gi HQ HQ (Hp w memA v (fun c26 => ?_) (fun c26 => ?_)))
  ·replace h := Kon.whenT c26 h
   repeat (first | replace h := Kon.bind h | replace h := Kon.retE h | replace h := Kon.okE h)
   have v15 := Inv.next v w (GS c26)
   refine qs 7 ?_
   refine Gl (Gk HQ HQ (rc.typ v15 memA memA (h.go (hr.typ _ v15).go (fun x28 s16 v16 l16 e16 h a16 k16 c16 => ?_) (fun i e hx => Gm (Gh (Gx (Gh (Gj (by repeat (first | exact Ga _ _ | exact Gc (fun x hx => by repeat (first | exact hx | refine List.mem_cons_of_mem _ ?_)) | refine Ge Gf ?_)) (hx)))))))))
   repeat (first | replace h := Kon.bind h | replace h := Kon.retE h | replace h := Kon.okE h)
   refine qs 6 ?_
   refine Gl (Gk HQ HQ (HE w v16 memA memA (h.go (HA w v16).go (fun x30 s17 v17 l17 e17 h a17 k17 c17 => ?_) (fun i e hx => Gm (Gh (Gx (Gh (Gj (by repeat (first | exact Ga _ _ | exact Gc (fun x hx => by repeat (first | exact hx | refine List.mem_cons_of_mem _ ?_)) | refine Ge Gf ?_)) (hx)))))))))
   repeat (first | replace h := Kon.bind h | replace h := Kon.retE h | replace h := Kon.okE h)
   refine qs 7 ?_
   refine Gb (Gz HQ HQ HQ HQ HQ HQ (fun b34 => ?_))
   refine Gl (Gk HQ HQ (GG w v17 memA memA memA (h.go (GC v17) (fun x35 s18 v18 l18 e18 h a18 k18 c18 => ?_) (fun i e hx => Gm (Gh (Gx (Gh (Gj (by repeat (first | exact Ga _ _ | exact Gc (fun x hx => by repeat (first | exact hx | refine List.mem_cons_of_mem _ ?_)) | refine Ge Gf ?_)) (hx)))))))))
   repeat (first | replace h := Kon.bind h | replace h := Kon.retE h | replace h := Kon.okE h)
   refine qs 6 ?_
   exact Gw (Gg (L' := PL T b tv s18 a18 k18 c18 L) (F' := F) Tryz.results104 rfl (by repeat (first | exact Ga _ _ | exact Gc (fun x hx => by repeat (first | exact hx | refine List.mem_cons_of_mem _ ?_)) | refine Ge Gs ?_)) (h _ _ _))
  replace h := Kon.whenF c26 h
  repeat (first | replace h := Kon.bind h | replace h := Kon.retE h | replace h := Kon.okE h)
  refine qs 10 ?_
  refine Gl (Gk HQ HQ (pliteral_c w rc hr v memA memA (h.go (pliteral_g w hr v).go (fun x37 s19 v19 l19 e19 h a19 k19 c19 => ?_) (fun i e hx => Gm (Gh (Gj (by repeat (first | exact Ga _ _ | exact Gc (fun x hx => by repeat (first | exact hx | refine List.mem_cons_of_mem _ ?_)) | refine Ge Gf ?_)) (hx)))))))
  repeat (first | replace h := Kon.bind h | replace h := Kon.retE h | replace h := Kon.okE h)
  refine qs 4 ?_
  exact Gw (Gg (L' := PL T b tv s19 a19 k19 c19 L) (F' := F) Tryz.results104 rfl (by repeat (first | exact Ga _ _ | exact Gc (fun x hx => by repeat (first | exact hx | refine List.mem_cons_of_mem _ ?_)) | refine Ge Gs ?_)) (h _ _ _))
theorem pwhole_c (rc : RecC W0 T b tv d r) (hr : RecG (T.map Tok.tk) d r) (v : Inv (T.map Tok.tk) d s) : PC W0 T b tv L 108 #[pt b] s (r.expr 1) vInt := by
  intro F R X a k c mT mN h
  refine ACallsX.body Tryz.func108 HQ Tryz.ntmps108 HQ ?_
  refine qs 8 ?_
  refine Gl (Gk HQ HQ (rc.expr 1 (by decide) v memA memA (h.go (hr.expr _ _ v).go (fun x4 s11 v11 l11 e11 h a11 k11 c11 => ?_) (fun i e hx => Gm (Gh (Gj (by repeat (first | exact Ga _ _ | exact Gc (fun x hx => by repeat (first | exact hx | refine List.mem_cons_of_mem _ ?_)) | refine Ge Gf ?_)) (hx)))))))
  repeat (first | replace h := Kon.bind h | replace h := Kon.retE h | replace h := Kon.okE h)
  refine qs 4 ?_
  exact Gw (Gg (L' := PL T b tv s11 a11 k11 c11 L) (F' := F) Tryz.results108 rfl (by repeat (first | exact Ga _ _ | exact Gc (fun x hx => by repeat (first | exact hx | refine List.mem_cons_of_mem _ ?_)) | refine Ge Gs ?_)) (h _ _ _))
theorem poperand_c (w : Wf (T.map Tok.tk)) (rc : RecC W0 T b tv d r) (hr : RecG (T.map Tok.tk) d r) (v : Inv (T.map Tok.tk) d s) : PC W0 T b tv L 107 #[pt b] s (poperand (T.map Tok.tk) r) vInt := by
  intro F R X a k c mT mN h
  have hlt := v.lt
  have hw := w.len
  rw [List.length_map] at hw
  unfold poperand at h
  refine ACallsX.body Tryz.func107 HQ Tryz.ntmps107 HQ ?_
  refine qs 8 ?_
  refine Gb (Gi HQ HQ (GZ memA v ?_))
  refine Gb (Hh HQ (fun b3 => GT Hi ?_))
  refine qs 14 ?_
  refine Gb (GA HQ HQ HQ (fun c10 => ?_) (fun c10 => ?_))
  ·first | replace h := Kon.iteT c10 h | replace h := Kon.iteF c10 h | skip
   repeat (first | replace h := Kon.bind h | replace h := Kon.retE h | replace h := Kon.okE h)
   refine qs 8 ?_
   replace h := Kon.iteT HS h
   refine qs 2 ?_
   refine Gb (Gu HQ HQ ?_)
   refine qs 3 ?_
   refine Gb (Gu HQ HQ ?_)
   refine qs 5 ?_
   have v2 := Inv.next v w HS
   refine qs 8 ?_
   refine Gl (Gk HQ HQ (GG w v2 memA memA memA (h.go (GC v2) (fun x29 s11 v11 l11 e11 h a11 k11 c11 => ?_) (fun i e hx => Gm (Gh (Gx (Gh (Gj (by repeat (first | exact Ga _ _ | exact Gc (fun x hx => by repeat (first | exact hx | refine List.mem_cons_of_mem _ ?_)) | refine Ge Gf ?_)) (hx)))))))))
   repeat (first | replace h := Kon.bind h | replace h := Kon.retE h | replace h := Kon.okE h)
   refine qs 6 ?_
   exact Gw (Gg (L' := PL T b tv s11 a11 k11 c11 L) (F' := F) Tryz.results107 rfl (by repeat (first | exact Ga _ _ | exact Gc (fun x hx => by repeat (first | exact hx | refine List.mem_cons_of_mem _ ?_)) | refine Ge Gs ?_)) (h _ _ _))
  first | replace h := Kon.iteT c10 h | replace h := Kon.iteF c10 h | skip
  repeat (first | replace h := Kon.bind h | replace h := Kon.retE h | replace h := Kon.okE h)
  refine qs 6 ?_
  refine Gb (GA HQ HQ HQ (fun c11 => ?_) (fun c11 => ?_))
  ·first | replace h := Kon.iteT c11 h | replace h := Kon.iteF c11 h | skip
   repeat (first | replace h := Kon.bind h | replace h := Kon.retE h | replace h := Kon.okE h)
   refine qs 8 ?_
   replace h := Kon.iteT HS h
   refine qs 2 ?_
   refine Gb (Gu HQ HQ ?_)
   refine qs 3 ?_
   refine Gb (Gu HQ HQ ?_)
   refine qs 5 ?_
   have v2 := Inv.next v w HS
   refine qs 8 ?_
   refine Gl (Gk HQ HQ (GG w v2 memA memA memA (h.go (GC v2) (fun x29 s12 v12 l12 e12 h a12 k12 c12 => ?_) (fun i e hx => Gm (Gh (Gx (Gh (Gj (by repeat (first | exact Ga _ _ | exact Gc (fun x hx => by repeat (first | exact hx | refine List.mem_cons_of_mem _ ?_)) | refine Ge Gf ?_)) (hx)))))))))
   repeat (first | replace h := Kon.bind h | replace h := Kon.retE h | replace h := Kon.okE h)
   refine qs 6 ?_
   exact Gw (Gg (L' := PL T b tv s12 a12 k12 c12 L) (F' := F) Tryz.results107 rfl (by repeat (first | exact Ga _ _ | exact Gc (fun x hx => by repeat (first | exact hx | refine List.mem_cons_of_mem _ ?_)) | refine Ge Gs ?_)) (h _ _ _))
  first | replace h := Kon.iteT c11 h | replace h := Kon.iteF c11 h | skip
  repeat (first | replace h := Kon.bind h | replace h := Kon.retE h | replace h := Kon.okE h)
  refine qs 6 ?_
  refine Gb (GA HQ HQ HQ (fun c12 => ?_) (fun c12 => ?_))
  ·first | replace h := Kon.iteT c12 h | replace h := Kon.iteF c12 h | skip
   repeat (first | replace h := Kon.bind h | replace h := Kon.retE h | replace h := Kon.okE h)
   refine qs 8 ?_
   replace h := Kon.iteT HS h
   refine qs 2 ?_
   refine Gb (Gu HQ HQ ?_)
   refine qs 3 ?_
   refine Gb (Gu HQ HQ ?_)
   refine qs 5 ?_
   have v2 := Inv.next v w HS
   refine qs 8 ?_
   refine Gl (Gk HQ HQ (GG w v2 memA memA memA (h.go (GC v2) (fun x29 s13 v13 l13 e13 h a13 k13 c13 => ?_) (fun i e hx => Gm (Gh (Gx (Gh (Gj (by repeat (first | exact Ga _ _ | exact Gc (fun x hx => by repeat (first | exact hx | refine List.mem_cons_of_mem _ ?_)) | refine Ge Gf ?_)) (hx)))))))))
   repeat (first | replace h := Kon.bind h | replace h := Kon.retE h | replace h := Kon.okE h)
   refine qs 6 ?_
   exact Gw (Gg (L' := PL T b tv s13 a13 k13 c13 L) (F' := F) Tryz.results107 rfl (by repeat (first | exact Ga _ _ | exact Gc (fun x hx => by repeat (first | exact hx | refine List.mem_cons_of_mem _ ?_)) | refine Ge Gs ?_)) (h _ _ _))
  first | replace h := Kon.iteT c12 h | replace h := Kon.iteF c12 h | skip
  repeat (first | replace h := Kon.bind h | replace h := Kon.retE h | replace h := Kon.okE h)
  refine qs 6 ?_
  refine Gb (GA HQ HQ HQ (fun c13 => ?_) (fun c13 => ?_))
  ·first | replace h := Kon.iteT c13 h | replace h := Kon.iteF c13 h | skip
   repeat (first | replace h := Kon.bind h | replace h := Kon.retE h | replace h := Kon.okE h)
   refine qs 8 ?_
   replace h := Kon.iteT HS h
   refine qs 2 ?_
   refine Gb (Gu HQ HQ ?_)
   refine qs 3 ?_
   refine Gb (Gu HQ HQ ?_)
   refine qs 5 ?_
   have v2 := Inv.next v w HS
   refine qs 8 ?_
   refine Gl (Gk HQ HQ (GG w v2 memA memA memA (h.go (GC v2) (fun x29 s14 v14 l14 e14 h a14 k14 c14 => ?_) (fun i e hx => Gm (Gh (Gx (Gh (Gj (by repeat (first | exact Ga _ _ | exact Gc (fun x hx => by repeat (first | exact hx | refine List.mem_cons_of_mem _ ?_)) | refine Ge Gf ?_)) (hx)))))))))
   repeat (first | replace h := Kon.bind h | replace h := Kon.retE h | replace h := Kon.okE h)
   refine qs 6 ?_
   exact Gw (Gg (L' := PL T b tv s14 a14 k14 c14 L) (F' := F) Tryz.results107 rfl (by repeat (first | exact Ga _ _ | exact Gc (fun x hx => by repeat (first | exact hx | refine List.mem_cons_of_mem _ ?_)) | refine Ge Gs ?_)) (h _ _ _))
  first | replace h := Kon.iteT c13 h | replace h := Kon.iteF c13 h | skip
  repeat (first | replace h := Kon.bind h | replace h := Kon.retE h | replace h := Kon.okE h)
  refine qs 5 ?_
  refine Gb (GA HQ HQ HQ (fun c14 => ?_) (fun c14 => ?_))
  ·first | replace h := Kon.iteT c14 h | replace h := Kon.iteF c14 h | skip
   repeat (first | replace h := Kon.bind h | replace h := Kon.retE h | replace h := Kon.okE h)
   refine qs 5 ?_
   replace h := Kon.iteT HS h
   refine qs 2 ?_
   refine Gb (Gu HQ HQ ?_)
   refine qs 3 ?_
   refine Gb (Gu HQ HQ ?_)
   refine qs 5 ?_
   have v2 := Inv.next v w HS
   refine qs 8 ?_
   refine Gl (Gk HQ HQ (GG w v2 memA memA memA (h.go (GC v2) (fun x29 s15 v15 l15 e15 h a15 k15 c15 => ?_) (fun i e hx => Gm (Gh (Gx (Gh (Gj (by repeat (first | exact Ga _ _ | exact Gc (fun x hx => by repeat (first | exact hx | refine List.mem_cons_of_mem _ ?_)) | refine Ge Gf ?_)) (hx)))))))))
   repeat (first | replace h := Kon.bind h | replace h := Kon.retE h | replace h := Kon.okE h)
   refine qs 6 ?_
   exact Gw (Gg (L' := PL T b tv s15 a15 k15 c15 L) (F' := F) Tryz.results107 rfl (by repeat (first | exact Ga _ _ | exact Gc (fun x hx => by repeat (first | exact hx | refine List.mem_cons_of_mem _ ?_)) | refine Ge Gs ?_)) (h _ _ _))
  first | replace h := Kon.iteT c14 h | replace h := Kon.iteF c14 h | skip
  repeat (first | replace h := Kon.bind h | replace h := Kon.retE h | replace h := Kon.okE h)
  refine qs 9 ?_
  replace h := Kon.iteF HS h
  refine qs 2 ?_
  refine Gb (Gi HQ HQ (Hp w memA v (fun c31 => ?_) (fun c31 => ?_)))
  ·replace h := Kon.whenT c31 h
   repeat (first | replace h := Kon.bind h | replace h := Kon.retE h | replace h := Kon.okE h)
   have v16 := Inv.next v w (GS c31)
   refine qs 6 ?_
   refine Gl (Gk HQ HQ (rc.expr 1 (by decide) v16 memA memA (h.go (hr.expr _ _ v16).go (fun x33 s17 v17 l17 e17 h a17 k17 c17 => ?_) (fun i e hx => Gm (Gh (Gh (Gj (by repeat (first | exact Ga _ _ | exact Gc (fun x hx => by repeat (first | exact hx | refine List.mem_cons_of_mem _ ?_)) | refine Ge Gf ?_)) (hx))))))))
   repeat (first | replace h := Kon.bind h | replace h := Kon.retE h | replace h := Kon.okE h)
   refine qs 6 ?_
   refine Gl (Gk HQ HQ (HE w v17 memA memA (h.go (HA w v17).go (fun x35 s18 v18 l18 e18 h a18 k18 c18 => ?_) (fun i e hx => Gm (Gh (Gh (Gj (by repeat (first | exact Ga _ _ | exact Gc (fun x hx => by repeat (first | exact hx | refine List.mem_cons_of_mem _ ?_)) | refine Ge Gf ?_)) (hx))))))))
   repeat (first | replace h := Kon.bind h | replace h := Kon.retE h | replace h := Kon.okE h)
   refine qs 8 ?_
   refine Gb (Gz HQ HQ HQ HQ HQ HQ (fun b40 => ?_))
   refine Gl (Gk HQ HQ (GG w v18 memA memA memA (h.go (GC v18) (fun x41 s19 v19 l19 e19 h a19 k19 c19 => ?_) (fun i e hx => Gm (Gh (Gh (Gj (by repeat (first | exact Ga _ _ | exact Gc (fun x hx => by repeat (first | exact hx | refine List.mem_cons_of_mem _ ?_)) | refine Ge Gf ?_)) (hx))))))))
   repeat (first | replace h := Kon.bind h | replace h := Kon.retE h | replace h := Kon.okE h)
   refine qs 5 ?_
   exact Gw (Gg (L' := PL T b tv s19 a19 k19 c19 L) (F' := F) Tryz.results107 rfl (by repeat (first | exact Ga _ _ | exact Gc (fun x hx => by repeat (first | exact hx | refine List.mem_cons_of_mem _ ?_)) | refine Ge Gs ?_)) (h _ _ _))
  replace h := Kon.whenF c31 h
  repeat (first | replace h := Kon.bind h | replace h := Kon.retE h | replace h := Kon.okE h)
  refine qs 8 ?_
  refine Gl (Gk HQ HQ (pliteral_c w rc hr v memA memA (h.go (pliteral_g w hr v).go (fun x43 s20 v20 l20 e20 h a20 k20 c20 => ?_) (fun i e hx => Gm (Gh (Gj (by repeat (first | exact Ga _ _ | exact Gc (fun x hx => by repeat (first | exact hx | refine List.mem_cons_of_mem _ ?_)) | refine Ge Gf ?_)) (hx)))))))
  repeat (first | replace h := Kon.bind h | replace h := Kon.retE h | replace h := Kon.okE h)
  refine qs 4 ?_
  exact Gw (Gg (L' := PL T b tv s20 a20 k20 c20 L) (F' := F) Tryz.results107 rfl (by repeat (first | exact Ga _ _ | exact Gc (fun x hx => by repeat (first | exact hx | refine List.mem_cons_of_mem _ ?_)) | refine Ge Gs ?_)) (h _ _ _))
end
end Go.Sy
namespace Go.Sy
open Go Go.Proofs Go.RowKit
attribute [local irreducible] AC AT AO AK AH ACalls ACallsX Sub Res.cells Res.obj Res.nix Res.own Res.map Exit.then Exit.inBlock bodyPost Code.wp Code.wpIn WL Next Post PostX Kont
attribute [local irreducible] pnamed psignature pfield pelem pliteral pbare punion pexpr poperand pprimary punary ptypes punless pbody pfunction pdecl pfile plist plines pnode pof pmust psemi pnone pnested pwhen pif PM.bind PM.ret
section
variable {W0 : World} {L : List Res} {F : List Fact} {R : Value → List Res → List Fact → Prop} {X : List PanicEntry → List Res → List Fact → Prop}
set_option maxRecDepth 100000
set_option maxHeartbeats 4000000
variable {T : List Tok} {b : Nat} {tv : Value} {d : Nat} {s : PS} {a : Option Addr} {k c : Nat} {r : Rec}
theorem pprimary_c (w : Wf (T.map Tok.tk)) (rc : RecC W0 T b tv d r) (hr : RecG (T.map Tok.tk) d r) (v : Inv (T.map Tok.tk) d s) : PC W0 T b tv L 77 #[pt b] s (pprimary (T.map Tok.tk) r) vInt := by
  intro F R X a k c mT mN h
  have hw := w.len
  unfold pprimary at h
  replace h := Kon.bind h
  refine ACallsX.body Tryz.func77 HQ Tryz.ntmps77 HQ ?_
  refine qs 8 ?_
  refine Gb (Gi HQ HQ (GZ memA v ?_))
  refine Gb (Ha HQ HQ HQ ?_)
  refine qs 6 ?_
  refine Gl (Gk HQ HQ (poperand_c w rc hr v memA memA (h.go (poperand_g w hr v).go (fun x10 s11 v11 l11 e11 h a11 k11 c11 => ?_) (fun i e hx => Gm (Gh (Gj (by repeat (first | exact Ga _ _ | exact Gc (fun x hx => by repeat (first | exact hx | refine List.mem_cons_of_mem _ ?_)) | refine Ge Gf ?_)) (hx)))))))
  repeat (first | replace h := Kon.bind h | replace h := Kon.retE h | replace h := Kon.okE h)
  refine qs 4 ?_
  refine Hj (fun (q : (PS × Int) × (Option Addr × Nat × Nat) × Nat) => Inv (T.map Tok.tk) d q.1.1 ∧ (T.map Tok.tk).length ≤ q.2.2 + q.1.1.i ∧ Kon (pprimF (T.map Tok.tk) r s.i q.2.2 q.1.2 q.1.1) (fun x s' => ∀ a k c, R (vInt x) (PL T b tv s' a k c L) F) (fun i e => X (wrong T i e) L F))
   (fun q => [(0, pt b), (3, .int .i64 (posOf T s.i : Int)), (4, .int .i64 q.1.2)]) (fun q => PL T b tv q.1.1 q.2.1.1 q.2.1.2.1 q.2.1.2.2 L) (fun _ => F) (fun q => q.2.2)
   ((s11, x10), (a11, k11, c11), (T.map Tok.tk).length) ⟨v11, Nat.le_add_right _ _, h⟩ srA (Ga _ _) ?_
  clear h
  rintro ⟨⟨s1, x⟩, ⟨a1, k1, c1⟩, f1⟩ ⟨v1, hf1, h⟩
  simp only at v1 hf1 h ⊢
  have hi1 := v1.i
  have hn1 : s1.next.i = s1.i + 1 := rfl
  have hn2 : s1.next.next.i = s1.i + 1 + 1 := rfl
  rcases f1 with _ | f1
  · exfalso; omega
  unfold pprimF at h
  refine qs 5 ?_
  refine Gb (Gi HQ HQ (Hp w memA v1 (fun c14 => ?_) (fun c14 => ?_)))
  ·replace h := Kon.whenT c14 h
   repeat (first | replace h := Kon.bind h | replace h := Kon.retE h | replace h := Kon.okE h)
   have v12 := Inv.next v1 w (GS c14)
   refine qs 7 ?_
   refine Gl (Gk HQ HQ (pof_c w (by decide) v12 memA memA (h.go (pof_g w v12 (by decide)).go (fun x17 s13 v13 l13 e13 h a13 k13 c13 => ?_) (fun i e hx => Gm (Gx (Gx (Gh (Gx (Gj (by repeat (first | exact Ga _ _ | exact Gc (fun x hx => by repeat (first | exact hx | refine List.mem_cons_of_mem _ ?_)) | refine Ge Gf ?_)) (hx))))))))))
   repeat (first | replace h := Kon.bind h | replace h := Kon.retE h | replace h := Kon.okE h)
   refine qs 2 ?_
   refine Gb (Gz HQ HQ HQ HQ HQ HQ (fun b20 => ?_))
   refine Gl (Gk HQ HQ (GG w v13 memA memA memA (h.go (GC v13) (fun x21 s14 v14 l14 e14 h a14 k14 c14 => ?_) (fun i e hx => Gm (Gx (Gx (Gh (Gx (Gj (by repeat (first | exact Ga _ _ | exact Gc (fun x hx => by repeat (first | exact hx | refine List.mem_cons_of_mem _ ?_)) | refine Ge Gf ?_)) (hx))))))))))
   repeat (first | replace h := Kon.bind h | replace h := Kon.retE h | replace h := Kon.okE h)
   refine qs 4 ?_
   refine GX ((s14, x21), (a14, k14, c14), f1) ⟨v14, (by simp only; omega), h⟩ (by simp only; omega) srA (by repeat (first | exact Ga _ _ | exact Gc (fun x hx => by repeat (first | exact hx | refine List.mem_cons_of_mem _ ?_)) | refine Ge Gs ?_))
  replace h := Kon.whenF c14 h
  repeat (first | replace h := Kon.bind h | replace h := Kon.retE h | replace h := Kon.okE h)
  refine qs 7 ?_
  refine Gb (Gi HQ HQ (Hp w memA v1 (fun c24 => ?_) (fun c24 => ?_)))
  ·replace h := Kon.whenT c24 h
   repeat (first | replace h := Kon.bind h | replace h := Kon.retE h | replace h := Kon.okE h)
   have v15 := Inv.next v1 w (GS c24)
   refine qs 7 ?_
   refine Gb (GN HQ HQ HQ HQ HQ (fun b26 => GT ((Sub.toOwn (i := 0) (sz := 1) (enc := eInt) [x] HQ (.val .nil) (fun _ => rfl) HQ (Nat.le_of_ble_eq_true HQ)).trans Hi) ?_))
   refine qs 7 ?_
   refine Gb (Gi HQ HQ (Hp w memA v15 (fun c28 => ?_) (fun c28 => ?_)))
   ·replace h := Kon.whenT c28 h
    repeat (first | replace h := Kon.bind h | replace h := Kon.retE h | replace h := Kon.okE h)
    have v16 := Inv.next v15 w (GS c28)
    refine qs 7 ?_
    refine GT (He (i := 2) HQ) ?_
    refine Gb (AO.move HQ HQ ?_)
    refine qs 2 ?_
    refine Gl (Gk HQ HQ (GG w v16 memA memA memA (h.go (GC v16) (fun x39 s17 v17 l17 e17 h a17 k17 c17 => ?_) (fun i e hx => Gm (Gx (Gx (Gh (Gx (Gj (by repeat (first | exact Ga _ _ | exact Gc (fun x hx => by repeat (first | exact hx | refine List.mem_cons_of_mem _ ?_)) | refine Ge Gf ?_)) (hx))))))))))
    repeat (first | replace h := Kon.bind h | replace h := Kon.retE h | replace h := Kon.okE h)
    refine qs 4 ?_
    refine GX ((s17, x39), (a17, k17, c17), f1) ⟨v17, (by simp only; omega), h⟩ (by simp only; omega) srA (by repeat (first | exact Ga _ _ | exact Gc (fun x hx => by repeat (first | exact hx | refine List.mem_cons_of_mem _ ?_)) | refine Ge Gs ?_))
   replace h := Kon.whenF c28 h
   repeat (first | replace h := Kon.bind h | replace h := Kon.retE h | replace h := Kon.okE h)
   refine qs 8 ?_
   refine Gb (GB HQ HQ HQ ?_)
   refine Gl (Gk HQ HQ (plist_c w v15 (fun _ _ v => pwhole_c rc hr v) (fun _ v => (hr.expr 1 _ v).go) memA memA (h.go (plist_g w (hr.expr 1) v15).go (fun x34 s18 v18 l18 e18 h a18 k18 c18 p34 q34 r34 => ?_) (fun i e hx => Gm (Gh (Gx (Gx (Gh (Gx (Gj (by repeat (first | exact Ga _ _ | exact Gc (fun x hx => by repeat (first | exact hx | refine List.mem_cons_of_mem _ ?_)) | refine Ge Gf ?_)) (hx)))))))))))
   repeat (first | replace h := Kon.bind h | replace h := Kon.retE h | replace h := Kon.okE h)
   have ln34 := (plist_g w (hr.expr 1) v15).len e18
   refine GT ((He (i := 2) HQ).trans Gs) ?_
   refine Gb (AO.appendF (enc := eInt) (lst := [x]) HQ HQ HQ (by repeat (first | exact has0 | apply hasS)) memA one_eInt (fun _ => rfl) (by unfold maxLen; first | omega | (simp <;> omega)) (by first | omega | (simp <;> omega)) (fun a35 k35 c35 => ?_))
   refine qs 4 ?_
   refine GT (He (i := 2) HQ) ?_
   refine Gb (AO.move HQ HQ ?_)
   refine qs 2 ?_
   refine Gl (Gk HQ HQ (GG w v18 memA memA memA (h.go (GC v18) (fun x39 s19 v19 l19 e19 h a19 k19 c19 => ?_) (fun i e hx => Gm (Gx (Gx (Gh (Gx (Gj (by repeat (first | exact Ga _ _ | exact Gc (fun x hx => by repeat (first | exact hx | refine List.mem_cons_of_mem _ ?_)) | refine Ge Gf ?_)) (hx))))))))))
   repeat (first | replace h := Kon.bind h | replace h := Kon.retE h | replace h := Kon.okE h)
   refine qs 4 ?_
   refine GX ((s19, x39), (a19, k19, c19), f1) ⟨v19, (by simp only; omega), h⟩ (by simp only; omega) srA (by repeat (first | exact Ga _ _ | exact Gc (fun x hx => by repeat (first | exact hx | refine List.mem_cons_of_mem _ ?_)) | refine Ge Gs ?_))
  replace h := Kon.whenF c24 h
  repeat (first | replace h := Kon.bind h | replace h := Kon.retE h | replace h := Kon.okE h)
  refine qs 7 ?_
  refine Gb (Gi HQ HQ (Hp w memA v1 (fun c42 => ?_) (fun c42 => ?_)))
  ·replace h := Kon.whenT c42 h
   repeat (first | replace h := Kon.bind h | replace h := Kon.retE h | replace h := Kon.okE h)
   have v20 := Inv.next v1 w (GS c42)
   refine qs 8 ?_
   refine Gb (GN HQ HQ HQ HQ HQ (fun b46 => GT ((Sub.toOwn (i := 0) (sz := 1) (enc := eInt) [x] HQ (.val .nil) (fun _ => rfl) HQ (Nat.le_of_ble_eq_true HQ)).trans Hi) ?_))
   refine qs 2 ?_
   refine Gb (GB HQ HQ HQ ?_)
   refine Gl (Gk HQ HQ (plist_c w v20 (fun _ _ v => pwhole_c rc hr v) (fun _ v => (hr.expr 1 _ v).go) memA memA (h.go (plist_g w (hr.expr 1) v20).go (fun x50 s21 v21 l21 e21 h a21 k21 c21 p50 q50 r50 => ?_) (fun i e hx => Gm (Gx (Gx (Gh (Gx (Gj (by repeat (first | exact Ga _ _ | exact Gc (fun x hx => by repeat (first | exact hx | refine List.mem_cons_of_mem _ ?_)) | refine Ge Gf ?_)) (hx))))))))))
   repeat (first | replace h := Kon.bind h | replace h := Kon.retE h | replace h := Kon.okE h)
   have ln50 := (plist_g w (hr.expr 1) v20).len e21
   refine GT ((He (i := 2) HQ).trans Gs) ?_
   refine Gb (AO.appendF (enc := eInt) (lst := [x]) HQ HQ HQ (by repeat (first | exact has0 | apply hasS)) memA one_eInt (fun _ => rfl) (by unfold maxLen; first | omega | (simp <;> omega)) (by first | omega | (simp <;> omega)) (fun a51 k51 c51 => ?_))
   refine GT (He (v := .slice a51 k51 c51) (by repeat (first | exact has0 | apply hasS))) ?_
   refine Gl (Gk HQ HQ (GG w v21 memA memA memA (h.go (GC v21) (fun x52 s22 v22 l22 e22 h a22 k22 c22 => ?_) (fun i e hx => Gm (Gx (Gx (Gh (Gx (Gj (by repeat (first | exact Ga _ _ | exact Gc (fun x hx => by repeat (first | exact hx | refine List.mem_cons_of_mem _ ?_)) | refine Ge Gf ?_)) (hx))))))))))
   repeat (first | replace h := Kon.bind h | replace h := Kon.retE h | replace h := Kon.okE h)
   refine qs 4 ?_
   refine GX ((s22, x52), (a22, k22, c22), f1) ⟨v22, (by simp only; omega), h⟩ (by simp only; omega) srA (by repeat (first | exact Ga _ _ | exact Gc (fun x hx => by repeat (first | exact hx | refine List.mem_cons_of_mem _ ?_)) | refine Ge Gs ?_))
  replace h := Kon.whenF c42 h
  repeat (first | replace h := Kon.bind h | replace h := Kon.retE h | replace h := Kon.okE h)
  refine qs 15 ?_
  exact Gw (Gg (L' := PL T b tv s1 a1 k1 c1 L) (F' := F) Tryz.results77 rfl (by repeat (first | exact Ga _ _ | exact Gc (fun x hx => by repeat (first | exact hx | refine List.mem_cons_of_mem _ ?_)) | refine Ge Gs ?_)) (h _ _ _))
theorem punary1_c (w : Wf (T.map Tok.tk)) (rc : RecC W0 T b tv d r) (hr : RecG (T.map Tok.tk) d r) (v : Inv (T.map Tok.tk) d s) {bp i : Nat} (hb : L[i]? = some (Res.cells bp [pt b].toArray 33)) :
    PC W0 T b tv L 76 #[pt bp] s (punary (T.map Tok.tk) r) vInt := by
  intro F R X a k c mT mN h
  have hlt := v.lt
  have hw := w.len
  rw [List.length_map] at hw
  unfold punary at h
  refine ACallsX.body Tryz.func76 HQ Tryz.ntmps76 HQ ?_
  refine qs 7 ?_
  refine Gb (GL HQ HQ ?_ (hi := by repeat (first | assumption | exact has0 | apply hasS)))
  refine Gb (Gi HQ HQ (GZ memA v ?_))
  refine Gb (Hh HQ (fun b2 => GT Hi ?_))
  refine qs 7 ?_
  refine Gb (Gz HQ HQ HQ HQ HQ HQ (fun b6 => ?_))
  refine Gb (Gi HQ HQ (pis_c (l := [[43], [45], [33], [94], [42]]) memA (by simp) (fun c7 => ?_) (fun c7 => ?_)))
  ·first | replace h := Kon.pifT c7 h | replace h := Kon.iteT c7 h | replace h := Kon.whenT c7 h | skip
   repeat (first | replace h := Kon.bind h | replace h := Kon.retE h | replace h := Kon.okE h)
   refine qs 5 ?_
   refine Gb (GL HQ HQ ?_ (hi := by repeat (first | assumption | exact has0 | apply hasS)))
   refine Gb (Gu HQ HQ ?_)
   refine qs 3 ?_
   refine Gb (Gu HQ HQ ?_)
   refine qs 5 ?_
   have v2 := Inv.next v w (GS c7)
   refine GO (fun _ => false) [(bp, _, _), (b2, _, _)] bxA HQ (fun hx hX => ?_)
   refine qt [0, 1, 2, 3, 4, 5] ?_
   refine GD (i := 6) HR HQ HQ (fun _ => ?_)
   refine (Gk HQ HQ (rc.unary v2 memA memA (h.go (hr.unary _ v2).go (fun x21 s11 v11 l11 e11 h a11 k11 c11 => ?_) (fun i e hx => HB (Hc (Hc (Hv (by repeat (first | exact Ga _ _ | exact Gc (fun x hx => by repeat (first | exact hx | refine List.mem_cons_of_mem _ ?_)) | refine Ge Gf ?_)) (hx))))))))
   repeat (first | replace h := Kon.bind h | replace h := Kon.retE h | replace h := Kon.okE h)
   refine Gy bxA memB ?_
   refine GD (i := 7) HR HQ HQ (fun _ => ?_)
   refine Gz HQ HQ HQ HQ HQ HQ (fun b22 => ?_)
   refine Gy bxA memB ?_
   refine GD (i := 8) HR HQ HQ (fun _ => ?_)
   refine (Gk HQ HQ (GG w v11 memA memA memA (h.go (GC v11) (fun x23 s12 v12 l12 e12 h a12 k12 c12 => ?_) (fun i e hx => HB (Hc (Hc (Hv (by repeat (first | exact Ga _ _ | exact Gc (fun x hx => by repeat (first | exact hx | refine List.mem_cons_of_mem _ ?_)) | refine Ge Gf ?_)) (hx))))))))
   repeat (first | replace h := Kon.bind h | replace h := Kon.retE h | replace h := Kon.okE h)
   refine Gy bxA memB ?_
   refine qt [9] ?_
   refine GF HR ?_
   refine qs 3 ?_
   exact Gw (Gg (L' := PL T b tv s12 a12 k12 c12 L) (F' := F) Tryz.results76 rfl (by repeat (first | exact Ga _ _ | exact Gc (fun x hx => by repeat (first | exact hx | refine List.mem_cons_of_mem _ ?_)) | refine Ge Gs ?_)) (h _ _ _))
  first | replace h := Kon.pifF c7 h | replace h := Kon.iteF (nott c7) h | replace h := Kon.whenF c7 h | skip
  repeat (first | replace h := Kon.bind h | replace h := Kon.retE h | replace h := Kon.okE h)
  refine qs 7 ?_
  refine Gb (GL HQ HQ ?_ (hi := by repeat (first | assumption | exact has0 | apply hasS)))
  refine Gl (Gk HQ HQ (pprimary_c w rc hr v memA memA (h.go (pprimary_g w hr v).go (fun x25 s13 v13 l13 e13 h a13 k13 c13 => ?_) (fun i e hx => Gm (Gh (Gj (by repeat (first | exact Ga _ _ | exact Gc (fun x hx => by repeat (first | exact hx | refine List.mem_cons_of_mem _ ?_)) | refine Ge Gf ?_)) (hx)))))))
  repeat (first | replace h := Kon.bind h | replace h := Kon.retE h | replace h := Kon.okE h)
  refine qs 4 ?_
  exact Gw (Gg (L' := PL T b tv s13 a13 k13 c13 L) (F' := F) Tryz.results76 rfl (by repeat (first | exact Ga _ _ | exact Gc (fun x hx => by repeat (first | exact hx | refine List.mem_cons_of_mem _ ?_)) | refine Ge Gs ?_)) (h _ _ _))
theorem ptyp_c (v : Inv (T.map Tok.tk) (d + 1) s) (w : Wf (T.map Tok.tk)) (rc : RecC W0 T b tv d r) (hr : RecG (T.map Tok.tk) d r) : PC W0 T b tv L 74 #[pt b] s (pnested (pbare (T.map Tok.tk) r)) vInt := by
  intro F R X a k c mT mN h
  refine ACallsX.body Tryz.func74 HQ Tryz.ntmps74 HQ ?_
  refine qs 9 ?_
  refine Gb (GB HQ HQ HQ ?_)
  refine Gl (Gk HQ HQ (pnested_c v (fi := [pt b]) (cs := []) (fun _ v => pbare_c w rc hr v) (fun _ v => (pbare_g w hr v).go) mT mN (h.mono (fun x s1 h a1 k1 c1 => ?_) (fun i e hx => Gm (Gh (Gj (by repeat (first | exact Ga _ _ | exact Gc (fun x hx => by repeat (first | exact hx | refine List.mem_cons_of_mem _ ?_)) | refine Ge Gf ?_)) (hx)))))))
  refine qs 4 ?_
  exact Gw (Gg (L' := PL T b tv s1 a1 k1 c1 L) (F' := F) Tryz.results74 rfl (by repeat (first | exact Ga _ _ | exact Gc (fun x hx => by repeat (first | exact hx | refine List.mem_cons_of_mem _ ?_)) | refine Ge Gs ?_)) (h _ _ _))
theorem punion_c (v : Inv (T.map Tok.tk) (d + 1) s) (w : Wf (T.map Tok.tk)) (rc : RecC W0 T b tv d r) (hr : RecG (T.map Tok.tk) d r) : PC W0 T b tv L 103 #[pt b] s (pnested (punion (T.map Tok.tk) r)) vInt := by
  intro F R X a k c mT mN h
  refine ACallsX.body Tryz.func103 HQ Tryz.ntmps103 HQ ?_
  refine qs 2 ?_
  refine Gb (GH HQ HQ (fun b1 => GT Hi ?_))
  refine qs 6 ?_
  refine Gb (Hz HQ HQ ?_)
  refine Gl (Gk HQ HQ (pnested_c v (fi := []) (cs := [pt b1]) (fun _ v => punion1_c w rc hr v (i := 0) HQ) (fun _ v => (punion_g w hr v).go) mT mN (h.mono (fun x s1 h a1 k1 c1 => ?_) (fun i e hx => Gm (Gh (Gj (by repeat (first | exact Ga _ _ | exact Gc (fun x hx => by repeat (first | exact hx | refine List.mem_cons_of_mem _ ?_)) | refine Ge Gf ?_)) (hx)))))))
  refine qs 4 ?_
  exact Gw (Gg (L' := PL T b tv s1 a1 k1 c1 L) (F' := F) Tryz.results103 rfl (by repeat (first | exact Ga _ _ | exact Gc (fun x hx => by repeat (first | exact hx | refine List.mem_cons_of_mem _ ?_)) | refine Ge Gs ?_)) (h _ _ _))
theorem punary_c (v : Inv (T.map Tok.tk) (d + 1) s) (w : Wf (T.map Tok.tk)) (rc : RecC W0 T b tv d r) (hr : RecG (T.map Tok.tk) d r) : PC W0 T b tv L 32 #[pt b] s (pnested (punary (T.map Tok.tk) r)) vInt := by
  intro F R X a k c mT mN h
  refine ACallsX.body Tryz.func32 HQ Tryz.ntmps32 HQ ?_
  refine qs 2 ?_
  refine Gb (GH HQ HQ (fun b1 => GT Hi ?_))
  refine qs 6 ?_
  refine Gb (Hz HQ HQ ?_)
  refine Gl (Gk HQ HQ (pnested_c v (fi := []) (cs := [pt b1]) (fun _ v => punary1_c w rc hr v (i := 0) HQ) (fun _ v => (punary_g w hr v).go) mT mN (h.mono (fun x s1 h a1 k1 c1 => ?_) (fun i e hx => Gm (Gh (Gj (by repeat (first | exact Ga _ _ | exact Gc (fun x hx => by repeat (first | exact hx | refine List.mem_cons_of_mem _ ?_)) | refine Ge Gf ?_)) (hx)))))))
  refine qs 4 ?_
  exact Gw (Gg (L' := PL T b tv s1 a1 k1 c1 L) (F' := F) Tryz.results32 rfl (by repeat (first | exact Ga _ _ | exact Gc (fun x hx => by repeat (first | exact hx | refine List.mem_cons_of_mem _ ?_)) | refine Ge Gs ?_)) (h _ _ _))
theorem pexpr_c (v : Inv (T.map Tok.tk) (d + 1) s) (w : Wf (T.map Tok.tk)) (rc : RecC W0 T b tv d r) (hr : RecG (T.map Tok.tk) d r) (n : Nat) : PC W0 T b tv L 15 #[pt b, .int .i64 (n : Int)] s (pnested (pexpr (T.map Tok.tk) r n)) vInt := by
  intro F R X a k c mT mN h
  refine ACallsX.body Tryz.func15 HQ Tryz.ntmps15 HQ ?_
  refine qs 2 ?_
  refine Gb (GH HQ HQ (fun b2 => GT Hi ?_))
  refine Gb (GH HQ HQ (fun b3 => GT Hi ?_))
  refine qs 6 ?_
  refine Gb (Hz HQ HQ ?_)
  refine Gl (Gk HQ HQ (pnested_c v (fi := []) (cs := [pt b2, pt b3]) (fun _ v => pexpr1_c w rc hr n v (i := 1) (j := 0) HQ HQ) (fun _ v => (pexpr_g w hr v n).go) mT mN (h.mono (fun x s1 h a1 k1 c1 => ?_) (fun i e hx => Gm (Gh (Gj (by repeat (first | exact Ga _ _ | exact Gc (fun x hx => by repeat (first | exact hx | refine List.mem_cons_of_mem _ ?_)) | refine Ge Gf ?_)) (hx)))))))
  refine qs 4 ?_
  exact Gw (Gg (L' := PL T b tv s1 a1 k1 c1 L) (F' := F) Tryz.results15 rfl (by repeat (first | exact Ga _ _ | exact Gc (fun x hx => by repeat (first | exact hx | refine List.mem_cons_of_mem _ ?_)) | refine Ge Gs ?_)) (h _ _ _))
theorem pfail6_c (mT : fTk T tv ∈ F) (v : Inv (T.map Tok.tk) 0 s) {f : Value} (h : X (wrong T s.i 6) L F) : ACallsX Tryz.prog W0 30 #[pt b, f] (PL T b tv s a k c L) F R X := by
  have hdp := v.deep
  refine ACallsX.body Tryz.func30 HQ Tryz.ntmps30 HQ ?_
  refine qs 9 ?_
  refine Gb (Gu HQ HQ ?_)
  refine qs 2 ?_
  refine Gb (GA HQ HQ HQ (fun c10 => ?_) (fun c10 => by exfalso; omega))
  refine qs 5 ?_
  refine Gl (Gk HQ HQ (pfail_c mT v 6 (Gm (Gh (Gj (by repeat (first | exact Ga _ _ | exact Gc (fun x hx => by repeat (first | exact hx | refine List.mem_cons_of_mem _ ?_)) | refine Ge Gf ?_)) (h))))))
theorem ptyp0_c (v : Inv (T.map Tok.tk) 0 s) : PC W0 T b tv L 74 #[pt b] s (pfail 6 : PM Int) vInt := by
  intro F R X a k c mT _ h
  refine ACallsX.body Tryz.func74 HQ Tryz.ntmps74 HQ ?_
  refine qs 9 ?_
  refine Gb (GB HQ HQ HQ ?_)
  refine Gl (Gk HQ HQ (pfail6_c mT v (Gm (Gh (Gj (by repeat (first | exact Ga _ _ | exact Gc (fun x hx => by repeat (first | exact hx | refine List.mem_cons_of_mem _ ?_)) | refine Ge Gf ?_)) (h))))))
theorem punion0_c (v : Inv (T.map Tok.tk) 0 s) : PC W0 T b tv L 103 #[pt b] s (pfail 6 : PM Int) vInt := by
  intro F R X a k c mT _ h
  refine ACallsX.body Tryz.func103 HQ Tryz.ntmps103 HQ ?_
  refine qs 2 ?_
  refine Gb (GH HQ HQ (fun b1 => GT Hi ?_))
  refine qs 6 ?_
  refine Gb (Hz HQ HQ ?_)
  refine Gl (Gk HQ HQ (pfail6_c mT v (Gm (Gh (Gj (by repeat (first | exact Ga _ _ | exact Gc (fun x hx => by repeat (first | exact hx | refine List.mem_cons_of_mem _ ?_)) | refine Ge Gf ?_)) (h))))))
theorem punary0_c (v : Inv (T.map Tok.tk) 0 s) : PC W0 T b tv L 32 #[pt b] s (pfail 6 : PM Int) vInt := by
  intro F R X a k c mT _ h
  refine ACallsX.body Tryz.func32 HQ Tryz.ntmps32 HQ ?_
  refine qs 2 ?_
  refine Gb (GH HQ HQ (fun b1 => GT Hi ?_))
  refine qs 6 ?_
  refine Gb (Hz HQ HQ ?_)
  refine Gl (Gk HQ HQ (pfail6_c mT v (Gm (Gh (Gj (by repeat (first | exact Ga _ _ | exact Gc (fun x hx => by repeat (first | exact hx | refine List.mem_cons_of_mem _ ?_)) | refine Ge Gf ?_)) (h))))))
theorem pexpr0_c (v : Inv (T.map Tok.tk) 0 s) (n : Nat) : PC W0 T b tv L 15 #[pt b, .int .i64 (n : Int)] s (pfail 6 : PM Int) vInt := by
  intro F R X a k c mT _ h
  refine ACallsX.body Tryz.func15 HQ Tryz.ntmps15 HQ ?_
  refine qs 2 ?_
  refine Gb (GH HQ HQ (fun b2 => GT Hi ?_))
  refine Gb (GH HQ HQ (fun b3 => GT Hi ?_))
  refine qs 6 ?_
  refine Gb (Hz HQ HQ ?_)
  refine Gl (Gk HQ HQ (pfail6_c mT v (Gm (Gh (Gj (by repeat (first | exact Ga _ _ | exact Gc (fun x hx => by repeat (first | exact hx | refine List.mem_cons_of_mem _ ?_)) | refine Ge Gf ?_)) (h))))))
theorem lev_c (w : Wf (T.map Tok.tk)) : ∀ d, RecC W0 T b tv d (lev (T.map Tok.tk) d)
  | 0 => ⟨fun v => ptyp0_c v, fun v => punion0_c v, fun n _ v => pexpr0_c v n, fun v => punary0_c v⟩
  | d + 1 => ⟨fun v => ptyp_c v w (lev_c w d) (lev_g w d), fun v => punion_c v w (lev_c w d) (lev_g w d), fun n _ v => pexpr_c v w (lev_c w d) (lev_g w d) n, fun v => punary_c v w (lev_c w d) (lev_g w d)⟩
end
end Go.Sy
