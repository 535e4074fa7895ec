/- The library's calls, as the semver texts make them; words; a version's text; which is ahead. -/
import Derived.Test.YtnbpkaffomklpaaGreatDoorSemP
namespace Go.Sy
open Go Go.Proofs Go.RowKit

structure Glob (W0 : World) : Prop where
  big : ∃ m, W0.cell? ⟨0, 0, none⟩ = some (.int .i64 m)
  tab : Lib.TabIs Tryz.prog W0 "internal/strconv.uint64pow10" .u64 Lib.pow10Tab

def joinS (l : List (List UInt8)) : List UInt8 := Lib.join l [46]
theorem dec_len : ∀ (k u : Nat), u < 10 ^ (k + 1) → (Lib.decDigits u).length ≤ k + 1
  | 0, u, h => by
    unfold Lib.decDigits
    have : u < 10 := by simpa using h
    simp [this]
  | k + 1, u, h => by
    unfold Lib.decDigits
    split
    · simp
    · have h2 : u / 10 < 10 ^ (k + 1) := by
        apply Nat.div_lt_of_lt_mul
        have : 10 ^ (k + 1 + 1) = 10 * 10 ^ (k + 1) := by rw [Nat.pow_succ, Nat.mul_comm]
        omega
      have := dec_len k (u / 10) h2
      simp; omega
theorem itoa_len {n : Int} (h : -9223372036854775808 ≤ n ∧ n ≤ 9223372036854775807) : (Lib.itoa n).length ≤ 20 := by
  have e : (10 : Nat) ^ (18 + 1) = 10000000000000000000 := by decide
  unfold Lib.itoa
  split
  · have := dec_len 18 n.natAbs (by omega); simp; omega
  · have := dec_len 18 n.toNat (by omega); omega
theorem join_len {m : Nat} : ∀ (l : List (List UInt8)), (∀ s ∈ l, s.length ≤ m) → (joinS l).length ≤ (m + 1) * l.length
  | [], _ => by simp [joinS, Lib.join, List.intercalate]
  | [s], h => by have := h s (by simp); simp [joinS, Lib.join, List.intercalate]; omega
  | s :: t :: l, h => by
    have ih := join_len (t :: l) (fun x hx => h x (List.mem_cons_of_mem _ hx))
    have hs := h s (by simp)
    have e : joinS (s :: t :: l) = s ++ 46 :: joinS (t :: l) := by simp [joinS, Lib.join, List.intercalate, List.intersperse]
    rw [e]
    simp only [List.length_append, List.length_cons] at ih ⊢
    have : (m + 1) * (l.length + 1 + 1) = (m + 1) * (l.length + 1) + (m + 1) := by rw [Nat.mul_succ]
    omega

theorem splitB_strings (s : List UInt8) : (Lib.splitB ⟨#[46]⟩ 0 (Lib.countB ⟨s.toArray⟩ ⟨#[46]⟩) ⟨s.toArray⟩).map Value.string = (splitD 46 s).map S := by
  have h := Lib.splitB_data ⟨#[46]⟩ 0 (Lib.countB ⟨s.toArray⟩ ⟨#[46]⟩) ⟨s.toArray⟩
  have h2 := split_eq 46 s
  have e : Lib.countB ⟨s.toArray⟩ ⟨#[46]⟩ = Lib.count s [46] := rfl
  rw [e] at h ⊢
  have h3 : (Lib.splitB ⟨#[46]⟩ 0 (Lib.count s [46]) ⟨s.toArray⟩).map (·.data.toList) = splitD 46 s := h.trans h2
  rw [← h3, List.map_map]
  apply List.map_congr_left
  intro x _
  rfl
theorem splitD_count (s : List UInt8) : Lib.countB ⟨s.toArray⟩ ⟨#[46]⟩ + 1 = (splitD 46 s).length := by
  have h := congrArg List.length (splitB_strings s)
  rw [List.length_map, List.length_map] at h
  rw [← h, Lib.splitB_all ⟨#[46]⟩ (by decide) 0 _ _ rfl]

attribute [local irreducible] AC AT AO AK AH ACalls Sub Res.cells Res.obj Res.nix Res.own Exit.then Exit.inBlock bodyPost Code.wp Next Post Kont
section
variable {W0 : World} {L : List Res} {F : List Fact} {R : Value → List Res → List Fact → Prop}
set_option maxRecDepth 100000

theorem Glob.bigAt {w : World} (g : Glob W0) (s : Sat W0 L F w) : ∃ m, w.cell? ⟨0, 0, none⟩ = some (.int .i64 m) := by
  obtain ⟨m, hm⟩ := g.big
  exact ⟨m, cell_of_block (s.below.block _ (cell_block_lt hm)) hm⟩
theorem Glob.tabAt {w : World} (g : Glob W0) (s : Sat W0 L F w) : Lib.TabIs Tryz.prog w "internal/strconv.uint64pow10" .u64 Lib.pow10Tab := by
  have h : World.var? Tryz.prog W0 _ = _ := g.tab
  show World.var? Tryz.prog w _ = _
  unfold World.var? at h ⊢
  cases hg : Tryz.prog.globalNamed "internal/strconv.uint64pow10" with
  | none => rw [hg] at h; simp at h
  | some b =>
    rw [hg] at h
    simp only [Option.bind_some] at h ⊢
    have : b < W0.heap.size := by
      rcases Nat.lt_or_ge b W0.heap.size with k | k
      · exact k
      · rw [Array.getElem?_eq_none k] at h; simp at h
    rw [s.below.block b this]; exact h

theorem cut_c (g : Glob W0) (s : List UInt8) (c : UInt8) (hs : s.length < 4294967281) (h : R (.tuple #[S (cutD c s).1, S (cutD c s).2.1, .bool (cutD c s).2.2]) L F) : ACalls Tryz.prog W0 36 #[S s, S [c]] L F R := by
  refine ACalls.libD (fun w sat => ?_) h
  obtain ⟨m, hm⟩ := g.bigAt sat
  have := Tryz.strings_Cut ⟨s.toArray⟩ ⟨#[c]⟩ m w (by simpa [ByteArray.size] using hs) hm
  have e : Lib.cut (⟨s.toArray⟩ : ByteArray).data.toList (⟨#[c]⟩ : ByteArray).data.toList = cutD c s := cut_eq c s
  rw [e] at this
  exact this
theorem split_c (g : Glob W0) (s : List UInt8) (hs : s.length < 4294967281) (h : ∀ b, R (.slice (some ⟨b, 0, none⟩) (splitD 46 s).length (splitD 46 s).length) L (fS (splitD 46 s) (some ⟨b, 0, none⟩) (splitD 46 s).length (splitD 46 s).length :: F)) :
    ACalls Tryz.prog W0 38 #[S s, S [46]] L F R := by
  have hlen := splitD_len 46 s
  refine ACalls.post (R1 := fun v L1 F1 => ∃ b, v = .slice (some ⟨b, 0, none⟩) (splitD 46 s).length (splitD 46 s).length ∧ L1 = Res.cells b ((splitD 46 s).map S).toArray 9 :: L ∧ F1 = F) (ACalls.libA (fun w sat => ?_) (fun b => ⟨b, rfl, rfl, rfl⟩)) ?_
  · obtain ⟨m, hm⟩ := g.bigAt sat
    have := Tryz.strings_Split ⟨s.toArray⟩ ⟨#[46]⟩ m w (by simpa [ByteArray.size] using hs) hm (by decide)
    rw [splitB_strings, splitD_count] at this
    exact this
  · rintro v L1 F1 ⟨b, rfl, rfl, rfl⟩
    refine ⟨L, _, Sub.trans (Sub.lit (i := 0) (enc := eS) (sz := 1) (splitD 46 s) rfl ?_ (fun _ => rfl) rfl (by simp [maxLen]; omega)) Sub.drop, h b⟩
    generalize splitD 46 s = l
    induction l with
    | nil => exact .nil
    | cons x l ih => exact .val ih
theorem itoa_c (g : Glob W0) (n : Int) (hn : -9223372036854775808 ≤ n ∧ n ≤ 9223372036854775807) (h : R (S (Lib.itoa n)) L F) : ACalls Tryz.prog W0 25 #[.int .i64 n] L F R :=
  ACalls.libG (fun w sat => Tryz.strconv_Itoa n hn.1 hn.2 w (g.tabAt sat)) h
theorem atoi_c (s : List UInt8) (hs : s.length < 4294967281) (hn : numericS s = true) (hv : valS s ≤ 9223372036854775807) (h : R (.tuple #[.int .i64 (valS s : Int), .nilIface]) L F) : ACalls Tryz.prog W0 46 #[S s] L F R :=
  ACalls.lib (fun w sat => (Tryz.strconv_Atoi_ok ⟨s.toArray⟩ (by rw [S_size]; omega) _ (atoi_val hn hv) w).mono fun e w' he => ⟨he.1, by
    rcases he.2 with rfl | ⟨t, rfl⟩
    · exact Below.refl _ _
    · exact Lib.bytesWorld_below _ _ _⟩) h
theorem join_c (l : List (List UInt8)) {a : Option Addr} {k c : Nat} (m1 : fS l a k c ∈ F) (hl : l.length ≤ 8) (hj : (joinS l).length ≤ 1000) (h : R (S (joinS l)) L F) : ACalls Tryz.prog W0 26 #[.slice a k c, S [46]] L F R := by
  refine ACalls.lib (fun w sat => ?_) h
  obtain ⟨a', c', e, hc, hne⟩ := sat.slcAt (en := S) m1
  injection e with e1 e2 e3
  subst e1 e2 e3
  cases l with
  | nil =>
    refine (Tryz.strings_Join_none a c ⟨#[46]⟩ w).mono fun e w' he => ⟨he.1, by rw [he.2]; exact Below.refl _ _⟩
  | cons x l =>
    obtain ⟨b, o, rfl, hb, hcell⟩ := hne (by simp)
    have := Tryz.strings_Join b o c ((x :: l).map fun s => ⟨s.toArray⟩) ⟨#[46]⟩ w (by
      intro j y hy
      rw [List.getElem?_map] at hy
      cases hx : (x :: l)[j]? with
      | none => rw [hx] at hy; simp at hy
      | some z => rw [hx] at hy; simp at hy; subst hy; exact hcell j z hx) hb (by simp at hl ⊢; omega) (by simpa using hc) (by
        have e : ((x :: l).map fun s => (⟨s.toArray⟩ : ByteArray)).map (·.data.toList) = x :: l := by rw [List.map_map]; simp [Function.comp_def]
        rw [e]; show (joinS (x :: l)).length ≤ _; omega)
    have e : ((x :: l).map fun s => (⟨s.toArray⟩ : ByteArray)).map (·.data.toList) = x :: l := by rw [List.map_map]; simp [Function.comp_def]
    rw [e, List.length_map] at this
    exact this
theorem words_c (g : Glob W0) (s : List UInt8) (hs : s.length < 4294967281) (strict : Bool) (h : ∀ a k c, R (.tuple #[.slice a k c, .bool (!(splitD 46 s).any (oddW strict))]) L (fS (splitD 46 s) a k c :: F)) :
    ACalls Tryz.prog W0 37 #[S s, .bool strict] L F R := by
  refine ACalls.body Tryz.func37 rfl Tryz.ntmps37 rfl ?_
  refine AC.seq (AC.region (AL.go (AO.box rfl rfl (fun b3 => ?_))))
  refine AL.go (AO.assign rfl rfl (AL.go (AO.assign rfl rfl (AL.nil (AK.seqN (AC.seq (AC.region ?_)))))))
  refine AL.go (AO.move rfl rfl ?_)
  refine AL.go (AO.call rfl rfl (split_c g s hs (fun b9 => ?_)))
  refine AL.go (AO.assign rfl rfl (AL.nil (AK.seqN (AC.seq (AC.region ?_)))))
  refine AL.go (AO.makeFunc rfl rfl ?_)
  refine AL.go (AO.assign rfl rfl (AL.nil (AK.seqN (AC.seq (AC.region (AL.go (AO.move rfl rfl ?_)))))))
  refine AL.go (AO.move rfl rfl (AL.go (AO.move rfl rfl ?_)))
  refine AL.go (AO.call rfl rfl (containsFunc_c (splitD 46 s) (fun x hx => Nat.lt_of_le_of_lt (splitD_mem 46 s x hx) hs) mem0 _ [.pointer (some ⟨b3, 0, none⟩)] (oddW strict) (fun s hs F' hF' R hT hF => words1_c s hs strict (i := 0) rfl hT hF) (fun c14 => ?_) (fun c14 => ?_)))
  · refine AL.go (AO.not rfl rfl (AL.go (AO.assign rfl rfl (AL.go (AO.assign rfl rfl (AL.nil (AK.seqN (AC.ret ?_))))))))
    refine AK.ret2 (L' := L) (F' := fS (splitD 46 s) _ _ _ :: F) Tryz.results37 rfl rfl (by repeat (first | exact Sub.refl _ _ | refine Sub.trans Sub.drop ?_ | refine Sub.trans Sub.dropF ?_)) ?_
    have hh := h (some ⟨b9, 0, none⟩) (splitD 46 s).length (splitD 46 s).length
    first | (rw [c14] at hh; exact hh)
  · refine AL.go (AO.not rfl rfl (AL.go (AO.assign rfl rfl (AL.go (AO.assign rfl rfl (AL.nil (AK.seqN (AC.ret ?_))))))))
    refine AK.ret2 (L' := L) (F' := fS (splitD 46 s) _ _ _ :: F) Tryz.results37 rfl rfl (by repeat (first | exact Sub.refl _ _ | refine Sub.trans Sub.drop ?_ | refine Sub.trans Sub.dropF ?_)) ?_
    have hh := h (some ⟨b9, 0, none⟩) (splitD 46 s).length (splitD 46 s).length
    first | (rw [c14] at hh; exact hh)
theorem right_bounds {v : Ver} (h : rightV v = true) : v.pre.length ≤ 8 ∧ v.build.length ≤ 8 ∧ (joinS v.pre).length ≤ 328 ∧ (joinS v.build).length ≤ 328 := by
  simp only [rightV, mayS, Bool.and_eq_true, decide_eq_true_eq, Bool.not_eq_true'] at h
  obtain ⟨_, _, _, ⟨h1, h2⟩, h3, h4⟩ := h
  have hp : ∀ (l : List (List UInt8)) (st : Bool), l.any (oddM st) = false → ∀ s ∈ l, s.length ≤ 40 := by
    intro l st hl s hs
    have := List.any_eq_false.1 hl s hs
    simp [oddM] at this
    omega
  have j1 := join_len v.pre (hp _ _ h2)
  have j2 := join_len v.build (hp _ _ h4)
  refine ⟨h1, h3, by omega, by omega⟩
/-- A version's text. -/
def textS (v : Ver) : List UInt8 :=
  Lib.itoa v.major ++ [46] ++ Lib.itoa v.minor ++ [46] ++ Lib.itoa v.patch ++ (if v.pre = [] then [] else 45 :: joinS v.pre) ++ (if v.build = [] then [] else 43 :: joinS v.build)
theorem pos_ne {l : List (List UInt8)} (h : (l.length : Int) > 0) : l ≠ [] := by rintro rfl; simp at h
theorem npos_eq {l : List (List UInt8)} (h : (l.length : Int) ≤ 0) : l = [] := List.eq_nil_of_length_eq_zero (by omega)
theorem text_pp {v : Ver} (h1 : (v.pre.length : Int) > 0) (h2 : (v.build.length : Int) > 0) : textS v = (((((Lib.itoa v.major ++ [46]) ++ Lib.itoa v.minor) ++ [46]) ++ Lib.itoa v.patch) ++ ([45] ++ joinS v.pre)) ++ ([43] ++ joinS v.build) := by
  rw [textS, if_neg (pos_ne h1), if_neg (pos_ne h2)]; rfl
theorem text_p0 {v : Ver} (h1 : (v.pre.length : Int) > 0) (h2 : (v.build.length : Int) ≤ 0) : textS v = (((((Lib.itoa v.major ++ [46]) ++ Lib.itoa v.minor) ++ [46]) ++ Lib.itoa v.patch) ++ ([45] ++ joinS v.pre)) := by
  rw [textS, if_neg (pos_ne h1), if_pos (npos_eq h2), List.append_nil]; rfl
theorem text_0p {v : Ver} (h1 : (v.pre.length : Int) ≤ 0) (h2 : (v.build.length : Int) > 0) : textS v = ((((Lib.itoa v.major ++ [46]) ++ Lib.itoa v.minor) ++ [46]) ++ Lib.itoa v.patch) ++ ([43] ++ joinS v.build) := by
  rw [textS, if_pos (npos_eq h1), if_neg (pos_ne h2), List.append_nil]; rfl
theorem text_00 {v : Ver} (h1 : (v.pre.length : Int) ≤ 0) (h2 : (v.build.length : Int) ≤ 0) : textS v = ((((Lib.itoa v.major ++ [46]) ++ Lib.itoa v.minor) ++ [46]) ++ Lib.itoa v.patch) := by
  rw [textS, if_pos (npos_eq h1), if_pos (npos_eq h2), List.append_nil, List.append_nil]
theorem text_c (g : Glob W0) (v : Ver) (hv : VerOk v) {a1 a2 : Option Addr} {k1 c1 k2 c2 : Nat} (m1 : fS v.pre a1 k1 c1 ∈ F) (m2 : fS v.build a2 k2 c2 ∈ F) (hF : rightV v = false → R (.tuple #[S [], .int .i64 1]) L F) (hT : rightV v = true → R (.tuple #[S (textS v), .int .i64 0]) L F) :
    ACalls Tryz.prog W0 11 #[vVer v a1 k1 c1 a2 k2 c2] L F R := by
  refine ACalls.body Tryz.func11 rfl Tryz.ntmps11 rfl ?_
  refine AC.seq (AC.region (AL.go (AO.box rfl rfl (fun b1 => ?_))))
  refine AL.go (AO.assign rfl rfl (AL.go (AO.assign rfl rfl (AL.nil (AK.seqN (AC.seq (AC.seq ?_)))))))
  refine AC.region ?_
  refine AL.go (AO.loadBA rfl rfl ?_)
  refine AL.go (AO.call rfl rfl (right_c v hv m1 m2 (fun c6 => ?_) (fun c6 => ?_)))
  · refine AL.go (AO.not rfl rfl (AL.nil (AK.seqN (AC.condF rfl (AC.skip (AK.seqN ?_))))))
    refine AC.seq ?_
    refine AC.draw (fun _ => false) [(b1, _, _)] (by repeat (first | exact BxIn.nil | refine BxIn.cons (by repeat (first | exact has0 | apply hasS)) ?_)) rfl (fun hx hX => ?_)
    obtain ⟨hb1, hb2, hb3, hb4⟩ := right_bounds c6
    have hr1 := hv.r1
    have hr2 := hv.r2
    have hr3 := hv.r3
    have hml : 10000 ≤ maxLen := by decide
    have hi1 := itoa_len hv.r1
    have hi2 := itoa_len hv.r2
    have hi3 := itoa_len hv.r3
    refine AH.takeW (i := 0) rfl (Y.field rfl) (by kernel_rfl) rfl rfl ?_
    refine AH.takeS (i := 1) rfl (Y.loadB rfl (by repeat (first | exact List.Mem.head _ | refine List.Mem.tail _ ?_)) (by rfl)) (by kernel_rfl) (by kernel_rfl) rfl rfl rfl ?_
    refine AH.takeW (i := 4) rfl (Y.field rfl) (by kernel_rfl) rfl rfl ?_
    refine AH.takeS (i := 5) rfl (Y.loadB rfl (by repeat (first | exact List.Mem.head _ | refine List.Mem.tail _ ?_)) (by rfl)) (by kernel_rfl) (by kernel_rfl) rfl rfl rfl ?_
    refine AH.takeW (i := 9) rfl (Y.field rfl) (by kernel_rfl) rfl rfl ?_
    refine AH.takeS (i := 10) rfl (Y.loadB rfl (by repeat (first | exact List.Mem.head _ | refine List.Mem.tail _ ?_)) (by rfl)) (by kernel_rfl) (by kernel_rfl) rfl rfl rfl ?_
    refine AH.one (i := 2) (by kernel_rfl) rfl rfl (fun _ => ?_)
    refine AO.call rfl rfl (itoa_c g _ ‹_› ?_)
    refine AT.held (by repeat (first | exact BxIn.nil | refine BxIn.cons (by repeat (first | exact has0 | apply hasS)) ?_)) (by repeat (first | exact mem0 | refine memS ?_)) ?_
    refine AH.takeW (i := 3) rfl (Y.addS rfl rfl (by first | omega | (simp; omega))) (by kernel_rfl) rfl rfl ?_
    refine AH.one (i := 6) (by kernel_rfl) rfl rfl (fun _ => ?_)
    refine AO.call rfl rfl (itoa_c g _ ‹_› ?_)
    refine AT.held (by repeat (first | exact BxIn.nil | refine BxIn.cons (by repeat (first | exact has0 | apply hasS)) ?_)) (by repeat (first | exact mem0 | refine memS ?_)) ?_
    refine AH.takeW (i := 7) rfl (Y.addS rfl rfl (by first | omega | (simp; omega))) (by kernel_rfl) rfl rfl ?_
    refine AH.takeW (i := 8) rfl (Y.addS rfl rfl (by first | omega | (simp; omega))) (by kernel_rfl) rfl rfl ?_
    refine AH.one (i := 11) (by kernel_rfl) rfl rfl (fun _ => ?_)
    refine AO.call rfl rfl (itoa_c g _ ‹_› ?_)
    refine AT.held (by repeat (first | exact BxIn.nil | refine BxIn.cons (by repeat (first | exact has0 | apply hasS)) ?_)) (by repeat (first | exact mem0 | refine memS ?_)) ?_
    refine AH.takeW (i := 12) rfl (Y.addS rfl rfl (by first | omega | (simp; omega))) (by kernel_rfl) rfl rfl ?_
    refine AH.takeW (i := 13) rfl (Y.assign rfl) (by kernel_rfl) rfl rfl ?_
    refine AH.done (by kernel_rfl) ?_
    refine AK.seqN (AC.seq (AC.seq (AC.region (AL.go (AO.field rfl rfl ?_)))))
    refine AL.go (AO.loadB rfl rfl ?_)
    refine AL.go (AO.len rfl rfl (fun hl23 => ?_) (hm := by repeat (first | exact mem0 | assumption | refine memS ?_)))
    refine AL.go (AO.gtr rfl rfl rfl (fun c24 => ?_) (fun c24 => ?_))
    · refine AL.nil (AK.seqN (AC.condT rfl (AC.region (AL.go (AO.move rfl rfl (AL.go (AO.field rfl rfl ?_)))))))
      refine AL.go (AO.loadB rfl rfl ?_)
      refine AL.go (AO.call rfl rfl (join_c v.pre (by repeat (first | exact mem0 | assumption | refine memS ?_)) (by omega) (by omega) ?_))
      refine AL.go (AO.addS rfl rfl rfl (by first | omega | (simp; omega)) (AL.go (AO.addS rfl rfl rfl (by first | omega | (simp; omega)) (AL.go (AO.assign rfl rfl (AL.nil (AK.seqN (AC.seq ?_))))))))
      refine AC.seq (AC.region (AL.go (AO.field rfl rfl ?_)))
      refine AL.go (AO.loadB rfl rfl ?_)
      refine AL.go (AO.len rfl rfl (fun hl33 => ?_) (hm := by repeat (first | exact mem0 | assumption | refine memS ?_)))
      refine AL.go (AO.gtr rfl rfl rfl (fun c34 => ?_) (fun c34 => ?_))
      · refine AL.nil (AK.seqN (AC.condT rfl (AC.region (AL.go (AO.move rfl rfl (AL.go (AO.field rfl rfl ?_)))))))
        refine AL.go (AO.loadB rfl rfl ?_)
        refine AL.go (AO.call rfl rfl (join_c v.build (by repeat (first | exact mem0 | assumption | refine memS ?_)) (by omega) (by omega) ?_))
        refine AL.go (AO.addS rfl rfl rfl (by first | omega | (simp; omega)) (AL.go (AO.addS rfl rfl rfl (by first | omega | (simp; omega)) (AL.go (AO.assign rfl rfl (AL.nil (AK.seqN (AC.seq ?_))))))))
        refine AC.region (AL.go (AO.move rfl rfl (AL.go (AO.assign rfl rfl (AL.go (AO.assign rfl rfl (AL.nil (AK.seqN ?_))))))))
        refine AC.ret ?_
        first | exact AK.ret2 (L' := L) (F' := F) Tryz.results11 rfl rfl (by repeat (first | exact Sub.refl _ _ | refine Sub.trans Sub.drop ?_ | refine Sub.trans Sub.dropF ?_)) (hF c6) | refine AK.ret2 (L' := L) (F' := F) Tryz.results11 rfl rfl (by repeat (first | exact Sub.refl _ _ | refine Sub.trans Sub.drop ?_ | refine Sub.trans Sub.dropF ?_)) ?_
        first | done | exact text_pp c24 c34 ▸ hT c6 | exact text_p0 c24 c34 ▸ hT c6 | exact text_0p c24 c34 ▸ hT c6 | exact text_00 c24 c34 ▸ hT c6
      · refine AL.nil (AK.seqN (AC.condF rfl (AC.skip (AK.seqN (AC.seq ?_)))))
        refine AC.region (AL.go (AO.move rfl rfl (AL.go (AO.assign rfl rfl (AL.go (AO.assign rfl rfl (AL.nil (AK.seqN ?_))))))))
        refine AC.ret ?_
        first | exact AK.ret2 (L' := L) (F' := F) Tryz.results11 rfl rfl (by repeat (first | exact Sub.refl _ _ | refine Sub.trans Sub.drop ?_ | refine Sub.trans Sub.dropF ?_)) (hF c6) | refine AK.ret2 (L' := L) (F' := F) Tryz.results11 rfl rfl (by repeat (first | exact Sub.refl _ _ | refine Sub.trans Sub.drop ?_ | refine Sub.trans Sub.dropF ?_)) ?_
        first | done | exact text_pp c24 c34 ▸ hT c6 | exact text_p0 c24 c34 ▸ hT c6 | exact text_0p c24 c34 ▸ hT c6 | exact text_00 c24 c34 ▸ hT c6
    · refine AL.nil (AK.seqN (AC.condF rfl (AC.skip (AK.seqN (AC.seq ?_)))))
      refine AC.seq (AC.region (AL.go (AO.field rfl rfl ?_)))
      refine AL.go (AO.loadB rfl rfl ?_)
      refine AL.go (AO.len rfl rfl (fun hl33 => ?_) (hm := by repeat (first | exact mem0 | assumption | refine memS ?_)))
      refine AL.go (AO.gtr rfl rfl rfl (fun c34 => ?_) (fun c34 => ?_))
      · refine AL.nil (AK.seqN (AC.condT rfl (AC.region (AL.go (AO.move rfl rfl (AL.go (AO.field rfl rfl ?_)))))))
        refine AL.go (AO.loadB rfl rfl ?_)
        refine AL.go (AO.call rfl rfl (join_c v.build (by repeat (first | exact mem0 | assumption | refine memS ?_)) (by omega) (by omega) ?_))
        refine AL.go (AO.addS rfl rfl rfl (by first | omega | (simp; omega)) (AL.go (AO.addS rfl rfl rfl (by first | omega | (simp; omega)) (AL.go (AO.assign rfl rfl (AL.nil (AK.seqN (AC.seq ?_))))))))
        refine AC.region (AL.go (AO.move rfl rfl (AL.go (AO.assign rfl rfl (AL.go (AO.assign rfl rfl (AL.nil (AK.seqN ?_))))))))
        refine AC.ret ?_
        first | exact AK.ret2 (L' := L) (F' := F) Tryz.results11 rfl rfl (by repeat (first | exact Sub.refl _ _ | refine Sub.trans Sub.drop ?_ | refine Sub.trans Sub.dropF ?_)) (hF c6) | refine AK.ret2 (L' := L) (F' := F) Tryz.results11 rfl rfl (by repeat (first | exact Sub.refl _ _ | refine Sub.trans Sub.drop ?_ | refine Sub.trans Sub.dropF ?_)) ?_
        first | done | exact text_pp c24 c34 ▸ hT c6 | exact text_p0 c24 c34 ▸ hT c6 | exact text_0p c24 c34 ▸ hT c6 | exact text_00 c24 c34 ▸ hT c6
      · refine AL.nil (AK.seqN (AC.condF rfl (AC.skip (AK.seqN (AC.seq ?_)))))
        refine AC.region (AL.go (AO.move rfl rfl (AL.go (AO.assign rfl rfl (AL.go (AO.assign rfl rfl (AL.nil (AK.seqN ?_))))))))
        refine AC.ret ?_
        first | exact AK.ret2 (L' := L) (F' := F) Tryz.results11 rfl rfl (by repeat (first | exact Sub.refl _ _ | refine Sub.trans Sub.drop ?_ | refine Sub.trans Sub.dropF ?_)) (hF c6) | refine AK.ret2 (L' := L) (F' := F) Tryz.results11 rfl rfl (by repeat (first | exact Sub.refl _ _ | refine Sub.trans Sub.drop ?_ | refine Sub.trans Sub.dropF ?_)) ?_
        first | done | exact text_pp c24 c34 ▸ hT c6 | exact text_p0 c24 c34 ▸ hT c6 | exact text_0p c24 c34 ▸ hT c6 | exact text_00 c24 c34 ▸ hT c6
  · refine AL.go (AO.not rfl rfl (AL.nil (AK.seqN (AC.condT rfl (AC.seq (AC.region ?_))))))
    refine AL.go (AO.assign rfl rfl (AL.go (AO.assign rfl rfl (AL.nil (AK.seqN (AC.ret (AK.seqR ?_)))))))
    first | exact AK.ret2 (L' := L) (F' := F) Tryz.results11 rfl rfl (by repeat (first | exact Sub.refl _ _ | refine Sub.trans Sub.drop ?_ | refine Sub.trans Sub.dropF ?_)) (hF c6) | refine AK.ret2 (L' := L) (F' := F) Tryz.results11 rfl rfl (by repeat (first | exact Sub.refl _ _ | refine Sub.trans Sub.drop ?_ | refine Sub.trans Sub.dropF ?_)) ?_
    first | done | exact text_pp c24 c34 ▸ hT c6 | exact text_p0 c24 c34 ▸ hT c6 | exact text_0p c24 c34 ▸ hT c6 | exact text_00 c24 c34 ▸ hT c6
end
end Go.Sy
