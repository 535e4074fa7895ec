/- What is read is written, and what is written is read. No program in sight. -/
import Derived.Test.YtnbpkaffomklpaaDoorSem7
import Derived.Test.YtnbpkaffomklpaaDoorSemQ
namespace Go.Sy
open Go

/-! ### Numbers -/
theorem valFrom_snoc (n : Nat) (a : List UInt8) (d : UInt8) : valFrom n (a ++ [d]) = 10 * valFrom n a + (d.toNat - 48) := by
  simp [valFrom, List.foldl_append]
theorem of48 {u : Nat} (h : u < 10) : (UInt8.ofNat (48 + u)).toNat = 48 + u := by
  rw [UInt8.toNat_ofNat']; omega
theorem dec_small {u : Nat} (h : u < 10) : Lib.decDigits u = [UInt8.ofNat (48 + u)] := by rw [Lib.decDigits, dif_pos h]
theorem dec_big {u : Nat} (h : ¬ u < 10) : Lib.decDigits u = Lib.decDigits (u / 10) ++ [UInt8.ofNat (48 + u % 10)] := by rw [Lib.decDigits, dif_neg h]
theorem digit_of {u : Nat} (h : u < 10) : digitC (UInt8.ofNat (48 + u)) = true := by
  unfold digitC; rw [of48 h]; simp; omega
theorem dec_all : ∀ u : Nat, (Lib.decDigits u).all digitC = true ∧ valS (Lib.decDigits u) = u ∧ Lib.decDigits u ≠ [] ∧ (0 < u → (Lib.decDigits u).headD 0 ≠ 48) := by
  intro u
  induction u using Nat.strongRecOn with
  | ind u ih =>
    by_cases h : u < 10
    · rw [dec_small h]
      refine ⟨by (show (digitC (UInt8.ofNat (48 + u)) && true) = true; rw [digit_of h]; rfl), ?_, by simp, fun h0 e => ?_⟩
      · show 10 * 0 + ((UInt8.ofNat (48 + u)).toNat - 48) = u
        rw [of48 h]; omega
      · have e' : UInt8.ofNat (48 + u) = 48 := e
        have := congrArg UInt8.toNat e'
        rw [of48 h] at this
        have h48 : (48 : UInt8).toNat = 48 := rfl
        omega
    · obtain ⟨i1, i2, i3, i4⟩ := ih (u / 10) (by omega)
      rw [dec_big h]
      have hm : u % 10 < 10 := Nat.mod_lt _ (by decide)
      refine ⟨by (rw [List.all_append, i1]; show (true && (digitC (UInt8.ofNat (48 + u % 10)) && true)) = true; rw [digit_of hm]; rfl), ?_, by simp, fun h0 => ?_⟩
      · show valFrom 0 _ = u
        rw [valFrom_snoc, of48 hm]
        have : valFrom 0 (Lib.decDigits (u / 10)) = u / 10 := i2
        omega
      · cases hd : Lib.decDigits (u / 10) with
        | nil => exact absurd hd i3
        | cons x r =>
          have := i4 (by omega)
          rw [hd] at this
          exact this
theorem val_dec : ∀ (k : Nat) (s : List UInt8), s.length = k + 1 → s.all digitC = true → s.headD 0 ≠ 48 → 0 < valS s ∧ Lib.decDigits (valS s) = s := by
  intro k
  induction k with
  | zero =>
    intro s hl ha hh
    match s, hl with
    | [d], _ =>
      have hd : 48 ≤ d.toNat ∧ d.toNat ≤ 57 := by simpa [digitC] using ha
      have hne : d ≠ 48 := hh
      have hne' : d.toNat ≠ 48 := fun e => hne (UInt8.toNat_inj.1 e)
      have hv : valS [d] = d.toNat - 48 := by show 10 * 0 + _ = _; omega
      rw [hv]
      refine ⟨by omega, ?_⟩
      rw [dec_small (by omega)]
      congr 1
      apply UInt8.toNat_inj.1
      rw [of48 (by omega)]; omega
  | succ k ih =>
    intro s hl ha hh
    have hne : s ≠ [] := by rintro rfl; simp at hl
    obtain ⟨a, d, rfl⟩ : ∃ a d, s = a ++ [d] := ⟨s.dropLast, s.getLast hne, (List.dropLast_concat_getLast hne).symm⟩
    simp only [List.length_append, List.length_cons, List.length_nil] at hl
    simp only [List.all_append, List.all_cons, List.all_nil, Bool.and_true, Bool.and_eq_true] at ha
    have hal : a.length = k + 1 := by omega
    have hah : a.headD 0 ≠ 48 := by
      cases a with
      | nil => simp at hal
      | cons x r => exact hh
    obtain ⟨p, e⟩ := ih a hal ha.1 hah
    have hd : 48 ≤ d.toNat ∧ d.toNat ≤ 57 := by simpa [digitC] using ha.2
    have hv : valS (a ++ [d]) = 10 * valS a + (d.toNat - 48) := valFrom_snoc 0 a d
    rw [hv]
    refine ⟨by omega, ?_⟩
    rw [dec_big (by omega), show (10 * valS a + (d.toNat - 48)) / 10 = valS a by omega, e, show (10 * valS a + (d.toNat - 48)) % 10 = d.toNat - 48 by omega]
    congr 2
    apply UInt8.toNat_inj.1
    rw [of48 (by omega)]; omega
theorem dec_number (u : Nat) : numberS (Lib.decDigits u) = true := by
  obtain ⟨h1, h2, h3, h4⟩ := dec_all u
  have hn : numericS (Lib.decDigits u) = true := by
    unfold numericS; rw [h1]; cases h : Lib.decDigits u with
    | nil => exact absurd h h3
    | cons x r => rfl
  unfold numberS
  rw [hn]
  rcases Nat.eq_zero_or_pos u with rfl | h0
  · rw [dec_small (by decide)]; rfl
  · simp only [Bool.true_and, Bool.or_eq_true, bne_iff_ne]
    exact Or.inr (h4 h0)
theorem number_dec {s : List UInt8} (h : numberS s = true) : Lib.decDigits (valS s) = s := by
  unfold numberS at h
  simp only [Bool.and_eq_true, Bool.or_eq_true, beq_iff_eq, bne_iff_ne] at h
  obtain ⟨h1, h2⟩ := h
  simp only [numericS, Bool.and_eq_true] at h1
  rcases h2 with rfl | h2
  · exact dec_small (by decide)
  · cases s with
    | nil => simp at h1
    | cons x r => exact (val_dec r.length (x :: r) rfl h1.1 h2).2
theorem number_fits {s : List UInt8} (h : numberS s = true) (hv : valS s ≤ 9223372036854775807) : fitsS s = true := by
  have hn := h
  unfold numberS at hn
  simp only [Bool.and_eq_true, Bool.or_eq_true, beq_iff_eq, bne_iff_ne] at hn
  obtain ⟨h1, h2⟩ := hn
  simp only [numericS, Bool.and_eq_true] at h1
  rcases h2 with rfl | h2
  · decide
  · have hd := h1.1
    have hg : greatest.all digitC = true := by decide
    have hgv : valFrom 0 greatest = 9223372036854775807 := by decide
    have hgl : greatest.length = 19 := by decide
    have hlen : s.length ≤ 19 := by
      cases s with
      | nil => simp
      | cons x r =>
        rcases Nat.lt_or_ge 19 (x :: r).length with hl | hl
        · exfalso
          simp only [List.all_cons, Bool.and_eq_true] at hd
          have hx : 48 ≤ x.toNat ∧ x.toNat ≤ 57 := by simpa [digitC] using hd.1
          have hx' : x.toNat ≠ 48 := fun e => h2 (UInt8.toNat_inj.1 e)
          have g1 := valFrom_le r (10 * 0 + (x.toNat - 48))
          have g2 : valFrom 0 (x :: r) = valFrom (10 * 0 + (x.toNat - 48)) r := rfl
          have g3 : 10 ^ 19 ≤ 10 ^ r.length := Nat.pow_le_pow_right (by decide) (by simp at hl; omega)
          have g4 : 1 * 10 ^ r.length ≤ (10 * 0 + (x.toNat - 48)) * 10 ^ r.length := Nat.mul_le_mul_right _ (by omega)
          have g5 : (10 : Nat) ^ 19 = 10000000000000000000 := by decide
          have : valFrom 0 (x :: r) ≤ 9223372036854775807 := hv
          omega
        · exact hl
    unfold fitsS
    apply decide_eq_true
    unfold lowerS firstI
    rcases Nat.lt_or_ge s.length 19 with hl | hl
    · have e : Lib.compareInt (s.length : Int) (greatest.length : Int) = -1 := by rw [hgl]; unfold Lib.compareInt; rw [if_pos (by omega)]
      rw [e]; simp
    · have hl19 : s.length = 19 := by omega
      have e : Lib.compareInt (s.length : Int) (greatest.length : Int) = 0 := by rw [hl19, hgl]; decide
      rw [e]
      have key : ¬ cmpS s greatest = 1 := by
        intro hc
        have hc2 : cmpS greatest s = -1 := by rw [cmS.anti, hc]
        have hb : Op.bytesLess greatest s = true := by
          unfold cmpS at hc2
          by_cases hb : Op.bytesLess greatest s = true
          · exact hb
          · rw [if_neg hb] at hc2; split at hc2 <;> exact absurd hc2 (by decide)
        have := val_less greatest s 0 (by omega) hg hd hb
        have h5 : valFrom 0 s ≤ 9223372036854775807 := hv
        omega
      have h3 : cmpS s greatest = -1 ∨ cmpS s greatest = 0 ∨ cmpS s greatest = 1 := by
        unfold cmpS
        repeat' split
        all_goals simp
      rcases h3 with h3 | h3 | h3
      · rw [h3]; decide
      · rw [h3]; decide
      · exact absurd h3 key
theorem itoa_nat (n : Nat) : Lib.itoa (n : Int) = Lib.decDigits n := by unfold Lib.itoa; rw [if_neg (by omega)]; rfl

/-! ### Parting and cutting -/
theorem join1 (x : List UInt8) : joinS [x] = x := Lib.join_one x _
theorem join2 (x y : List UInt8) (l : List (List UInt8)) : joinS (x :: y :: l) = x ++ 46 :: joinS (y :: l) := by
  simp [joinS, Lib.join, List.intercalate, List.intersperse]
theorem split_none : ∀ x : List UInt8, 46 ∉ x → splitD 46 x = [x]
  | [], _ => rfl
  | b :: x, h => by
    have h1 : b ≠ 46 := fun e => h (by rw [e]; exact .head _)
    have h2 := split_none x (fun e => h (.tail _ e))
    simp only [splitD, if_neg h1, h2]
theorem split_at : ∀ (x r : List UInt8), 46 ∉ x → splitD 46 (x ++ 46 :: r) = x :: splitD 46 r
  | [], r, _ => by simp [splitD]
  | b :: x, r, h => by
    have h1 : b ≠ 46 := fun e => h (by rw [e]; exact .head _)
    have h2 := split_at x r (fun e => h (.tail _ e))
    simp only [List.cons_append, splitD, if_neg h1, h2]
theorem split_join : ∀ (l : List (List UInt8)), l ≠ [] → (∀ x ∈ l, 46 ∉ x) → splitD 46 (joinS l) = l
  | [], h, _ => absurd rfl h
  | [x], _, h => by rw [join1, split_none x (h x (by simp))]
  | x :: y :: l, _, h => by
    rw [join2, split_at _ _ (h x (by simp)), split_join (y :: l) (by simp) (fun z hz => h z (.tail _ hz))]
theorem join_split : ∀ s : List UInt8, joinS (splitD 46 s) = s
  | [] => join1 []
  | b :: s => by
    have ih := join_split s
    have hn := splitD_ne 46 s
    simp only [splitD]
    cases hs : splitD 46 s with
    | nil => exact absurd hs hn
    | cons y l =>
      rw [hs] at ih
      split
      · rename_i hb; rw [join2, ih, hb]; rfl
      · cases l with
        | nil => rw [join1] at ih; rw [join1, ih]
        | cons z l => rw [join2] at ih; rw [join2, ← ih]; rfl
theorem cut_none (c : UInt8) : ∀ s : List UInt8, c ∉ s → cutD c s = (s, [], false)
  | [], _ => rfl
  | b :: s, h => by
    have h1 : b ≠ c := fun e => h (by rw [e]; exact .head _)
    have h2 := cut_none c s (fun e => h (.tail _ e))
    simp only [cutD, if_neg h1, h2]
theorem cut_at (c : UInt8) : ∀ (s r : List UInt8), c ∉ s → cutD c (s ++ c :: r) = (s, r, true)
  | [], r, _ => by simp [cutD]
  | b :: s, r, h => by
    have h1 : b ≠ c := fun e => h (by rw [e]; exact .head _)
    have h2 := cut_at c s r (fun e => h (.tail _ e))
    simp only [List.cons_append, cutD, if_neg h1, h2]
theorem cut_back (c : UInt8) : ∀ s : List UInt8, ((cutD c s).2.2 = true → s = (cutD c s).1 ++ c :: (cutD c s).2.1) ∧ ((cutD c s).2.2 = false → (cutD c s).1 = s)
  | [] => ⟨fun h => (by simp [cutD] at h), fun _ => rfl⟩
  | b :: s => by
    have ih := cut_back c s
    by_cases h : b = c
    · subst h
      refine ⟨fun _ => ?_, fun h2 => ?_⟩
      · simp [cutD]
      · simp [cutD] at h2
    · simp only [cutD, if_neg h]
      refine ⟨fun h2 => ?_, fun h2 => ?_⟩
      · rw [List.cons_append, ← ih.1 h2]
      · rw [ih.2 h2]

/-! ### Words -/
theorem word_not {x : List UInt8} (h : wordS x = true) : 43 ∉ x ∧ 46 ∉ x := by
  simp only [wordS, Bool.and_eq_true, List.all_eq_true] at h
  refine ⟨fun e => ?_, fun e => ?_⟩
  · exact absurd (h.1 _ e) (by decide)
  · exact absurd (h.1 _ e) (by decide)
theorem digits_not {x : List UInt8} (h : x.all digitC = true) : 43 ∉ x ∧ 45 ∉ x ∧ 46 ∉ x := by
  simp only [List.all_eq_true] at h
  refine ⟨fun e => ?_, fun e => ?_, fun e => ?_⟩
  · exact absurd (h _ e) (by decide)
  · exact absurd (h _ e) (by decide)
  · exact absurd (h _ e) (by decide)
theorem join_not (c : UInt8) (hc : c ≠ 46) : ∀ l : List (List UInt8), (∀ x ∈ l, c ∉ x) → c ∉ joinS l
  | [], _ => by simp [joinS, Lib.join, List.intercalate]
  | [x], h => by rw [join1]; exact h x (by simp)
  | x :: y :: l, h => by
    rw [join2]
    have ih := join_not c hc (y :: l) (fun z hz => h z (.tail _ hz))
    have hx := h x (by simp)
    simp only [List.mem_append, List.mem_cons, not_or]
    exact ⟨hx, hc, ih⟩
theorem may_is {l : List (List UInt8)} {b : Bool} : mayS l b = true ↔ l.length ≤ 8 ∧ l.any (oddM b) = false := by
  unfold mayS; simp only [Bool.and_eq_true, decide_eq_true_eq, Bool.not_eq_true']
theorem any_split {α : Type} (p q : α → Bool) (l : List α) : l.any (fun x => p x || q x) = (l.any p || l.any q) := by
  induction l with
  | nil => rfl
  | cons x l ih => simp only [List.any_cons, ih]; cases p x <;> cases q x <;> cases l.any p <;> cases l.any q <;> rfl
theorem odd_false (l : List (List UInt8)) : l.any (oddM false) = (l.any (oddW false) || l.any longS) := by
  rw [← any_split]; congr 1; funext x
  unfold oddM oddW longS; simp
theorem odd_true (l : List (List UInt8)) : l.any (oddM true) = ((l.any (oddW true) || l.any longS) || l.any greatS) := by
  rw [← any_split, ← any_split]; congr 1; funext x
  unfold oddM oddW longS greatS
  cases wordS x <;> cases numericS x <;> cases numberS x <;> cases fitsS x <;> simp
theorem odd_word {l : List (List UInt8)} {b : Bool} (h : l.any (oddW b) = false) : ∀ x ∈ l, wordS x = true := by
  intro x hx
  have := List.any_eq_false.1 h x hx
  unfold oddW at this
  cases hw : wordS x with
  | true => rfl
  | false => rw [hw] at this; simp at this

/-! ### The core -/
abbrev coreS (a b c : List UInt8) : List UInt8 := a ++ [46] ++ b ++ [46] ++ c
theorem core_join (a b c : List UInt8) : coreS a b c = joinS [a, b, c] := by rw [join2, join2, join1]; simp [coreS]
theorem textS_eq (v : Ver) : textS v = (joinS [Lib.itoa v.major, Lib.itoa v.minor, Lib.itoa v.patch] ++ (if v.pre = [] then [] else 45 :: joinS v.pre)) ++ (if v.build = [] then [] else 43 :: joinS v.build) := by
  rw [← core_join]; rfl
theorem parseT_ok {pr bl l : List (List UInt8)} (h1 : l.length = 3) (h2 : l.any (fun x => !numberS x) = false) (h3 : pr.length ≤ 8) (h4 : bl.length ≤ 8) (h5 : pr.any longS = false) (h6 : bl.any longS = false) (h7 : l.any greatS = false) (h8 : pr.any greatS = false) :
    parseT pr bl l = (⟨valS (l.getD 0 []), valS (l.getD 1 []), valS (l.getD 2 []), pr, bl⟩, 0) := pT9 (by omega) h2 (by omega) (by omega) h5 h6 h7 h8
theorem parseT_back {pr bl l : List (List UInt8)} {V : Ver} (h : parseT pr bl l = (V, 0)) :
    l.length = 3 ∧ l.any (fun x => !numberS x) = false ∧ pr.length ≤ 8 ∧ bl.length ≤ 8 ∧ pr.any longS = false ∧ bl.any longS = false ∧ l.any greatS = false ∧ pr.any greatS = false ∧ V = ⟨valS (l.getD 0 []), valS (l.getD 1 []), valS (l.getD 2 []), pr, bl⟩ := by
  unfold parseT at h
  by_cases h1 : l.length = 3
  · rw [if_neg (by omega)] at h
    by_cases h2 : l.any (fun x => !numberS x) = true
    · rw [if_pos h2] at h; exact absurd h (by simp)
    rw [if_neg h2] at h
    by_cases h3 : 8 < pr.length
    · rw [if_pos h3] at h; exact absurd h (by simp)
    rw [if_neg h3] at h
    by_cases h4 : 8 < bl.length
    · rw [if_pos h4] at h; exact absurd h (by simp)
    rw [if_neg h4] at h
    by_cases h5 : pr.any longS = true
    · rw [if_pos h5] at h; exact absurd h (by simp)
    rw [if_neg h5] at h
    by_cases h6 : bl.any longS = true
    · rw [if_pos h6] at h; exact absurd h (by simp)
    rw [if_neg h6] at h
    by_cases h7 : l.any greatS = true
    · rw [if_pos h7] at h; exact absurd h (by simp)
    rw [if_neg h7] at h
    by_cases h8 : pr.any greatS = true
    · rw [if_pos h8] at h; exact absurd h (by simp)
    rw [if_neg h8] at h
    simp only [Bool.not_eq_true] at h2 h5 h6 h7 h8
    exact ⟨h1, h2, by omega, by omega, h5, h6, h7, h8, (congrArg Prod.fst h).symm⟩
  · rw [if_pos h1] at h; exact absurd h (by simp)

/-- WHAT IS WRITTEN IS READ. -/
theorem written_read {v : Ver} (hv : VerOk v) (hr : rightV v = true) : parseS (textS v) = (v, 0) := by
  have hr' := hr
  unfold rightV at hr'
  simp only [Bool.and_eq_true, decide_eq_true_eq] at hr'
  obtain ⟨g1, g2, g3, g4, g5⟩ := hr'
  obtain ⟨p1, p2⟩ := may_is.1 g4
  obtain ⟨b1, b2⟩ := may_is.1 g5
  rw [odd_true] at p2
  rw [odd_false] at b2
  simp only [Bool.or_eq_false_iff] at p2 b2
  obtain ⟨⟨p3, p4⟩, p5⟩ := p2
  obtain ⟨b3, b4⟩ := b2
  have pw := odd_word p3
  have bw := odd_word b3
  obtain ⟨M, hM⟩ : ∃ M : Nat, v.major = M := ⟨v.major.toNat, by omega⟩
  obtain ⟨N, hN⟩ : ∃ N : Nat, v.minor = N := ⟨v.minor.toNat, by omega⟩
  obtain ⟨K, hK⟩ : ∃ K : Nat, v.patch = K := ⟨v.patch.toNat, by omega⟩
  have hr1 := hv.r1
  have hr2 := hv.r2
  have hr3 := hv.r3
  have dM := dec_all M
  have dN := dec_all N
  have dK := dec_all K
  have nM := digits_not dM.1
  have nN := digits_not dN.1
  have nK := digits_not dK.1
  rw [textS_eq, hM, hN, hK, itoa_nat, itoa_nat, itoa_nat]
  have mem3 : ∀ (P : List UInt8 → Prop), P (Lib.decDigits M) → P (Lib.decDigits N) → P (Lib.decDigits K) → ∀ x ∈ [Lib.decDigits M, Lib.decDigits N, Lib.decDigits K], P x := by
    intro P q1 q2 q3 x hx
    simp only [List.mem_cons, List.mem_nil_iff, or_false] at hx
    rcases hx with rfl | rfl | rfl <;> assumption
  have c43 := join_not 43 (by decide) [Lib.decDigits M, Lib.decDigits N, Lib.decDigits K] (mem3 _ nM.1 nN.1 nK.1)
  have c45 := join_not 45 (by decide) [Lib.decDigits M, Lib.decDigits N, Lib.decDigits K] (mem3 _ nM.2.1 nN.2.1 nK.2.1)
  have c46 := split_join [Lib.decDigits M, Lib.decDigits N, Lib.decDigits K] (by simp) (mem3 _ nM.2.2 nN.2.2 nK.2.2)
  generalize hcore : joinS [Lib.decDigits M, Lib.decDigits N, Lib.decDigits K] = core at c43 c45 c46
  have hp43 : 43 ∉ core ++ (if v.pre = [] then [] else 45 :: joinS v.pre) := by
    split
    · simpa using c43
    · have := join_not 43 (by decide) v.pre (fun x hx => (word_not (pw x hx)).1)
      simp only [List.mem_append, List.mem_cons, not_or]
      exact ⟨c43, by decide, this⟩
  have fin : ∀ pr bl, pr = v.pre → bl = v.build → parseT pr bl [Lib.decDigits M, Lib.decDigits N, Lib.decDigits K] = (v, 0) := by
    rintro _ _ rfl rfl
    have f1 : numberS (Lib.decDigits M) = true := dec_number M
    have f2 : numberS (Lib.decDigits N) = true := dec_number N
    have f3 : numberS (Lib.decDigits K) = true := dec_number K
    have q1 := number_fits f1 (by rw [dM.2.1]; omega)
    have q2 := number_fits f2 (by rw [dN.2.1]; omega)
    have q3 := number_fits f3 (by rw [dK.2.1]; omega)
    rw [parseT_ok rfl (by simp [f1, f2, f3]) p1 b1 p4 b4 (by simp [greatS, q1, q2, q3]) p5]
    have e1 : ((valS (Lib.decDigits M) : Nat) : Int) = v.major := by rw [dM.2.1, hM]
    have e2 : ((valS (Lib.decDigits N) : Nat) : Int) = v.minor := by rw [dN.2.1, hN]
    have e3 : ((valS (Lib.decDigits K) : Nat) : Int) = v.patch := by rw [dK.2.1, hK]
    show (Ver.mk ((valS (Lib.decDigits M) : Nat) : Int) ((valS (Lib.decDigits N) : Nat) : Int) ((valS (Lib.decDigits K) : Nat) : Int) v.pre v.build, (0 : Int)) = (v, 0)
    rw [e1, e2, e3]
  by_cases hb : v.build = []
  · rw [if_pos hb, List.append_nil]
    have k1 := cut_none 43 _ hp43
    by_cases hp : v.pre = []
    · rw [if_pos hp, List.append_nil] at k1 ⊢
      have k2 := cut_none 45 _ c45
      rw [parse_ff (by rw [k1]) (by rw [k1, k2]), k1, k2, c46]
      exact fin _ _ hp.symm hb.symm
    · rw [if_neg hp] at k1 ⊢
      have k2 := cut_at 45 core (joinS v.pre) c45
      have k3 := split_join v.pre hp (fun x hx => (word_not (pw x hx)).2)
      rw [parse_ft (by rw [k1]) (by rw [k1, k2]) (by rw [k1, k2, k3]; exact p3), k1, k2, c46, k3]
      exact fin _ _ rfl hb.symm
  · rw [if_neg hb]
    have k1 := cut_at 43 _ (joinS v.build) hp43
    have k4 := split_join v.build hb (fun x hx => (word_not (bw x hx)).2)
    by_cases hp : v.pre = []
    · rw [if_pos hp, List.append_nil] at k1 ⊢
      have k2 := cut_none 45 _ c45
      rw [parse_tf (by rw [k1]) (by rw [k1, k4]; exact b3) (by rw [k1, k2]), k1, k2, c46, k4]
      exact fin _ _ hp.symm rfl
    · rw [if_neg hp] at k1 ⊢
      have k2 := cut_at 45 core (joinS v.pre) c45
      have k3 := split_join v.pre hp (fun x hx => (word_not (pw x hx)).2)
      rw [parse_tt (by rw [k1]) (by rw [k1, k4]; exact b3) (by rw [k1, k2]) (by rw [k1, k2, k3]; exact p3), k1, k2, c46, k3, k4]
      exact fin _ _ rfl rfl
/-- WHAT IS READ IS WRITTEN. -/
theorem read_written {s : List UInt8} {V : Ver} (h : parseS s = (V, 0)) : VerOk V ∧ rightV V = true ∧ textS V = s := by
  have key : ∀ pr bl core, parseT pr bl (splitD 46 core) = (V, 0) → pr.any (oddW true) = false → bl.any (oddW false) = false →
      VerOk V ∧ rightV V = true ∧ textS V = (core ++ (if pr = [] then [] else 45 :: joinS pr)) ++ (if bl = [] then [] else 43 :: joinS bl) := by
    intro pr bl core hT hp hb
    obtain ⟨h1, h2, h3, h4, h5, h6, h7, h8, rfl⟩ := parseT_back hT
    obtain ⟨a, b, c, hl⟩ : ∃ a b c, splitD 46 core = [a, b, c] := by
      match hs : splitD 46 core, h1 with
      | [a, b, c], _ => exact ⟨a, b, c, rfl⟩
    rw [hl] at h2 h7 ⊢
    have n : numberS a = true ∧ numberS b = true ∧ numberS c = true := by
      refine ⟨?_, ?_, ?_⟩
      · have := List.any_eq_false.1 h2 a (by simp); simpa using this
      · have := List.any_eq_false.1 h2 b (by simp); simpa using this
      · have := List.any_eq_false.1 h2 c (by simp); simpa using this
    have f : ∀ x, x ∈ [a, b, c] → numberS x = true → valS x ≤ 9223372036854775807 := by
      intro x hx hn
      have h8 := List.any_eq_false.1 h7 x hx
      have hn2 : numericS x = true := by unfold numberS at hn; simp only [Bool.and_eq_true] at hn; exact hn.1
      refine fits_val hn2 ?_
      unfold greatS at h8
      rw [hn2] at h8
      simpa using h8
    have fa := f a (by simp) n.1
    have fb := f b (by simp) n.2.1
    have fc := f c (by simp) n.2.2
    have sml : ∀ l : List (List UInt8), l.any longS = false → Sml l := by
      intro l hl x hx
      have := List.any_eq_false.1 hl x hx
      unfold longS at this
      simp at this
      omega
    refine ⟨⟨sml _ h5, sml _ h6, ?_, ?_, ?_⟩, ?_, ?_⟩
    · show -9223372036854775808 ≤ ((valS a : Nat) : Int) ∧ ((valS a : Nat) : Int) ≤ _
      omega
    · show -9223372036854775808 ≤ ((valS b : Nat) : Int) ∧ ((valS b : Nat) : Int) ≤ _
      omega
    · show -9223372036854775808 ≤ ((valS c : Nat) : Int) ∧ ((valS c : Nat) : Int) ≤ _
      omega
    · unfold rightV
      have g4 : mayS pr true = true := may_is.2 ⟨h3, by rw [odd_true, hp, h5, h8]; rfl⟩
      have g5 : mayS bl false = true := may_is.2 ⟨h4, by rw [odd_false, hb, h6]; rfl⟩
      simp only [g4, g5, Bool.and_true]
      simp
    · rw [textS_eq]
      simp only [List.getD_cons_zero, List.getD_cons_succ, itoa_nat, number_dec n.1, number_dec n.2.1, number_dec n.2.2]
      rw [show joinS [a, b, c] = core by rw [← hl, join_split]]
  have hj := join_split
  unfold parseS at h
  by_cases c1 : (cutD 43 s).2.2 = true
  · rw [if_pos c1] at h
    by_cases c2 : (splitD 46 (cutD 43 s).2.1).any (oddW false) = true
    · rw [if_pos c2] at h; exact absurd h (by simp)
    rw [if_neg c2] at h
    simp only [Bool.not_eq_true] at c2
    have e1 := (cut_back 43 s).1 c1
    by_cases c3 : (cutD 45 (cutD 43 s).1).2.2 = true
    · rw [if_pos c3] at h
      by_cases c4 : (splitD 46 (cutD 45 (cutD 43 s).1).2.1).any (oddW true) = true
      · rw [if_pos c4] at h; exact absurd h (by simp)
      rw [if_neg c4] at h
      simp only [Bool.not_eq_true] at c4
      have e2 := (cut_back 45 (cutD 43 s).1).1 c3
      have := key _ _ _ h c4 c2
      rw [if_neg (splitD_ne _ _), if_neg (splitD_ne _ _), join_split, join_split, ← e2, ← e1] at this
      exact this
    · rw [if_neg c3] at h
      simp only [Bool.not_eq_true] at c3
      have e2 := (cut_back 45 (cutD 43 s).1).2 c3
      have := key _ _ _ h rfl c2
      rw [if_pos rfl, if_neg (splitD_ne _ _), join_split, List.append_nil, e2, ← e1] at this
      exact this
  · rw [if_neg c1] at h
    simp only [Bool.not_eq_true] at c1
    have e1 := (cut_back 43 s).2 c1
    by_cases c3 : (cutD 45 (cutD 43 s).1).2.2 = true
    · rw [if_pos c3] at h
      by_cases c4 : (splitD 46 (cutD 45 (cutD 43 s).1).2.1).any (oddW true) = true
      · rw [if_pos c4] at h; exact absurd h (by simp)
      rw [if_neg c4] at h
      simp only [Bool.not_eq_true] at c4
      have e2 := (cut_back 45 (cutD 43 s).1).1 c3
      have := key _ _ _ h c4 rfl
      rw [if_neg (splitD_ne _ _), if_pos rfl, join_split, List.append_nil, ← e2, e1] at this
      exact this
    · rw [if_neg c3] at h
      simp only [Bool.not_eq_true] at c3
      have e2 := (cut_back 45 (cutD 43 s).1).2 c3
      have := key _ _ _ h rfl rfl
      rw [if_pos rfl, if_pos rfl, List.append_nil, List.append_nil, e2, e1] at this
      exact this
theorem text_len {v : Ver} (hv : VerOk v) (hr : rightV v = true) : (textS v).length < 4294967281 := by
  obtain ⟨_, _, h1, h2⟩ := right_bounds hr
  have i1 := itoa_len hv.r1
  have i2 := itoa_len hv.r2
  have i3 := itoa_len hv.r3
  unfold textS
  have e1 : (if v.pre = [] then [] else 45 :: joinS v.pre).length ≤ 329 := by split <;> simp <;> omega
  have e2 : (if v.build = [] then [] else 43 :: joinS v.build).length ≤ 329 := by split <;> simp <;> omega
  simp only [List.length_append, List.length_cons, List.length_nil]
  omega
end Go.Sy
