/- The document's reading of a version: what its functions answer, and that it is what the program's is. -/
import Derived.Test.YtnbpkaffomklpaaDoorRefA
import Derived.Test.YtnbpkaffomklpaaDoorSemB
import Derived.Test.YtnbpkaffomklpaaDoorFwN
namespace Go.Sy
open Go Go.Proofs Go.RowKit

theorem take_in {α : Type} {p : α → Prop} {s : List α} {k : Nat} (h : ∀ j (hj : j < s.length), j < k → p s[j]) : ∀ x ∈ s.take k, p x := by
  intro x hx
  obtain ⟨j, hj, rfl⟩ := List.getElem_of_mem hx
  rw [List.getElem_take]
  exact h j _ (by simp at hj; omega)
theorem find_yes {s : List UInt8} {c : UInt8} {k : Nat} (hk : k < s.length) (h : ∀ j (hj : j < s.length), j < k → s[j] ≠ c) (he : s[k] = c) : cutD c s = (s.take k, s.drop (k + 1), true) := by
  have e : s = s.take k ++ c :: s.drop (k + 1) := by rw [← he, ← List.drop_eq_getElem_cons hk, List.take_append_drop]
  have hn : c ∉ s.take k := fun hc => take_in (p := fun x => x ≠ c) h c hc rfl
  have := cut_at c (s.take k) (s.drop (k + 1)) hn
  rw [← e] at this
  exact this
theorem find_no {s : List UInt8} {c : UInt8} (h : ∀ j (hj : j < s.length), s[j] ≠ c) : cutD c s = (s, [], false) := by
  refine cut_none c s (fun hc => ?_)
  obtain ⟨j, hj, e⟩ := List.getElem_of_mem hc
  exact h j hj e
theorem u8_inj {a b : UInt8} (h : ((a.toNat : Nat) : Int) = (b.toNat : Nat)) : a = b := UInt8.toNat_inj.1 (by omega)
theorem u8_ne {a b : UInt8} (h : ((a.toNat : Nat) : Int) ≠ (b.toNat : Nat)) : a ≠ b := fun e => h (by rw [e])
theorem step_ne {s : List UInt8} {c : UInt8} {q : Nat} (h : ∀ j (hj : j < s.length), j < q → s[j] ≠ c) (hq : q < s.length) (hp : s[q] ≠ c) : ∀ j (hj : j < s.length), j < q + 1 → s[j] ≠ c := by
  intro j hj hjq
  rcases Nat.lt_succ_iff_lt_or_eq.1 hjq with k | rfl
  · exact h j hj k
  · exact hp

/-- How far the parting has come. -/
structure Part (s : List UInt8) (out : List (List UInt8)) (f i : Nat) : Prop where
  eq : splitD 46 s = out ++ splitD 46 (s.drop f)
  len : out.length ≤ i
  le : f ≤ i
  le2 : i ≤ s.length
  no : ∀ j (hj : j < s.length), f ≤ j → j < i → s[j] ≠ 46
theorem Part.start (s : List UInt8) : Part s [] 0 0 := ⟨rfl, Nat.le_refl _, Nat.le_refl _, Nat.zero_le _, fun j _ _ h => absurd h (by omega)⟩
theorem Part.step {s : List UInt8} {out : List (List UInt8)} {f i : Nat} (h : Part s out f i) (hi : i < s.length) (hn : s[i] ≠ 46) : Part s out f (i + 1) :=
  ⟨h.eq, by have := h.len; omega, by have := h.le; omega, hi, fun j hj h1 h2 => by
    rcases Nat.lt_succ_iff_lt_or_eq.1 h2 with k | rfl
    · exact h.no j hj h1 k
    · exact hn⟩
theorem Part.not {s : List UInt8} {out : List (List UInt8)} {f i : Nat} (h : Part s out f i) : 46 ∉ (s.drop f).take (i - f) := by
  intro hc
  obtain ⟨j, hj, e⟩ := List.getElem_of_mem hc
  have hj' : j < i - f ∧ j < s.length - f := by simp at hj; omega
  rw [List.getElem_take, List.getElem_drop] at e
  exact h.no (f + j) (by omega) (by omega) (by omega) e
theorem Part.cut {s : List UInt8} {out : List (List UInt8)} {f i : Nat} (h : Part s out f i) (hi : i < s.length) (he : s[i] = 46) : Part s (out ++ [(s.drop f).take (i - f)]) (i + 1) (i + 1) := by
  have hle := h.le
  refine ⟨?_, by have := h.len; simp; omega, Nat.le_refl _, hi, fun j _ h1 h2 => absurd h2 (by omega)⟩
  have e : s.drop f = (s.drop f).take (i - f) ++ 46 :: s.drop (i + 1) := by
    have h1 : (s.drop f).drop (i - f) = s.drop i := by rw [List.drop_drop]; congr 1; omega
    rw [← he, ← List.drop_eq_getElem_cons hi, ← h1, List.take_append_drop]
  rw [h.eq, List.append_assoc]
  congr 1
  have := split_at _ (s.drop (i + 1)) h.not
  rw [← e] at this
  exact this
theorem Part.done {s : List UInt8} {out : List (List UInt8)} {f i : Nat} (h : Part s out f i) (hi : s.length ≤ i) : splitD 46 s = out ++ [s.drop f] := by
  have hn := h.not
  rw [List.take_of_length_le (by simp; have := h.le2; omega)] at hn
  rw [h.eq, split_none _ hn]

def parseN (P B C : List (List UInt8)) : Ver × Int :=
  if B.any (oddW false) = true then (relV 0 0 0, 5) else if P.any (oddW true) = true then (relV 0 0 0, 5) else parseT P B C
section
variable {s : List UInt8} {P B C : List (List UInt8)} {k j : Nat}
theorem nf_tt (h1 : cutD 43 s = (s.take k, s.drop (k + 1), true)) (h2 : cutD 45 (s.take k) = ((s.take k).take j, (s.take k).drop (j + 1), true)) (hB : B = splitD 46 (s.drop (k + 1))) (hP : P = splitD 46 ((s.take k).drop (j + 1))) (hC : C = splitD 46 ((s.take k).take j)) : parseS s = parseN P B C := by
  subst hB hP hC
  unfold parseS parseN
  rw [h1]; simp only; rw [h2]; simp only [if_true]
theorem nf_tf (h1 : cutD 43 s = (s.take k, s.drop (k + 1), true)) (h2 : cutD 45 (s.take k) = (s.take k, [], false)) (hB : B = splitD 46 (s.drop (k + 1))) (hC : C = splitD 46 (s.take k)) : parseS s = parseN [] B C := by
  subst hB hC
  unfold parseS parseN
  rw [h1]; simp only; rw [h2]; simp only [if_true, List.any_nil, Bool.false_eq_true, if_false]
theorem nf_ft (h1 : cutD 43 s = (s, [], false)) (h2 : cutD 45 s = (s.take j, s.drop (j + 1), true)) (hP : P = splitD 46 (s.drop (j + 1))) (hC : C = splitD 46 (s.take j)) : parseS s = parseN P [] C := by
  subst hP hC
  unfold parseS parseN
  rw [h1]; simp only; rw [h2]; simp only [if_true, List.any_nil, Bool.false_eq_true, if_false]
theorem nf_ff (h1 : cutD 43 s = (s, [], false)) (h2 : cutD 45 s = (s, [], false)) (hC : C = splitD 46 s) : parseS s = parseN [] [] C := by
  subst hC
  unfold parseS parseN
  rw [h1]; simp only; rw [h2]; simp only [List.any_nil, Bool.false_eq_true, if_false]
theorem pN1 (h : parseT P B C = (relV 0 0 0, 5)) : parseN P B C = (relV 0 0 0, 5) := by
  unfold parseN; rw [h]; split
  · rfl
  · split <;> rfl
theorem pN2 (h : P.any (oddW true) = true) : parseN P B C = (relV 0 0 0, 5) := by
  unfold parseN; rw [if_pos h]; split <;> rfl
theorem pN3 (h : B.any (oddW false) = true) : parseN P B C = (relV 0 0 0, 5) := by
  unfold parseN; rw [if_pos h]
theorem pN4 (h1 : P.any (oddW true) = false) (h2 : B.any (oddW false) = false) : parseN P B C = parseT P B C := by
  unfold parseN; rw [if_neg (nb h2), if_neg (nb h1)]
/-- Too many, or too long ones. -/
def lengthyS (l : List (List UInt8)) : Bool := l.any longS || decide (8 < l.length)
theorem pN5 (h1 : P.any (oddW true) = false) (h2 : B.any (oddW false) = false) (a : (C.length : Int) = 3) (b : C.any (fun x => !numberS x) = false) (h : lengthyS P = true ∨ lengthyS B = true) : parseN P B C = (relV 0 0 0, 7) := by
  rw [pN4 h1 h2]
  unfold lengthyS at h
  simp only [Bool.or_eq_true, decide_eq_true_eq] at h
  by_cases c : 8 < P.length
  · exact pT3 a b (by omega)
  by_cases d : 8 < B.length
  · exact pT4 a b (by omega) (by omega)
  cases e : P.any longS with
  | true => exact pT5 a b (by omega) (by omega) e
  | false =>
    cases f : B.any longS with
    | true => exact pT6 a b (by omega) (by omega) e f
    | false => rw [e, f] at h; exact absurd h (by simp; omega)
theorem len_no {l : List (List UInt8)} (h : lengthyS l = false) : l.any longS = false ∧ (l.length : Int) ≤ 8 := by
  unfold lengthyS at h
  simp only [Bool.or_eq_false_iff, decide_eq_false_iff_not] at h
  exact ⟨h.1, by omega⟩
theorem pN6 (h1 : P.any (oddW true) = false) (h2 : B.any (oddW false) = false) (a : (C.length : Int) = 3) (b : C.any (fun x => !numberS x) = false) (hp : lengthyS P = false) (hb : lengthyS B = false) (i : C.any greatS = true) : parseN P B C = (relV 0 0 0, 2) := by
  rw [pN4 h1 h2]; exact pT7 a b (len_no hp).2 (len_no hb).2 (len_no hp).1 (len_no hb).1 i
theorem pN7 (h1 : P.any (oddW true) = false) (h2 : B.any (oddW false) = false) (a : (C.length : Int) = 3) (b : C.any (fun x => !numberS x) = false) (hp : lengthyS P = false) (hb : lengthyS B = false) (i : C.any greatS = false) (j : P.any greatS = true) : parseN P B C = (relV 0 0 0, 2) := by
  rw [pN4 h1 h2]; exact pT8 a b (len_no hp).2 (len_no hb).2 (len_no hp).1 (len_no hb).1 i j
theorem pN8 (h1 : P.any (oddW true) = false) (h2 : B.any (oddW false) = false) (a : (C.length : Int) = 3) (b : C.any (fun x => !numberS x) = false) (hp : lengthyS P = false) (hb : lengthyS B = false) (i : C.any greatS = false) (j : P.any greatS = false) (g0 : 0 < C.length) (g1 : 1 < C.length) (g2 : 2 < C.length) :
    parseN P B C = (⟨valS C[0], valS C[1], valS C[2], P, B⟩, 0) := by
  rw [pN4 h1 h2, pT9 a b (len_no hp).2 (len_no hb).2 (len_no hp).1 (len_no hb).1 i j]
  have e : ∀ k (hk : k < C.length), C.getD k [] = C[k] := by intro k hk; simp [List.getD, List.getElem?_eq_getElem hk]
  rw [e 0 g0, e 1 g1, e 2 g2]
theorem num_any {l : List (List UInt8)} (h : ∀ j (hj : j < l.length), numberS l[j] = true) : l.any (fun x => !numberS x) = false := by
  rw [List.any_eq_false]; intro x hx
  obtain ⟨j, hj, rfl⟩ := List.getElem_of_mem hx
  simp [h j hj]
theorem num_any_no {l : List (List UInt8)} {q : Nat} (hq : q < l.length) (h : numberS l[q] = false) : l.any (fun x => !numberS x) = true := by
  rw [List.any_eq_true]; exact ⟨_, List.getElem_mem hq, by simp [h]⟩
theorem gr_any {p : List UInt8 → Bool} {l : List (List UInt8)} (h : ∀ j (hj : j < l.length), p l[j] = false) : l.any p = false := by
  rw [List.any_eq_false]; intro x hx
  obtain ⟨j, hj, rfl⟩ := List.getElem_of_mem hx
  simp [h j hj]
theorem gr_any_no {p : List UInt8 → Bool} {l : List (List UInt8)} {q : Nat} (hq : q < l.length) (h : p l[q] = true) : l.any p = true := by
  rw [List.any_eq_true]; exact ⟨_, List.getElem_mem hq, h⟩
theorem val_ok {x : List UInt8} (hn : numberS x = true) (hg : greatS x = false) : numericS x = true ∧ valS x ≤ 9223372036854775807 := by
  have hn2 : numericS x = true := by unfold numberS at hn; simp only [Bool.and_eq_true] at hn; exact hn.1
  refine ⟨hn2, fits_val hn2 ?_⟩
  unfold greatS at hg
  rw [hn2] at hg
  simpa using hg
end
theorem step_okD {α : Type} {p : α → Prop} {l : List α} {q : Nat} (h : ∀ j (hj : j < l.length), j < q → p l[j]) (hq : q < l.length) (hp : p l[q]) : ∀ j (hj : j < l.length), j < q + 1 → p l[j] := by
  intro j hj hjq
  rcases Nat.lt_succ_iff_lt_or_eq.1 hjq with k | rfl
  · exact h j hj k
  · exact hp
theorem oddT {b : Bool} {x : List UInt8} (h : wordS x = false) : oddW b x = true := by unfold oddW; rw [h]; rfl
theorem oddU {x : List UInt8} (h1 : numericS x = true) (h2 : numberS x = false) : oddW true x = true := by unfold oddW; rw [h1, h2]; simp
theorem oddV {x : List UInt8} (h : wordS x = true) (h2 : numericS x = false) : oddW true x = false := by unfold oddW; rw [h, h2]; rfl
theorem oddX {x : List UInt8} (h : wordS x = true) (h2 : numberS x = true) : oddW true x = false := by unfold oddW; rw [h, h2]; simp
theorem oddY {x : List UInt8} (h : wordS x = true) : oddW false x = false := by unfold oddW; rw [h]; rfl
theorem val_take {s : List UInt8} (k : Nat) : valFrom 0 (s.take k) ≤ valS s := by
  have e : valS s = valFrom (valFrom 0 (s.take k)) (s.drop k) := by
    show valFrom 0 s = _
    unfold valFrom
    rw [← List.foldl_append, List.take_append_drop]
  rw [e]; exact valFrom_ge _ _
theorem val_step {s : List UInt8} {k : Nat} (hk : k < s.length) : valFrom 0 (s.take (k + 1)) = 10 * valFrom 0 (s.take k) + (s[k].toNat - 48) := by
  rw [List.take_succ_eq_append_getElem hk, valFrom_snoc]

attribute [local irreducible] AC AT AO AK AH ACalls Sub Res.cells Res.obj Res.nix Res.own Exit.then Exit.inBlock bodyPost Code.wp Next Post Kont
section
variable {W0 : World} {L : List Res} {F : List Fact} {R : Value → List Res → List Fact → Prop}
set_option maxRecDepth 100000
set_option maxHeartbeats 4000000
theorem rfind_c (s : List UInt8) (c : UInt8) (hs : s.length < 4294967281) (hT : ∀ k, k < s.length → cutD c s = (s.take k, s.drop (k + 1), true) → R (.int .i64 (k : Int)) L F) (hF : cutD c s = (s, [], false) → R (.int .i64 (-1)) L F) :
    ACalls Tryd.prog W0 27 #[S s, .int .u8 c.toNat] L F R := by
  refine ACalls.body Tryd.func27 rfl Tryd.ntmps27 rfl ?_
  refine AC.seq (AC.region (AL.go (AO.assign rfl rfl (AL.nil (AK.seqN (AC.seq ?_))))))
  refine AC.seq (AC.region (AL.go (AO.assign rfl rfl (AL.nil (AK.seqN (AC.block ?_))))))
  refine AC.loopC (fun (k : Nat) => k ≤ s.length ∧ ∀ j (hj : j < s.length), j < k → s[j] ≠ c) (fun k => [(0, S s), (1, .int .u8 c.toNat), (5, .int .i64 (k : Int))]) (fun k => s.length - k) 0 ⟨by omega, by omega⟩ (by repeat (first | exact SubR.nil | refine SubR.cons rfl ?_)) ?_
  rintro k ⟨hk, hok⟩
  refine AC.seq (AC.seq (AC.region (AL.go (AO.move rfl rfl (AL.go (AO.move rfl rfl (AL.go (AO.lenS rfl rfl ?_))))))))
  refine AL.go (AO.lss rfl rfl rfl (fun c9 => ?_) (fun c9 => ?_))
  · refine AL.nil (AK.seqN (AC.condT rfl (AC.skip (AK.seqN (AC.seq ?_)))))
    refine AC.block (AC.seq (AC.region (AL.go (AO.move rfl rfl (AL.go (AO.move rfl rfl ?_))))))
    have hkl : k < s.length := by omega
    refine AL.go (AO.indexS rfl rfl rfl rfl hkl ?_)
    refine AL.go (AO.move rfl rfl ?_)
    refine AL.go (AO.eql rfl rfl rfl (fun c16 => ?_) (fun c16 => ?_))
    · refine AL.nil (AK.seqN (AC.condT rfl (AC.seq (AC.region (AL.go (AO.move rfl rfl ?_))))))
      refine AL.go (AO.assign rfl rfl (AL.nil (AK.seqN (AC.ret (AK.blkR (AK.seqR ?_))))))
      refine AK.seqR (AK.blkR (AK.seqR ?_))
      first | exact AK.ret (L' := L) (F' := F) Tryd.results27 rfl (by repeat (first | exact Sub.refl _ _ | refine Sub.trans Sub.drop ?_ | refine Sub.trans Sub.dropF ?_)) (hT k hkl (find_yes hkl hok (u8_inj c16))) | exact AK.ret (L' := L) (F' := F) Tryd.results27 rfl (by repeat (first | exact Sub.refl _ _ | refine Sub.trans Sub.drop ?_ | refine Sub.trans Sub.dropF ?_)) (hF (find_no (fun j hj => hok j hj (by omega))))
    · refine AL.nil (AK.seqN (AC.condF rfl (AC.skip (AK.blkN (AK.seqN ?_)))))
      refine AC.region (AL.go (AO.move rfl rfl (AL.go (AO.add rfl rfl rfl (by omega) (by omega) (AL.go (AO.assign rfl rfl (AL.nil ?_)))))))
      refine AK.next (k + 1) ⟨by omega, step_ne hok hkl (u8_ne c16)⟩ (by omega) (by repeat (first | exact SubR.nil | refine SubR.cons rfl ?_)) (Sub.refl _ _)
  · refine AL.nil (AK.seqN (AC.condF rfl (AC.exit (AK.seqX (AK.seqX ?_)))))
    refine AK.blkX (AK.seqN (AC.seq (AC.region (AL.go (AO.assign rfl rfl (AL.nil ?_))))))
    refine AK.seqN (AC.ret ?_)
    first | exact AK.ret (L' := L) (F' := F) Tryd.results27 rfl (by repeat (first | exact Sub.refl _ _ | refine Sub.trans Sub.drop ?_ | refine Sub.trans Sub.dropF ?_)) (hT k hkl (find_yes hkl hok (u8_inj c16))) | exact AK.ret (L' := L) (F' := F) Tryd.results27 rfl (by repeat (first | exact Sub.refl _ _ | refine Sub.trans Sub.drop ?_ | refine Sub.trans Sub.dropF ?_)) (hF (find_no (fun j hj => hok j hj (by omega))))
theorem rsplit_c (s : List UInt8) (hs : s.length ≤ 900) (h : ∀ l a k c, l = splitD 46 s → R (.slice a k c) L (fS l a k c :: F)) : ACalls Tryd.prog W0 28 #[S s, .int .u8 46] L F R := by
  refine ACalls.body Tryd.func28 rfl Tryd.ntmps28 rfl ?_
  refine AC.seq (AC.region (AL.go (AO.assign rfl rfl (AL.nil (AK.seqN (AC.seq ?_))))))
  refine AC.region ?_
  refine AL.go (AO.buildSlice0 rfl (fun b8 => ?_))
  refine AT.sub (Sub.toOwn (i := 0) (k := 0) (sz := 1) (enc := eS) [] rfl .nil (fun _ => rfl) rfl (by decide)) ?_
  refine AL.go (AO.assign rfl rfl (AL.nil (AK.seqN (AC.seq (AC.region (AL.go (AO.assign rfl rfl ?_)))))))
  refine AL.nil (AK.seqN (AC.seq (AC.seq (AC.region (AL.go (AO.assign rfl rfl ?_))))))
  refine AL.nil (AK.seqN (AC.block ?_))
  refine AC.loop (fun (i : Nat × Nat × List (List UInt8) × Option Addr × Nat × Nat) => Part s i.2.2.1 i.2.1 i.1) (fun i => [(0, S s), (1, .int .u8 46), (5, .slice i.2.2.2.1 i.2.2.2.2.1 i.2.2.2.2.2), (6, .int .i64 (i.2.1 : Int)), (7, .int .i64 (i.1 : Int))]) (fun i => Res.own (.slice i.2.2.2.1 i.2.2.2.2.1 i.2.2.2.2.2) 9 1 (i.2.2.1.map eS) :: L) (fun _ => F) (fun i => s.length - i.1) (0, 0, [], some ⟨b8, 0, none⟩, 0, 0) (Part.start s) (by repeat (first | exact SubR.nil | refine SubR.cons rfl ?_)) (Sub.refl _ _) ?_
  rintro ⟨q, f, out, a5, k5, c5⟩ hP
  simp only at hP ⊢
  have hq := hP.le2
  have hf := hP.le
  have ho := hP.len
  refine AC.seq (AC.seq (AC.region (AL.go (AO.move rfl rfl (AL.go (AO.move rfl rfl (AL.go (AO.lenS rfl rfl ?_))))))))
  refine AL.go (AO.lss rfl rfl rfl (fun c12 => ?_) (fun c12 => ?_))
  · refine AL.nil (AK.seqN (AC.condT rfl (AC.skip (AK.seqN (AC.seq ?_)))))
    refine AC.block (AC.seq (AC.region (AL.go (AO.move rfl rfl (AL.go (AO.move rfl rfl ?_))))))
    have hql : q < s.length := by omega
    refine AL.go (AO.indexS rfl rfl rfl rfl hql ?_)
    refine AL.go (AO.move rfl rfl ?_)
    refine AL.go (AO.eql rfl rfl rfl (fun c19 => ?_) (fun c19 => ?_))
    · refine AL.nil (AK.seqN (AC.condT rfl (AC.seq (AC.region (AL.go (AO.move rfl rfl ?_))))))
      refine AL.go (AO.move rfl rfl (AL.go (AO.move rfl rfl (AL.go (AO.move rfl rfl ?_)))))
      refine AL.go (AO.sliceSLH (i' := f) (j' := q) rfl rfl rfl rfl rfl rfl (by omega) (by omega) ?_)
      refine AL.go (AO.buildSlice rfl rfl rfl rfl rfl (fun b25 => ?_))
      refine AL.go (AO.append (i := 0) (enc := eS) (lst := out) [(s.drop f).take (q - f)] rfl rfl rfl rfl (.val .nil) rfl rfl (fun _ => rfl) (by simp [maxLen]; omega) (by omega) (fun a26 k26 c26 => ?_))
      refine AL.go (AO.assign rfl rfl (AL.nil (AK.seqN (AC.region (AL.go (AO.move rfl rfl (AL.go (AO.add rfl rfl rfl (by omega) (by omega) ?_))))))))
      refine AL.go (AO.assign rfl rfl (AL.nil (AK.blkN (AK.seqN (AC.region (AL.go (AO.move rfl rfl ?_)))))))
      refine AL.go (AO.add rfl rfl rfl (by omega) (by omega) (AL.go (AO.assign rfl rfl (AL.nil ?_))))
      first | refine AK.next (q + 1, q + 1, out ++ [(s.drop f).take (q - f)], a26, k26, c26) (hP.cut hql (u8_inj c19)) (by show s.length - (q + 1) < s.length - q; omega) (by repeat (first | exact SubR.nil | refine SubR.cons rfl ?_)) (by repeat (first | exact Sub.refl _ _ | refine Sub.trans Sub.dropF ?_)) | refine AK.next (q + 1, f, out, a5, k5, c5) (hP.step hql (u8_ne c19)) (by show s.length - (q + 1) < s.length - q; omega) (by repeat (first | exact SubR.nil | refine SubR.cons rfl ?_)) (by repeat (first | exact Sub.refl _ _ | refine Sub.trans Sub.dropF ?_))
    · refine AL.nil (AK.seqN (AC.condF rfl (AC.skip (AK.blkN (AK.seqN ?_)))))
      refine AC.region (AL.go (AO.move rfl rfl (AL.go (AO.add rfl rfl rfl (by omega) (by omega) (AL.go (AO.assign rfl rfl (AL.nil ?_)))))))
      first | refine AK.next (q + 1, q + 1, out ++ [(s.drop f).take (q - f)], a26, k26, c26) (hP.cut hql (u8_inj c19)) (by show s.length - (q + 1) < s.length - q; omega) (by repeat (first | exact SubR.nil | refine SubR.cons rfl ?_)) (by repeat (first | exact Sub.refl _ _ | refine Sub.trans Sub.dropF ?_)) | refine AK.next (q + 1, f, out, a5, k5, c5) (hP.step hql (u8_ne c19)) (by show s.length - (q + 1) < s.length - q; omega) (by repeat (first | exact SubR.nil | refine SubR.cons rfl ?_)) (by repeat (first | exact Sub.refl _ _ | refine Sub.trans Sub.dropF ?_))
  · refine AL.nil (AK.seqN (AC.condF rfl (AC.exit (AK.seqX (AK.seqX ?_)))))
    refine AK.blkX (AK.seqN (AC.seq (AC.region (AL.go (AO.move rfl rfl (AL.go (AO.move rfl rfl ?_)))))))
    refine AL.go (AO.move rfl rfl ?_)
    refine AL.go (AO.sliceSL (i' := f) rfl rfl rfl rfl (by omega) ?_)
    refine AL.go (AO.buildSlice rfl rfl rfl rfl rfl (fun b33 => ?_))
    refine AL.go (AO.append (i := 0) (enc := eS) (lst := out) [s.drop f] rfl rfl rfl rfl (.val .nil) rfl rfl (fun _ => rfl) (by simp [maxLen]; omega) (by omega) (fun a34 k34 c34 => ?_))
    have hD := hP.done (by omega)
    rw [← hD]
    refine AL.go (AO.assign rfl rfl (AL.nil (AK.seqN (AC.seq (AC.region (AL.go (AO.move rfl rfl ?_)))))))
    refine AL.go (AO.assign rfl rfl (AL.nil (AK.seqN (AC.ret ?_))))
    refine AK.ret (L' := L) (F' := fS (splitD 46 s) a34 k34 c34 :: F) Tryd.results28 rfl ?_ (h _ _ _ _ rfl)
    exact (Sub.commit (i := 0) rfl).trans Sub.drop
theorem rsyntaxT_c (l : List (List UInt8)) {a1 : Option Addr} {k1 c1 : Nat} (m1 : fS l a1 k1 c1 ∈ F) (hl : Sml l) (hT : l.any (oddW true) = false → R (.bool true) L F) (hF : l.any (oddW true) = true → R (.bool false) L F) :
    ACalls Tryd.prog W0 29 #[.slice a1 k1 c1, .bool true] L F R := by
  refine ACalls.body Tryd.func29 rfl Tryd.ntmps29 rfl ?_
  refine AC.seq (AC.region (AL.go (AO.assign rfl rfl (AL.nil (AK.seqN (AC.seq ?_))))))
  refine AC.seq (AC.region (AL.go (AO.move rfl rfl ?_)))
  refine AL.go (AO.len rfl rfl (fun hl8 => ?_) (hm := by repeat (first | exact mem0 | assumption | refine memS ?_)))
  refine AL.go (AO.move rfl rfl (AL.nil (AK.seqN (AC.block ?_))))
  refine AC.loopC (fun (q : Nat) => q ≤ l.length ∧ ∀ j (hj : j < l.length), j < q → oddW true l[j] = false) (fun q => [(1, .bool true), (7, .slice a1 k1 c1), (8, .int .i64 l.length), (9, .int .i64 (q : Int))]) (fun q => l.length - q) 0 ⟨by omega, by omega⟩ (by repeat (first | exact SubR.nil | refine SubR.cons rfl ?_)) ?_
  rintro q ⟨hq, hok⟩
  refine AC.seq (AC.region ?_)
  refine AL.go (AO.lss rfl rfl rfl (fun c10 => ?_) (fun c10 => ?_))
  · refine AL.nil (AK.seqN (AC.seq (AC.condT rfl (AC.skip (AK.seqN ?_)))))
    refine AC.seq (AC.block (AC.seq (AC.region ?_)))
    have hql : q < l.length := by omega
    refine AL.go (AO.indexAddr rfl rfl rfl rfl (by repeat (first | exact mem0 | assumption | refine memS ?_)) hql (fun _ _ => ?_))
    refine AL.go (AO.loadF rfl rfl ?_)
    intros
    refine AL.go (AO.assign rfl rfl (AL.nil (AK.seqN (AC.seq (AC.region (AL.go (AO.move rfl rfl ?_)))))))
    refine AL.go (AO.call rfl rfl (rword_c l[q] (hl _ (List.getElem_mem _)) (fun c14 => ?_) (fun c14 => ?_)))
    · refine AL.go (AO.not rfl rfl (AL.go (AO.move rfl rfl ?_)))
      refine AL.yes rfl rfl (AO.move rfl rfl ?_)
      refine AL.yes rfl rfl (AO.move rfl rfl (AL.yes rfl rfl (AO.move rfl rfl ?_)))
      refine AL.yes rfl rfl (AO.call rfl rfl (rnumeric_c l[q] (hl _ (List.getElem_mem _)) (fun c20 => ?_) (fun c20 => ?_)))
      · refine AL.yes rfl rfl (AO.pickT rfl rfl rfl (AL.yes rfl rfl (AO.move rfl rfl (AL.yes rfl rfl (AO.move rfl rfl ?_)))))
        refine AL.yes rfl rfl (AO.call rfl rfl (rnumber_c l[q] (hl _ (List.getElem_mem _)) (fun c24 => ?_) (fun c24 => ?_)))
        · refine AL.yes rfl rfl (AO.not rfl rfl (AL.yes rfl rfl (AO.pickT rfl rfl rfl (AL.go (AO.pickF rfl rfl rfl (AL.nil (AK.seqN (AC.condF rfl ?_))))))))
          refine AC.skip (AK.blkN (AK.seqN (AC.region (AL.go (AO.add rfl rfl rfl (by omega) (by omega) (AL.go (AO.move rfl rfl ?_)))))))
          refine AL.nil ?_
          refine AK.next (q + 1) ⟨by omega, step_okD (p := fun x => oddW true x = false) hok hql (by first | exact oddX c14 c24 | exact oddV c14 c20)⟩ (by omega) (by repeat (first | exact SubR.nil | refine SubR.cons rfl ?_)) (by repeat (first | exact Sub.refl _ _ | refine Sub.trans Sub.dropF ?_))
        · refine AL.yes rfl rfl (AO.not rfl rfl (AL.yes rfl rfl (AO.pickT rfl rfl rfl (AL.go (AO.pickF rfl rfl rfl (AL.nil (AK.seqN (AC.condT rfl ?_))))))))
          refine AC.seq (AC.region (AL.go (AO.assign rfl rfl (AL.nil (AK.seqN (AC.ret ?_))))))
          refine AK.blkR (AK.seqR (AK.seqR (AK.blkR (AK.seqR ?_))))
          first | refine AK.ret (L' := L) (F' := F) Tryd.results29 rfl (by repeat (first | exact Sub.refl _ _ | refine Sub.trans Sub.drop ?_ | refine Sub.trans Sub.dropF ?_)) (hT ?_) | refine AK.ret (L' := L) (F' := F) Tryd.results29 rfl (by repeat (first | exact Sub.refl _ _ | refine Sub.trans Sub.drop ?_ | refine Sub.trans Sub.dropF ?_)) (hF ?_)
          first
          | exact gr_any (fun j hj => hok j hj (by omega))
          | exact gr_any_no hql (oddT c14)
          | exact gr_any_no hql (oddU c20 c24)
      · refine AL.yes rfl rfl (AO.pickT rfl rfl rfl (AL.yes rfl rfl (AO.move rfl rfl (AL.no rfl rfl rfl rfl (AL.no rfl rfl rfl rfl (AL.no rfl rfl rfl rfl (AL.yes rfl rfl (AO.pickF rfl rfl rfl ?_))))))))
        refine AL.go (AO.pickF rfl rfl rfl (AL.nil (AK.seqN (AC.condF rfl (AC.skip (AK.blkN ?_))))))
        refine AK.seqN (AC.region (AL.go (AO.add rfl rfl rfl (by omega) (by omega) (AL.go (AO.move rfl rfl (AL.nil ?_))))))
        refine AK.next (q + 1) ⟨by omega, step_okD (p := fun x => oddW true x = false) hok hql (by first | exact oddX c14 c24 | exact oddV c14 c20)⟩ (by omega) (by repeat (first | exact SubR.nil | refine SubR.cons rfl ?_)) (by repeat (first | exact Sub.refl _ _ | refine Sub.trans Sub.dropF ?_))
    · refine AL.go (AO.not rfl rfl (AL.go (AO.move rfl rfl (AL.no rfl rfl rfl rfl (AL.no rfl rfl rfl rfl (AL.no rfl rfl rfl rfl (AL.no rfl rfl rfl rfl ?_)))))))
      refine AL.no rfl rfl rfl rfl (AL.no rfl rfl rfl rfl (AL.no rfl rfl rfl rfl (AL.no rfl rfl rfl rfl (AL.no rfl rfl rfl rfl (AL.no rfl rfl rfl rfl ?_)))))
      refine AL.go (AO.pickT rfl rfl rfl (AL.nil (AK.seqN (AC.condT rfl (AC.seq (AC.region ?_))))))
      refine AL.go (AO.assign rfl rfl (AL.nil (AK.seqN (AC.ret (AK.blkR (AK.seqR ?_))))))
      refine AK.seqR (AK.blkR (AK.seqR ?_))
      first | refine AK.ret (L' := L) (F' := F) Tryd.results29 rfl (by repeat (first | exact Sub.refl _ _ | refine Sub.trans Sub.drop ?_ | refine Sub.trans Sub.dropF ?_)) (hT ?_) | refine AK.ret (L' := L) (F' := F) Tryd.results29 rfl (by repeat (first | exact Sub.refl _ _ | refine Sub.trans Sub.drop ?_ | refine Sub.trans Sub.dropF ?_)) (hF ?_)
      first
      | exact gr_any (fun j hj => hok j hj (by omega))
      | exact gr_any_no hql (oddT c14)
      | exact gr_any_no hql (oddU c20 c24)
  · refine AL.nil (AK.seqN (AC.seq (AC.condF rfl (AC.exit (AK.seqX ?_)))))
    refine AK.seqX (AK.blkX (AK.seqN (AC.seq (AC.region (AL.go (AO.assign rfl rfl ?_))))))
    refine AL.nil (AK.seqN (AC.ret ?_))
    first | refine AK.ret (L' := L) (F' := F) Tryd.results29 rfl (by repeat (first | exact Sub.refl _ _ | refine Sub.trans Sub.drop ?_ | refine Sub.trans Sub.dropF ?_)) (hT ?_) | refine AK.ret (L' := L) (F' := F) Tryd.results29 rfl (by repeat (first | exact Sub.refl _ _ | refine Sub.trans Sub.drop ?_ | refine Sub.trans Sub.dropF ?_)) (hF ?_)
    first
    | exact gr_any (fun j hj => hok j hj (by omega))
    | exact gr_any_no hql (oddT c14)
    | exact gr_any_no hql (oddU c20 c24)
theorem rsyntaxF_c (l : List (List UInt8)) {a1 : Option Addr} {k1 c1 : Nat} (m1 : fS l a1 k1 c1 ∈ F) (hl : Sml l) (hT : l.any (oddW false) = false → R (.bool true) L F) (hF : l.any (oddW false) = true → R (.bool false) L F) :
    ACalls Tryd.prog W0 29 #[.slice a1 k1 c1, .bool false] L F R := by
  refine ACalls.body Tryd.func29 rfl Tryd.ntmps29 rfl ?_
  refine AC.seq (AC.region (AL.go (AO.assign rfl rfl (AL.nil (AK.seqN (AC.seq ?_))))))
  refine AC.seq (AC.region (AL.go (AO.move rfl rfl ?_)))
  refine AL.go (AO.len rfl rfl (fun hl8 => ?_) (hm := by repeat (first | exact mem0 | assumption | refine memS ?_)))
  refine AL.go (AO.move rfl rfl (AL.nil (AK.seqN (AC.block ?_))))
  refine AC.loopC (fun (q : Nat) => q ≤ l.length ∧ ∀ j (hj : j < l.length), j < q → oddW false l[j] = false) (fun q => [(1, .bool false), (7, .slice a1 k1 c1), (8, .int .i64 l.length), (9, .int .i64 (q : Int))]) (fun q => l.length - q) 0 ⟨by omega, by omega⟩ (by repeat (first | exact SubR.nil | refine SubR.cons rfl ?_)) ?_
  rintro q ⟨hq, hok⟩
  refine AC.seq (AC.region ?_)
  refine AL.go (AO.lss rfl rfl rfl (fun c10 => ?_) (fun c10 => ?_))
  · refine AL.nil (AK.seqN (AC.seq (AC.condT rfl (AC.skip (AK.seqN ?_)))))
    refine AC.seq (AC.block (AC.seq (AC.region ?_)))
    have hql : q < l.length := by omega
    refine AL.go (AO.indexAddr rfl rfl rfl rfl (by repeat (first | exact mem0 | assumption | refine memS ?_)) hql (fun _ _ => ?_))
    refine AL.go (AO.loadF rfl rfl ?_)
    intros
    refine AL.go (AO.assign rfl rfl (AL.nil (AK.seqN (AC.seq (AC.region (AL.go (AO.move rfl rfl ?_)))))))
    refine AL.go (AO.call rfl rfl (rword_c l[q] (hl _ (List.getElem_mem _)) (fun c14 => ?_) (fun c14 => ?_)))
    · refine AL.go (AO.not rfl rfl (AL.go (AO.move rfl rfl ?_)))
      refine AL.yes rfl rfl (AO.move rfl rfl ?_)
      refine AL.yes rfl rfl (AO.move rfl rfl (AL.no rfl rfl rfl rfl (AL.no rfl rfl rfl rfl (AL.yes rfl rfl (AO.pickF rfl rfl rfl (AL.yes rfl rfl (AO.move rfl rfl (AL.no rfl rfl rfl rfl ?_))))))))
      refine AL.no rfl rfl rfl rfl (AL.no rfl rfl rfl rfl (AL.yes rfl rfl (AO.pickF rfl rfl rfl (AL.go (AO.pickF rfl rfl rfl (AL.nil (AK.seqN ?_)))))))
      refine AC.condF rfl (AC.skip (AK.blkN (AK.seqN (AC.region (AL.go (AO.add rfl rfl rfl (by omega) (by omega) ?_))))))
      refine AL.go (AO.move rfl rfl (AL.nil ?_))
      refine AK.next (q + 1) ⟨by omega, step_okD (p := fun x => oddW false x = false) hok hql (oddY c14)⟩ (by omega) (by repeat (first | exact SubR.nil | refine SubR.cons rfl ?_)) (by repeat (first | exact Sub.refl _ _ | refine Sub.trans Sub.dropF ?_))
    · refine AL.go (AO.not rfl rfl (AL.go (AO.move rfl rfl (AL.no rfl rfl rfl rfl (AL.no rfl rfl rfl rfl (AL.no rfl rfl rfl rfl (AL.no rfl rfl rfl rfl ?_)))))))
      refine AL.no rfl rfl rfl rfl (AL.no rfl rfl rfl rfl (AL.no rfl rfl rfl rfl (AL.no rfl rfl rfl rfl (AL.no rfl rfl rfl rfl (AL.no rfl rfl rfl rfl ?_)))))
      refine AL.go (AO.pickT rfl rfl rfl (AL.nil (AK.seqN (AC.condT rfl (AC.seq (AC.region ?_))))))
      refine AL.go (AO.assign rfl rfl (AL.nil (AK.seqN (AC.ret (AK.blkR (AK.seqR ?_))))))
      refine AK.seqR (AK.blkR (AK.seqR ?_))
      first | refine AK.ret (L' := L) (F' := F) Tryd.results29 rfl (by repeat (first | exact Sub.refl _ _ | refine Sub.trans Sub.drop ?_ | refine Sub.trans Sub.dropF ?_)) (hT ?_) | refine AK.ret (L' := L) (F' := F) Tryd.results29 rfl (by repeat (first | exact Sub.refl _ _ | refine Sub.trans Sub.drop ?_ | refine Sub.trans Sub.dropF ?_)) (hF ?_)
      first
      | exact gr_any (fun j hj => hok j hj (by omega))
      | exact gr_any_no hql (oddT c14)
  · refine AL.nil (AK.seqN (AC.seq (AC.condF rfl (AC.exit (AK.seqX ?_)))))
    refine AK.seqX (AK.blkX (AK.seqN (AC.seq (AC.region (AL.go (AO.assign rfl rfl ?_))))))
    refine AL.nil (AK.seqN (AC.ret ?_))
    first | refine AK.ret (L' := L) (F' := F) Tryd.results29 rfl (by repeat (first | exact Sub.refl _ _ | refine Sub.trans Sub.drop ?_ | refine Sub.trans Sub.dropF ?_)) (hT ?_) | refine AK.ret (L' := L) (F' := F) Tryd.results29 rfl (by repeat (first | exact Sub.refl _ _ | refine Sub.trans Sub.drop ?_ | refine Sub.trans Sub.dropF ?_)) (hF ?_)
    first
    | exact gr_any (fun j hj => hok j hj (by omega))
    | exact gr_any_no hql (oddT c14)
theorem rlengthy_c (l : List (List UInt8)) {a1 : Option Addr} {k1 c1 : Nat} (m1 : fS l a1 k1 c1 ∈ F) (hT : lengthyS l = true → R (.bool true) L F) (hF : lengthyS l = false → R (.bool false) L F) :
    ACalls Tryd.prog W0 31 #[.slice a1 k1 c1] L F R := by
  refine ACalls.body Tryd.func31 rfl Tryd.ntmps31 rfl ?_
  refine AC.seq (AC.region (AL.go (AO.assign rfl rfl (AL.nil (AK.seqN (AC.seq ?_))))))
  refine AC.seq (AC.region (AL.go (AO.move rfl rfl ?_)))
  refine AL.go (AO.len rfl rfl (fun hl6 => ?_) (hm := by repeat (first | exact mem0 | assumption | refine memS ?_)))
  refine AL.go (AO.move rfl rfl (AL.nil (AK.seqN (AC.block ?_))))
  refine AC.loopC (fun (q : Nat) => q ≤ l.length ∧ ∀ j (hj : j < l.length), j < q → longS l[j] = false) (fun q => [(0, .slice a1 k1 c1), (5, .slice a1 k1 c1), (6, .int .i64 l.length), (7, .int .i64 (q : Int))]) (fun q => l.length - q) 0 ⟨by omega, by omega⟩ (by repeat (first | exact SubR.nil | refine SubR.cons rfl ?_)) ?_
  rintro q ⟨hq, hok⟩
  refine AC.seq (AC.region ?_)
  refine AL.go (AO.lss rfl rfl rfl (fun c8 => ?_) (fun c8 => ?_))
  · refine AL.nil (AK.seqN (AC.seq (AC.condT rfl (AC.skip (AK.seqN ?_)))))
    refine AC.seq (AC.block (AC.seq (AC.region ?_)))
    have hql : q < l.length := by omega
    refine AL.go (AO.indexAddr rfl rfl rfl rfl (by repeat (first | exact mem0 | assumption | refine memS ?_)) hql (fun _ _ => ?_))
    refine AL.go (AO.loadF rfl rfl ?_)
    intros
    refine AL.go (AO.assign rfl rfl (AL.nil (AK.seqN (AC.seq (AC.region (AL.go (AO.move rfl rfl ?_)))))))
    refine AL.go (AO.lenS rfl rfl ?_)
    refine AL.go (AO.gtr rfl rfl rfl (fun c13 => ?_) (fun c13 => ?_))
    · refine AL.nil (AK.seqN (AC.condT rfl (AC.seq (AC.region (AL.go (AO.assign rfl rfl ?_))))))
      refine AL.nil (AK.seqN (AC.ret (AK.blkR (AK.seqR (AK.seqR ?_)))))
      refine AK.blkR (AK.seqR ?_)
      first | refine AK.ret (L' := L) (F' := F) Tryd.results31 rfl (by repeat (first | exact Sub.refl _ _ | refine Sub.trans Sub.drop ?_ | refine Sub.trans Sub.dropF ?_)) (hT ?_) | refine AK.ret (L' := L) (F' := F) Tryd.results31 rfl (by repeat (first | exact Sub.refl _ _ | refine Sub.trans Sub.drop ?_ | refine Sub.trans Sub.dropF ?_)) (hF ?_)
      unfold lengthyS
      first
      | (rw [gr_any_no (p := longS) hql (decide_eq_true (by omega))]; rfl)
      | (rw [gr_any (p := longS) (fun j hj => hok j hj (by omega)), decide_eq_true (by omega)]; rfl)
      | (rw [gr_any (p := longS) (fun j hj => hok j hj (by omega)), decide_eq_false (by omega)]; rfl)
    · refine AL.nil (AK.seqN (AC.condF rfl (AC.skip (AK.blkN (AK.seqN ?_)))))
      refine AC.region (AL.go (AO.add rfl rfl rfl (by omega) (by omega) (AL.go (AO.move rfl rfl (AL.nil ?_)))))
      refine AK.next (q + 1) ⟨by omega, step_okD (p := fun x => longS x = false) hok hql (decide_eq_false (by omega))⟩ (by omega) (by repeat (first | exact SubR.nil | refine SubR.cons rfl ?_)) (by repeat (first | exact Sub.refl _ _ | refine Sub.trans Sub.dropF ?_))
  · refine AL.nil (AK.seqN (AC.seq (AC.condF rfl (AC.exit (AK.seqX ?_)))))
    refine AK.seqX (AK.blkX (AK.seqN (AC.seq (AC.region (AL.go (AO.move rfl rfl ?_))))))
    refine AL.go (AO.len rfl rfl (fun hl16 => ?_) (hm := by repeat (first | exact mem0 | assumption | refine memS ?_)))
    refine AL.go (AO.gtr rfl rfl rfl (fun c17 => ?_) (fun c17 => ?_))
    · refine AL.go (AO.assign rfl rfl (AL.nil (AK.seqN (AC.ret ?_))))
      first | refine AK.ret (L' := L) (F' := F) Tryd.results31 rfl (by repeat (first | exact Sub.refl _ _ | refine Sub.trans Sub.drop ?_ | refine Sub.trans Sub.dropF ?_)) (hT ?_) | refine AK.ret (L' := L) (F' := F) Tryd.results31 rfl (by repeat (first | exact Sub.refl _ _ | refine Sub.trans Sub.drop ?_ | refine Sub.trans Sub.dropF ?_)) (hF ?_)
      unfold lengthyS
      first
      | (rw [gr_any_no (p := longS) hql (decide_eq_true (by omega))]; rfl)
      | (rw [gr_any (p := longS) (fun j hj => hok j hj (by omega)), decide_eq_true (by omega)]; rfl)
      | (rw [gr_any (p := longS) (fun j hj => hok j hj (by omega)), decide_eq_false (by omega)]; rfl)
    · refine AL.go (AO.assign rfl rfl (AL.nil (AK.seqN (AC.ret ?_))))
      first | refine AK.ret (L' := L) (F' := F) Tryd.results31 rfl (by repeat (first | exact Sub.refl _ _ | refine Sub.trans Sub.drop ?_ | refine Sub.trans Sub.dropF ?_)) (hT ?_) | refine AK.ret (L' := L) (F' := F) Tryd.results31 rfl (by repeat (first | exact Sub.refl _ _ | refine Sub.trans Sub.drop ?_ | refine Sub.trans Sub.dropF ?_)) (hF ?_)
      unfold lengthyS
      first
      | (rw [gr_any_no (p := longS) hql (decide_eq_true (by omega))]; rfl)
      | (rw [gr_any (p := longS) (fun j hj => hok j hj (by omega)), decide_eq_true (by omega)]; rfl)
      | (rw [gr_any (p := longS) (fun j hj => hok j hj (by omega)), decide_eq_false (by omega)]; rfl)
theorem rvalue_c (s : List UInt8) (hs : s.length < 4294967281) (hn : numericS s = true) (hv : valS s ≤ 9223372036854775807) (h : R (.int .i64 (valS s : Int)) L F) : ACalls Tryd.prog W0 33 #[S s] L F R := by
  have hd : s.all digitC = true := by simp only [numericS, Bool.and_eq_true] at hn; exact hn.1
  refine ACalls.body Tryd.func33 rfl Tryd.ntmps33 rfl ?_
  refine AC.seq (AC.region (AL.go (AO.assign rfl rfl (AL.nil (AK.seqN (AC.seq ?_))))))
  refine AC.region (AL.go (AO.assign rfl rfl (AL.nil (AK.seqN (AC.seq (AC.seq ?_))))))
  refine AC.region (AL.go (AO.assign rfl rfl (AL.nil (AK.seqN (AC.block ?_)))))
  refine AC.loopC (fun (k : Nat) => k ≤ s.length) (fun k => [(0, S s), (3, .int .i64 ((valFrom 0 (s.take k) : Nat) : Int)), (4, .int .i64 (k : Int))]) (fun k => s.length - k) 0 (by omega) (by repeat (first | exact SubR.nil | refine SubR.cons rfl ?_)) ?_
  rintro k hk
  refine AC.seq (AC.seq (AC.region (AL.go (AO.move rfl rfl (AL.go (AO.move rfl rfl (AL.go (AO.lenS rfl rfl ?_))))))))
  refine AL.go (AO.lss rfl rfl rfl (fun c8 => ?_) (fun c8 => ?_))
  · refine AL.nil (AK.seqN (AC.condT rfl (AC.skip (AK.seqN (AC.seq ?_)))))
    refine AC.block (AC.region (AL.go (AO.move rfl rfl ?_)))
    have hkl : k < s.length := by omega
    have hdk : 48 ≤ s[k].toNat ∧ s[k].toNat ≤ 57 := by
     have := List.all_eq_true.1 hd _ (List.getElem_mem hkl)
     simpa [digitC] using this
    have hvs := val_step hkl
    have hvt := val_take (s := s) (k + 1)
    refine AL.go (AO.mul rfl rfl rfl (by omega) (by omega) ?_)
    refine AL.go (AO.move rfl rfl (AL.go (AO.move rfl rfl ?_)))
    refine AL.go (AO.indexS rfl rfl rfl rfl hkl ?_)
    refine AL.go (AO.subU rfl rfl rfl (by omega) (by omega) ?_)
    refine AL.go (AO.convI Tryd.underlying5 Tryd.underlying3 rfl rfl (by omega) (by omega) ?_)
    refine AL.go (AO.add rfl rfl rfl (by omega) (by omega) ?_)
    rw [show (10 : Int) * ((valFrom 0 (s.take k) : Nat) : Int) + (((s[k].toNat : Nat) : Int) - 48) = ((valFrom 0 (s.take (k + 1)) : Nat) : Int) by omega]
    refine AL.go (AO.assign rfl rfl (AL.nil (AK.blkN (AK.seqN (AC.region (AL.go (AO.move rfl rfl ?_)))))))
    refine AL.go (AO.add rfl rfl rfl (by omega) (by omega) (AL.go (AO.assign rfl rfl (AL.nil ?_))))
    refine AK.next (k + 1) (by omega) (by omega) (by repeat (first | exact SubR.nil | refine SubR.cons rfl ?_)) (Sub.refl _ _)
  · refine AL.nil (AK.seqN (AC.condF rfl (AC.exit (AK.seqX (AK.seqX ?_)))))
    refine AK.blkX (AK.seqN (AC.seq (AC.region (AL.go (AO.move rfl rfl (AL.go (AO.assign rfl rfl ?_)))))))
    refine AL.nil (AK.seqN (AC.ret ?_))
    refine AK.ret (L' := L) (F' := F) Tryd.results33 rfl (by repeat (first | exact Sub.refl _ _ | refine Sub.trans Sub.drop ?_ | refine Sub.trans Sub.dropF ?_)) ?_
    rw [List.take_of_length_le (by omega)]
    exact h
end
end Go.Sy
