/- A type that asks for no params stays; each param instead of itself changes nothing; in two steps it is the same as in one: the statement's walk. -/
import Derived.Test.YthbngbiodamndaaDoorSubS
import Derived.Test.YthbngbiodamndaaDoorSubL
namespace Go.Sy
open Go Go.Proofs Go.RowKit

theorem put_err {out : List Ty} {ins : List Int} {t : Ty} {e : Int} (h : putS out ins t = .error e) : e ≠ 0 := by
  unfold putS at h
  by_cases c : t.kind = 7 ∧ oddP out t
  · rw [if_pos c] at h; injection h with h; omega
  · rw [if_neg c] at h
    by_cases c2 : (addF out (if t.kind = 7 then termsT out.length t else t)).2.2 = 0
    · rw [if_pos c2] at h; cases h
    · rw [if_neg c2] at h
      injection h with h
      rw [← h]; exact c2
theorem subN_err {l : List Ty} {args A : List Int} {M : List Bool} {e : Int} : ∀ n, subN l args A M n = .error e → e ≠ 0
  | 0, h => by cases h
  | n + 1, h => by
    rw [subN] at h
    cases hs : subN l args A M n with
    | error e2 => rw [hs] at h; injection h with h; subst h; exact subN_err n hs
    | ok x =>
      obtain ⟨out, ins⟩ := x
      rw [hs] at h
      simp only at h
      unfold stepS at h
      split at h
      · cases h
      · split at h
        · cases h
        · exact put_err h
theorem subR_err {l : List Ty} {i : Nat} {args : List Int} {e : Int} (h : subR l i args = .error e) : e ≠ 0 := by
  unfold subR at h
  split at h
  · injection h with h; omega
  · cases hs : subN l args (asksL (l.take (i + 1))) (partsL l i) (i + 1) with
    | error e2 => rw [hs] at h; injection h with h; subst h; exact subN_err _ hs
    | ok x => obtain ⟨out, ins⟩ := x; rw [hs] at h; cases h
theorem add_param {own : List Ty} {k : Int} (hr : rightP own) (hl : own.length < 400) (h0 : 0 ≤ k) (h1 : k < 16) {m : List Ty} {i e : Int} (h : AddP own (paramN k) m i e) : e = 0 ∧ rightP m ∧ own <+: m ∧ m.length ≤ own.length + 1 ∧ ∃ q : Nat, ∃ hq : q < m.length, i = (q : Int) ∧ m[q] = paramN k := by
  have hm := param_made own h0 h1
  have he : e = 0 ∧ m.length ≤ own.length + 1 := by
    rcases h with ⟨q, hq, e1, e2, e3, e4⟩ | ⟨n, ⟨h2, _⟩ | ⟨_, h3, _⟩ | ⟨_, _, e2, _, e4⟩⟩
    · subst e2; exact ⟨e4, by omega⟩
    · exact absurd hm h2
    · omega
    · subst e2; exact ⟨e4, by simp⟩
  obtain ⟨r1, r2, _, _⟩ := add_pre hr h he.1
  obtain ⟨q, hq, e1, e2⟩ := add_at h he.1
  exact ⟨he.1, r1, r2, he.2, q, hq, e1, e2⟩
theorem take_pre {l m : List Ty} (h : l <+: m) {n : Nat} (hn : n ≤ l.length) : m.take n = l.take n := by
  obtain ⟨r, rfl⟩ := h
  rw [List.take_append_of_le_length hn]

/-- The params that stand instead of themselves so far. -/
structure OwnS (l own : List Ty) (sf : List Int) (k : Nat) : Prop where
  right : rightP own
  pre : l <+: own
  len : own.length ≤ l.length + k
  many : sf.length = k
  each : ∀ j : Nat, j < k → ∃ q : Nat, ∃ hq : q < own.length, sf[j]? = some (q : Int) ∧ own[q] = paramN (j : Int)
theorem OwnS.step {l own m : List Ty} {self : List Int} {k q : Nat} (h : OwnS l own self k) (hr : rightP m) (hp : own <+: m) (hl : m.length ≤ own.length + 1) (hq : q < m.length) (he : m[q] = paramN (k : Int)) : OwnS l m (self ++ [(q : Int)]) (k + 1) := by
  have hml := hp.length_le
  have hmany := h.many
  refine ⟨hr, h.pre.trans hp, by have := h.len; omega, by rw [List.length_append, hmany]; rfl, fun j hj => ?_⟩
  by_cases e : j = k
  · subst e
    exact ⟨q, hq, by rw [List.getElem?_append_right (by omega), hmany]; simp, he⟩
  · obtain ⟨p, hpl, e1, e2⟩ := h.each j (by omega)
    exact ⟨p, by omega, by rw [List.getElem?_append_left (by omega)]; exact e1, by rw [get_pre hp hpl]; exact e2⟩
/-- The args with others instead, so far. -/
structure BothS (z now : List Ty) (args others both : List Int) (u : Nat) : Prop where
  right : rightP now
  pre : z <+: now
  many : both.length = u
  each : ∀ (j : Nat) (a : Int), j < u → args[j]? = some a → ∃ b : Nat, both[j]? = some (b : Int) ∧ SubS now others a.toNat b
theorem BothS.step {z now m : List Ty} {args others both : List Int} {u : Nat} (h : BothS z now args others both u) (hgood : ∀ a ∈ others, 0 ≤ a ∧ a < now.length) (hr : rightP m) (hp : now <+: m) {q : Nat} (hu : u < args.length) (hS : SubS m others args[u].toNat q) : BothS z m args others (both ++ [(q : Int)]) (u + 1) := by
  have hmany := h.many
  refine ⟨hr, h.pre.trans hp, by rw [List.length_append, hmany]; rfl, fun j a hj ha => ?_⟩
  by_cases e : j = u
  · subst e
    rw [List.getElem?_eq_getElem hu] at ha
    injection ha with ha
    subst ha
    exact ⟨q, by rw [List.getElem?_append_right (by omega), hmany]; simp, hS⟩
  · obtain ⟨b, e1, e2⟩ := h.each j a (by omega) ha
    exact ⟨b, by rw [List.getElem?_append_left (by omega)]; exact e1, e2.mono hp hgood⟩

attribute [local irreducible] AC AT AO AK AH ACalls Sub Res.cells Res.obj Res.nix Res.own Res.map Exit.then Exit.inBlock bodyPost Code.wp Next Post Kont
section
variable {W0 : World} {L : List Res} {F : List Fact} {R : Value → List Res → List Fact → Prop}
set_option maxRecDepth 100000
set_option maxHeartbeats 16000000
theorem steps_c (g : Glob W0) (l : List Ty) (hl : ∀ t ∈ l, TyUp t) (i : Int) (args others : List Int) {a a2 a3 : Option Addr} {k c k2 c2 k3 c3 : Nat} (mL : fL l a k c ∈ F) (mA : fI args a2 k2 c2 ∈ F) (mB : fI others a3 k3 c3 ∈ F) (h : R (.bool true) L F) :
    ACalls Tryd.prog W0 6 #[.slice a k c, .int .i64 i, .slice a2 k2 c2, .slice a3 k3 c3] L F R := by
  refine ACalls.weak ((Sub.nilF (sz := 5)).trans (Sub.nilF (sz := 1))) ?_
  have hok := fewS_ok (m := 60) hl
  have hlen : (fewS l 60).length ≤ 60 := by simp only [fewS, List.length_map, List.length_take]; omega
  have hal : (fewI args 4).length ≤ 4 := by simp only [fewI, List.length_take]; omega
  have hbl : (fewI others 4).length ≤ 4 := by simp only [fewI, List.length_take]; omega
  by_cases hin : rightP (fewS l 60) ∧ 0 ≤ i ∧ i < (fewS l 60).length
  · obtain ⟨hr, hi0, hi1⟩ := hin
    obtain ⟨n, rfl⟩ : ∃ n : Nat, i = n := ⟨i.toNat, by omega⟩
    have hn : n < (fewS l 60).length := by omega
    obtain ⟨m, hm⟩ : ∃ m : Nat, (asksL ((fewS l 60).take (n + 1))).getD n 0 = (m : Int) := ⟨_, (Int.toNat_of_nonneg (asks_nonneg hr hn (Nat.le_refl n))).symm⟩
    have hm16 := asks_le hr (n + 1) (by omega) n
    by_cases hm0 : m = 0
    · subst hm0
      refine ACalls.body Tryd.func6 rfl Tryd.ntmps6 rfl ?_
      refine AC.seq (AC.region (AL.go (AO.assign rfl rfl (AL.nil (AK.seqN (AC.seq ?_))))))
      refine AC.draw (fun _ => false) [] (by repeat (first | exact BxIn.nil | refine BxIn.cons (by repeat (first | exact has0 | assumption | apply hasS)) ?_)) rfl (fun hx hX => ?_)
      have hk2 := (len_of_fact (hX (fI args a2 k2 c2) (by repeat (first | exact mem0 | assumption | refine memS ?_)))).1
      have hc2 := (len_of_fact (hX (fI args a2 k2 c2) (by repeat (first | exact mem0 | assumption | refine memS ?_)))).2
      have hk3 := (len_of_fact (hX (fI others a3 k3 c3) (by repeat (first | exact mem0 | assumption | refine memS ?_)))).1
      have hc3 := (len_of_fact (hX (fI others a3 k3 c3) (by repeat (first | exact mem0 | assumption | refine memS ?_)))).2
      subst hk2 hk3
      refine AH.takeW (i := 0) rfl (Y.move rfl) (by kernel_rfl) rfl rfl ?_
      refine AH.takeW (i := 2) rfl (Y.move rfl) (by kernel_rfl) rfl rfl ?_
      refine AH.takeW (i := 3) rfl (Y.move rfl) (by kernel_rfl) rfl rfl ?_
      refine AH.takeW (i := 4) rfl (Y.lenV rfl) (by kernel_rfl) rfl rfl ?_
      refine AH.takeW (i := 5) rfl (Y.min rfl rfl) (by kernel_rfl) rfl rfl ?_
      refine AH.takeW (i := 6) rfl (Y.sliceH (j' := min args.length 4) rfl rfl (by omega) (by omega)) (by kernel_rfl) rfl rfl ?_
      refine AH.takeW (i := 7) rfl (Y.move rfl) (by kernel_rfl) rfl rfl ?_
      refine AH.takeW (i := 8) rfl (Y.move rfl) (by kernel_rfl) rfl rfl ?_
      refine AH.takeW (i := 9) rfl (Y.lenV rfl) (by kernel_rfl) rfl rfl ?_
      refine AH.takeW (i := 10) rfl (Y.min rfl rfl) (by kernel_rfl) rfl rfl ?_
      refine AH.takeW (i := 11) rfl (Y.sliceH (j' := min others.length 4) rfl rfl (by omega) (by omega)) (by kernel_rfl) rfl rfl ?_
      refine AH.one (i := 1) (by kernel_rfl) rfl rfl (fun _ => ?_)
      refine AO.call rfl rfl (sfew_c l 60 (by decide) (show fL l a k c ∈ _ from (by repeat (first | exact mem0 | assumption | refine memS ?_))) (fun a40 k40 c40 => ?_))
      refine AT.held (by repeat (first | exact BxIn.nil | refine BxIn.cons (by repeat (first | exact has0 | assumption | apply hasS)) ?_)) (by repeat (first | exact mem0 | refine memS ?_)) ?_
      refine AH.takeW (i := 12) rfl (Y.assign rfl) (by kernel_rfl) rfl rfl ?_
      refine AH.takeW (i := 13) rfl (Y.assign rfl) (by kernel_rfl) rfl rfl ?_
      refine AH.takeW (i := 14) rfl (Y.assign rfl) (by kernel_rfl) rfl rfl ?_
      refine AH.done (by kernel_rfl) ?_
      refine AK.seqN (AC.seq (AC.region (AL.go (AO.move rfl rfl (AL.go (AO.move rfl rfl ?_))))))
      refine AL.go (AO.call rfl rfl (params_c g (fewS l 60) hok (n : Int) (by repeat (first | exact mem0 | assumption | refine memS ?_)) (fun c => absurd hr c) (fun _ c => absurd ⟨hi0, hi1⟩ c) (fun _ n2 e2 _ => ?_)))
      obtain rfl : n = n2 := by omega
      rw [hm]
      refine AL.go (AO.move rfl rfl (AL.go (AO.extract rfl rfl rfl (AL.go (AO.extract rfl rfl rfl (AL.go (AO.assign rfl rfl (AL.go (AO.assign rfl rfl (AL.nil ?_))))))))))
      refine AK.seqN (AC.seq (AC.seq (AC.region (AL.go (AO.move rfl rfl ?_)))))
      refine AL.go (AO.neq rfl rfl rfl (fun c58 => absurd rfl c58) (fun _ => ?_))
      refine AL.nil (AK.seqN (AC.condF rfl (AC.skip (AK.seqN (AC.seq ?_)))))
      refine AC.seq (AC.region (AL.go (AO.move rfl rfl ?_)))
      refine AL.go (AO.eql rfl rfl rfl (fun _ => ?_) (fun c65 => absurd rfl c65))
      refine AL.nil (AK.seqN (AC.condT rfl (AC.seq (AC.region (AL.go (AO.move rfl rfl ?_))))))
      refine AL.go (AO.move rfl rfl ?_)
      refine AL.go (AO.call rfl rfl (substIn_c g (fewS l 60) hok hr n hn [] (by decide) (show fL (fewS l 60) a40 k40 c40 ∈ _ from (by repeat (first | exact mem0 | assumption | refine memS ?_))) (show Fact.slc (.slice none 0 0) 1 [] ∈ _ from (by repeat (first | exact mem0 | assumption | refine memS ?_))) (show Fact.slc (.slice none 0 0) 5 [] ∈ _ from (by repeat (first | exact mem0 | assumption | refine memS ?_))) (fun e he => absurd (err_ok he (subR_zero hr hn hm)) id) (fun o q a69 k69 c69 hq => ?_)))
      obtain ⟨rfl, rfl⟩ := ok_inj hq (subR_zero hr hn hm)
      refine AL.go (AO.move rfl rfl (AL.go (AO.extract rfl rfl rfl (AL.go (AO.extract rfl rfl rfl (AL.go (AO.extract rfl rfl rfl (AL.go (AO.assign rfl rfl (AL.go (AO.assign rfl rfl ?_)))))))))))
      refine AL.go (AO.assign rfl rfl (AL.nil (AK.seqN (AC.seq (AC.region ?_)))))
      refine AL.go (AO.call rfl rfl (salive_c g ?_))
      refine AL.go (AO.move rfl rfl (AL.yes rfl rfl (AO.move rfl rfl ?_)))
      refine AL.yes rfl rfl (AO.eql rfl rfl rfl (fun _ => ?_) (fun c76 => absurd rfl c76))
      refine AL.go (AO.pickT rfl rfl rfl (AL.go (AO.move rfl rfl (AL.yes rfl rfl (AO.move rfl rfl (AL.yes rfl rfl (AO.move rfl rfl ?_)))))))
      refine AL.yes rfl rfl (AO.eql rfl rfl rfl (fun _ => ?_) (fun c81 => absurd rfl c81))
      refine AL.go (AO.pickT rfl rfl rfl (AL.go (AO.move rfl rfl (AL.yes rfl rfl (AO.move rfl rfl (AL.yes rfl rfl (AO.move rfl rfl ?_)))))))
      refine AL.yes rfl rfl (AO.call rfl rfl (ref_Arenas_c (fewS l 60) (fewS l 60) (fun _ => ?_) (fun c86 => absurd rfl c86) (by repeat (first | exact mem0 | assumption | refine memS ?_)) (by repeat (first | exact mem0 | assumption | refine memS ?_))))
      refine AL.go (AO.pickT rfl rfl rfl (AL.go (AO.assign rfl rfl (AL.nil (AK.seqN (AC.ret (AK.seqR ?_)))))))
      exact AK.ret (L' := L) (F' := F) Tryd.results6 rfl (by repeat (first | exact Sub.refl _ _ | refine Sub.trans Sub.drop ?_ | refine Sub.trans Sub.dropF ?_)) h
    · skip
      refine ACalls.body Tryd.func6 rfl Tryd.ntmps6 rfl ?_
      refine AC.seq (AC.region (AL.go (AO.assign rfl rfl (AL.nil (AK.seqN (AC.seq ?_))))))
      refine AC.draw (fun _ => false) [] (by repeat (first | exact BxIn.nil | refine BxIn.cons (by repeat (first | exact has0 | assumption | apply hasS)) ?_)) rfl (fun hx hX => ?_)
      have hk2 := (len_of_fact (hX (fI args a2 k2 c2) (by repeat (first | exact mem0 | assumption | refine memS ?_)))).1
      have hc2 := (len_of_fact (hX (fI args a2 k2 c2) (by repeat (first | exact mem0 | assumption | refine memS ?_)))).2
      have hk3 := (len_of_fact (hX (fI others a3 k3 c3) (by repeat (first | exact mem0 | assumption | refine memS ?_)))).1
      have hc3 := (len_of_fact (hX (fI others a3 k3 c3) (by repeat (first | exact mem0 | assumption | refine memS ?_)))).2
      subst hk2 hk3
      refine AH.weak (Sub.part (enc := eI) (lst := args) 0 (min args.length 4) c2 (show fI args _ _ c2 ∈ _ from (by repeat (first | exact mem0 | assumption | refine memS ?_))) (by omega) (by omega) (by omega) (by omega)) ?_
      refine AH.weak (Sub.part (enc := eI) (lst := others) 0 (min others.length 4) c3 (show fI others _ _ c3 ∈ _ from (by repeat (first | exact mem0 | assumption | refine memS ?_))) (by omega) (by omega) (by omega) (by omega)) ?_
      refine AH.takeW (i := 0) rfl (Y.move rfl) (by kernel_rfl) rfl rfl ?_
      refine AH.takeW (i := 2) rfl (Y.move rfl) (by kernel_rfl) rfl rfl ?_
      refine AH.takeW (i := 3) rfl (Y.move rfl) (by kernel_rfl) rfl rfl ?_
      refine AH.takeW (i := 4) rfl (Y.lenV rfl) (by kernel_rfl) rfl rfl ?_
      refine AH.takeW (i := 5) rfl (Y.min rfl rfl) (by kernel_rfl) rfl rfl ?_
      refine AH.takeW (i := 6) rfl (Y.sliceH (j' := min args.length 4) rfl rfl (by omega) (by omega)) (by kernel_rfl) rfl rfl ?_
      refine AH.takeW (i := 7) rfl (Y.move rfl) (by kernel_rfl) rfl rfl ?_
      refine AH.takeW (i := 8) rfl (Y.move rfl) (by kernel_rfl) rfl rfl ?_
      refine AH.takeW (i := 9) rfl (Y.lenV rfl) (by kernel_rfl) rfl rfl ?_
      refine AH.takeW (i := 10) rfl (Y.min rfl rfl) (by kernel_rfl) rfl rfl ?_
      refine AH.takeW (i := 11) rfl (Y.sliceH (j' := min others.length 4) rfl rfl (by omega) (by omega)) (by kernel_rfl) rfl rfl ?_
      refine AH.one (i := 1) (by kernel_rfl) rfl rfl (fun _ => ?_)
      refine AO.call rfl rfl (sfew_c l 60 (by decide) (show fL l a k c ∈ _ from (by repeat (first | exact mem0 | assumption | refine memS ?_))) (fun a40 k40 c40 => ?_))
      refine AT.held (by repeat (first | exact BxIn.nil | refine BxIn.cons (by repeat (first | exact has0 | assumption | apply hasS)) ?_)) (by repeat (first | exact mem0 | refine memS ?_)) ?_
      refine AH.takeW (i := 12) rfl (Y.assign rfl) (by kernel_rfl) rfl rfl ?_
      refine AH.takeW (i := 13) rfl (Y.assign rfl) (by kernel_rfl) rfl rfl ?_
      refine AH.takeW (i := 14) rfl (Y.assign rfl) (by kernel_rfl) rfl rfl ?_
      refine AH.done (by kernel_rfl) ?_
      refine AK.seqN (AC.seq (AC.region (AL.go (AO.move rfl rfl (AL.go (AO.move rfl rfl ?_))))))
      refine AL.go (AO.call rfl rfl (params_c g (fewS l 60) hok (n : Int) (by repeat (first | exact mem0 | assumption | refine memS ?_)) (fun c => absurd hr c) (fun _ c => absurd ⟨hi0, hi1⟩ c) (fun _ n2 e2 _ => ?_)))
      obtain rfl : n = n2 := by omega
      rw [hm]
      refine AL.go (AO.move rfl rfl (AL.go (AO.extract rfl rfl rfl (AL.go (AO.extract rfl rfl rfl (AL.go (AO.assign rfl rfl (AL.go (AO.assign rfl rfl (AL.nil ?_))))))))))
      refine AK.seqN (AC.seq (AC.seq (AC.region (AL.go (AO.move rfl rfl ?_)))))
      refine AL.go (AO.neq rfl rfl rfl (fun c58 => absurd rfl c58) (fun _ => ?_))
      refine AL.nil (AK.seqN (AC.condF rfl (AC.skip (AK.seqN (AC.seq ?_)))))
      refine AC.seq (AC.region (AL.go (AO.move rfl rfl ?_)))
      refine AL.go (AO.eql rfl rfl rfl (fun c65 => absurd c65 (by omega)) (fun _ => ?_))
      refine AL.nil (AK.seqN (AC.condF rfl (AC.skip (AK.seqN (AC.seq ?_)))))
      refine AC.region (AL.go (AO.move rfl rfl (AL.go (AO.assign rfl rfl (AL.go (AO.assign rfl rfl (AL.nil (AK.seqN ?_))))))))
      refine AC.seq (AC.region (AL.go (AO.assign rfl rfl (AL.nil (AK.seqN (AC.seq ?_))))))
      refine AC.seq (AC.region (AL.go (AO.move rfl rfl (AL.go (AO.move rfl rfl (AL.nil (AK.seqN ?_)))))))
      refine AC.block ?_
      refine AC.loop (fun (x : Nat × (List Ty × List Int) × (Option Addr × Nat × Nat) × (Option Addr × Nat × Nat)) => x.1 ≤ m ∧ OwnS (fewS l 60) x.2.1.1 x.2.1.2 x.1) (fun x => [(0, .slice a40 k40 c40), (1, .int .i64 (n : Int)), (2, sliced a2 0 (min args.length 4) c2 1), (3, sliced a3 0 (min others.length 4) c3 1), (14, .slice x.2.2.1.1 x.2.2.1.2.1 x.2.2.1.2.2), (15, .bool true), (16, .slice x.2.2.2.1 x.2.2.2.2.1 x.2.2.2.2.2), (89, .int .i64 (m : Int)), (90, .int .i64 (x.1 : Int))]) (fun x => Res.own (.slice x.2.2.2.1 x.2.2.2.2.1 x.2.2.2.2.2) 3 1 (x.2.1.2.map eI) :: L) (fun x => fL x.2.1.1 x.2.2.1.1 x.2.2.1.2.1 x.2.2.1.2.2 :: _) (fun x => m - x.1) (0, (fewS l 60, []), (a40, k40, c40), (none, 0, 0)) ⟨Nat.zero_le _, hr, List.prefix_rfl, Nat.le_refl _, rfl, fun j hj => absurd hj (by simp)⟩ (by repeat (first | exact SubR.nil | refine SubR.cons rfl ?_)) ((Sub.facts (mem1 (by repeat (first | exact mem0 | assumption | refine memS ?_)) (fun x hx => hx))).trans (Sub.ownNil (e := 3) (sz := 1))) ?_
      rintro ⟨u, ⟨own, self⟩, ⟨aO, kO, cO⟩, ⟨aS, kS, cS⟩⟩ ⟨hu, hown⟩
      simp only at hu hown ⊢
      refine AC.seq (AC.region ?_)
      refine AL.go (AO.lss rfl rfl rfl (fun c91 => ?_) (fun c91 => ?_))
      · refine AL.nil (AK.seqN (AC.seq (AC.condT rfl (AC.skip (AK.seqN ?_)))))
        refine AC.seq (AC.block (AC.seq (AC.region (AL.go (AO.move rfl rfl (AL.go (AO.assign rfl rfl ?_)))))))
        refine AL.nil (AK.seqN (AC.seq (AC.region (AL.go (AO.move rfl rfl (AL.go (AO.move rfl rfl ?_)))))))
        have hum : u < m := by omega
        have hol := hown.len
        have hsl := hown.many
        refine AL.go (AO.build rfl rfl rfl ?_)
        refine AL.go (AO.call rfl rfl (add2_c g own (right_ok hown.right) (paramN (u : Int)) (made_ok (l := own) (by omega) (param_made own (by omega) (by omega))) (show fL own aO kO cO ∈ _ from (by repeat (first | exact mem0 | assumption | refine memS ?_))) (show Fact.slc (.slice none 0 0) 1 [] ∈ _ from (by repeat (first | exact mem0 | assumption | refine memS ?_))) (show Fact.slc (.slice none 0 0) 1 [] ∈ _ from (by repeat (first | exact mem0 | assumption | refine memS ?_))) (fun c => absurd hown.right c) (fun _ m97 i97 e97 a97 k97 c97 hP => ?_)))
        obtain ⟨rfl, hr97, hp97, hl97, q97, hq97, rfl, he97⟩ := add_param hown.right (by omega) (by omega) (by omega) hP
        refine AL.go (AO.move rfl rfl (AL.go (AO.extract rfl rfl rfl (AL.go (AO.extract rfl rfl rfl (AL.go (AO.extract rfl rfl rfl (AL.go (AO.assign rfl rfl (AL.go (AO.assign rfl rfl ?_)))))))))))
        refine AL.go (AO.assign rfl rfl (AL.nil (AK.seqN (AC.seq (AC.region ?_)))))
        refine AL.go (AO.move rfl rfl ?_)
        refine AL.go (AO.move rfl rfl (AL.yes rfl rfl (AO.move rfl rfl ?_)))
        refine AL.yes rfl rfl (AO.eql rfl rfl rfl (fun _ => ?_) (fun c104 => absurd rfl c104))
        refine AL.go (AO.pickT rfl rfl rfl (AL.go (AO.assign rfl rfl (AL.nil (AK.seqN (AC.seq (AC.region ?_)))))))
        refine AL.go (AO.move rfl rfl (AL.nil (AK.seqN (AC.condT rfl (AC.region (AL.go (AO.move rfl rfl ?_)))))))
        refine AL.go (AO.move rfl rfl (AL.go (AO.move rfl rfl ?_)))
        refine AL.go (AO.buildSlice rfl rfl rfl rfl rfl (fun b110 => ?_))
        refine AL.go (AO.append (i := 0) (enc := eI) (lst := self) [(q97 : Int)] rfl rfl rfl rfl (.val .nil) rfl rfl (fun _ => rfl) (by simp only [maxLen]; omega) (by omega) (fun a111 k111 c111 => ?_))
        simp only [List.set_cons_zero]
        refine AL.go (AO.assign rfl rfl (AL.go (AO.assign rfl rfl (AL.nil (AK.blkN (AK.seqN (AC.region ?_)))))))
        refine AL.go (AO.add rfl rfl rfl (by omega) (by omega) (AL.go (AO.move rfl rfl (AL.nil ?_))))
        exact AK.next (u + 1, (m97, self ++ [(q97 : Int)]), (a97, k97, c97), (a111, k111, c111)) ⟨by simp only; omega, hown.step hr97 hp97 hl97 hq97 he97⟩ (by simp only; omega) (by repeat (first | exact SubR.nil | refine SubR.cons rfl ?_)) (Sub.facts (mem1 (by repeat (first | exact mem0 | assumption | refine memS ?_)) (fun x hx => by repeat (first | exact hx | refine List.mem_cons_of_mem _ ?_))))
      · refine AL.nil (AK.seqN (AC.seq (AC.condF rfl (AC.exit (AK.seqX ?_)))))
        refine AK.seqX (AK.blkX (AK.seqN (AC.seq (AC.seq (AC.region ?_)))))
        have hum : u = m := by omega
        subst hum
        have hol := hown.len
        have hsl := hown.many
        have hpl := hown.pre.length_le
        have htk := take_pre hown.pre (show n + 1 ≤ (fewS l 60).length by omega)
        have hself := subR_self (i := n) hown.right (by omega) (by rw [htk, hm, hsl]; exact Int.le_refl _) (fun j hj => hown.each j (by omega))
        refine AT.sub ((Sub.commit (i := 0) rfl).trans Sub.drop) ?_
        refine AL.go (AO.move rfl rfl ?_)
        refine AL.go (AO.not rfl rfl (AL.nil (AK.seqN (AC.condF rfl (AC.skip (AK.seqN ?_))))))
        refine AC.seq (AC.region (AL.go (AO.move rfl rfl (AL.go (AO.move rfl rfl (AL.go (AO.move rfl rfl ?_)))))))
        refine AL.go (AO.call rfl rfl (substIn_c g own (right_ok hown.right) hown.right n (by omega) self (by omega) (show fL own aO kO cO ∈ _ from (by repeat (first | exact mem0 | assumption | refine memS ?_))) (show fI self aS kS cS ∈ _ from (by repeat (first | exact mem0 | assumption | refine memS ?_))) (show Fact.slc (.slice none 0 0) 5 [] ∈ _ from (by repeat (first | exact mem0 | assumption | refine memS ?_))) (fun e he => absurd (err_ok he hself) id) (fun o q a120 k120 c120 hq => ?_)))
        obtain ⟨rfl, rfl⟩ := ok_inj hself hq
        refine AL.go (AO.move rfl rfl (AL.go (AO.extract rfl rfl rfl (AL.go (AO.extract rfl rfl rfl (AL.go (AO.extract rfl rfl rfl (AL.go (AO.assign rfl rfl (AL.go (AO.assign rfl rfl ?_)))))))))))
        refine AL.go (AO.assign rfl rfl (AL.nil (AK.seqN (AC.seq (AC.seq (AC.region ?_))))))
        refine AL.go (AO.move rfl rfl ?_)
        refine AL.go (AO.neq rfl rfl rfl (fun c125 => absurd rfl c125) (fun _ => ?_))
        refine AL.go (AO.move rfl rfl (AL.yes rfl rfl (AO.move rfl rfl (AL.yes rfl rfl (AO.move rfl rfl ?_)))))
        refine AL.yes rfl rfl (AO.neq rfl rfl rfl (fun c129 => absurd rfl c129) (fun _ => ?_))
        refine AL.go (AO.pickF rfl rfl rfl (AL.go (AO.move rfl rfl (AL.yes rfl rfl (AO.move rfl rfl (AL.yes rfl rfl (AO.move rfl rfl ?_)))))))
        refine AL.yes rfl rfl (AO.call rfl rfl (ref_Arenas_c own own (fun _ => ?_) (fun c134 => absurd rfl c134) (by repeat (first | exact mem0 | assumption | refine memS ?_)) (by repeat (first | exact mem0 | assumption | refine memS ?_))))
        refine AL.yes rfl rfl (AO.not rfl rfl (AL.go (AO.pickF rfl rfl rfl (AL.go (AO.move rfl rfl ?_)))))
        refine AL.yes rfl rfl (AO.call rfl rfl (salive_c g ?_))
        refine AL.yes rfl rfl (AO.not rfl rfl (AL.go (AO.pickF rfl rfl rfl (AL.nil (AK.seqN (AC.condF rfl (AC.skip ?_)))))))
        refine AK.seqN (AC.seq (AC.region (AL.go (AO.move rfl rfl (AL.go (AO.move rfl rfl (AL.go (AO.move rfl rfl ?_))))))))
        refine AL.go (AO.call rfl rfl (substIn_c g (fewS l 60) hok hr n hn (fewI args 4) (by omega) (show fL (fewS l 60) a40 k40 c40 ∈ _ from (by repeat (first | exact mem0 | assumption | refine memS ?_))) (show fI (fewI args 4) _ _ _ ∈ _ from (by repeat (first | exact mem0 | assumption | refine memS ?_))) (show Fact.slc (.slice none 0 0) 5 [] ∈ _ from (by repeat (first | exact mem0 | assumption | refine memS ?_))) (fun e145 h145 => ?_) (fun y f145 a145 k145 c145 h145 => ?_)))
        · refine AL.go (AO.move rfl rfl (AL.go (AO.extract rfl rfl rfl (AL.go (AO.extract rfl rfl rfl (AL.go (AO.extract rfl rfl rfl (AL.go (AO.assign rfl rfl (AL.go (AO.assign rfl rfl ?_)))))))))))
          refine AL.go (AO.assign rfl rfl (AL.nil (AK.seqN (AC.seq (AC.seq (AC.region ?_))))))
          refine AL.go (AO.move rfl rfl ?_)
          refine AL.go (AO.neq rfl rfl rfl (fun _ => ?_) (fun c150 => absurd c150 (subR_err h145)))
          refine AL.nil (AK.seqN (AC.condT rfl (AC.seq (AC.region (AL.go (AO.assign rfl rfl ?_))))))
          refine AL.nil (AK.seqN (AC.ret (AK.seqR ?_)))
          exact AK.ret (L' := L) (F' := F) Tryd.results6 rfl (by repeat (first | exact Sub.refl _ _ | refine Sub.trans Sub.drop ?_ | refine Sub.trans Sub.dropF ?_)) h
        · refine AL.go (AO.move rfl rfl (AL.go (AO.extract rfl rfl rfl (AL.go (AO.extract rfl rfl rfl (AL.go (AO.extract rfl rfl rfl (AL.go (AO.assign rfl rfl (AL.go (AO.assign rfl rfl ?_)))))))))))
          refine AL.go (AO.assign rfl rfl (AL.nil (AK.seqN (AC.seq (AC.seq (AC.region ?_))))))
          refine AL.go (AO.move rfl rfl ?_)
          refine AL.go (AO.neq rfl rfl rfl (fun c150 => absurd rfl c150) (fun _ => ?_))
          refine AL.nil (AK.seqN (AC.condF rfl (AC.skip (AK.seqN (AC.seq ?_)))))
          refine AC.region (AL.go (AO.move rfl rfl (AL.go (AO.move rfl rfl (AL.go (AO.move rfl rfl ?_))))))
          obtain ⟨hb1, hry, hly, hf0, hf1, _⟩ := subR_sound hr hn h145
          obtain ⟨f, rfl⟩ : ∃ f : Nat, f145 = f := ⟨f145.toNat, by omega⟩
          have hyl := hly.length_le
          have g1 := (good_args hb1).1
          refine AL.go (AO.call rfl rfl (substIn_c g y (right_ok hry) hry f (by omega) (fewI others 4) (by omega) (show fL y a145 k145 c145 ∈ _ from (by repeat (first | exact mem0 | assumption | refine memS ?_))) (show fI (fewI others 4) _ _ _ ∈ _ from (by repeat (first | exact mem0 | assumption | refine memS ?_))) (show Fact.slc (.slice none 0 0) 5 [] ∈ _ from (by repeat (first | exact mem0 | assumption | refine memS ?_))) (fun e155 h155 => ?_) (fun z s155 a155 k155 c155 h155 => ?_)))
          · refine AL.go (AO.move rfl rfl (AL.go (AO.extract rfl rfl rfl (AL.go (AO.extract rfl rfl rfl (AL.go (AO.extract rfl rfl rfl (AL.go (AO.assign rfl rfl (AL.go (AO.assign rfl rfl ?_)))))))))))
            refine AL.go (AO.assign rfl rfl (AL.nil (AK.seqN (AC.seq (AC.seq (AC.region ?_))))))
            refine AL.go (AO.move rfl rfl ?_)
            refine AL.go (AO.neq rfl rfl rfl (fun _ => ?_) (fun c160 => absurd c160 (subR_err h155)))
            refine AL.nil (AK.seqN (AC.condT rfl (AC.seq (AC.region (AL.go (AO.assign rfl rfl ?_))))))
            refine AL.nil (AK.seqN (AC.ret (AK.seqR ?_)))
            exact AK.ret (L' := L) (F' := F) Tryd.results6 rfl (by repeat (first | exact Sub.refl _ _ | refine Sub.trans Sub.drop ?_ | refine Sub.trans Sub.dropF ?_)) h
          · refine AL.go (AO.move rfl rfl (AL.go (AO.extract rfl rfl rfl (AL.go (AO.extract rfl rfl rfl (AL.go (AO.extract rfl rfl rfl (AL.go (AO.assign rfl rfl (AL.go (AO.assign rfl rfl ?_)))))))))))
            refine AL.go (AO.assign rfl rfl (AL.nil (AK.seqN (AC.seq (AC.seq (AC.region ?_))))))
            refine AL.go (AO.move rfl rfl ?_)
            refine AL.go (AO.neq rfl rfl rfl (fun c160 => absurd rfl c160) (fun _ => ?_))
            refine AL.nil (AK.seqN (AC.condF rfl (AC.skip (AK.seqN (AC.seq ?_)))))
            refine AC.region (AL.go (AO.move rfl rfl (AL.go (AO.assign rfl rfl (AL.nil (AK.seqN (AC.seq ?_)))))))
            refine AC.region (AL.go (AO.assign rfl rfl (AL.nil (AK.seqN (AC.seq (AC.seq ?_))))))
            refine AC.region (AL.go (AO.move rfl rfl ?_))
            obtain ⟨hb2, hrz, hyz, _, _, _⟩ := subR_sound hry (by omega) h155
            have g2 := (good_args hb2).1
            have hzl := hyz.length_le
            refine AL.go (AO.len rfl rfl (fun hl163 => ?_) (enc := eI) (lst := fewI args 4) (hm := (show fI (fewI args 4) _ _ _ ∈ _ from (by repeat (first | exact mem0 | assumption | refine memS ?_)))))
            refine AL.go (AO.move rfl rfl (AL.nil (AK.seqN (AC.block ?_))))
            refine AC.loop (fun (x : Nat × (List Ty × List Int) × (Option Addr × Nat × Nat) × (Option Addr × Nat × Nat)) => x.1 ≤ (fewI args 4).length ∧ BothS z x.2.1.1 (fewI args 4) (fewI others 4) x.2.1.2 x.1) (fun x => [(1, .int .i64 (n : Int)), (3, sliced a3 0 (min others.length 4) c3 1), (27, .int .i64 s155), (29, .slice x.2.2.1.1 x.2.2.1.2.1 x.2.2.1.2.2), (30, .slice x.2.2.2.1 x.2.2.2.2.1 x.2.2.2.2.2), (162, sliced a2 0 (min args.length 4) c2 1), (163, .int .i64 (fewI args 4).length), (164, .int .i64 (x.1 : Int))]) (fun x => Res.own (.slice x.2.2.2.1 x.2.2.2.2.1 x.2.2.2.2.2) 3 1 (x.2.1.2.map eI) :: L) (fun x => fL x.2.1.1 x.2.2.1.1 x.2.2.1.2.1 x.2.2.1.2.2 :: _) (fun x => (fewI args 4).length - x.1) (0, (z, []), (a155, k155, c155), (none, 0, 0)) ⟨Nat.zero_le _, hrz, List.prefix_rfl, rfl, fun j a hj => absurd hj (by simp)⟩ (by repeat (first | exact SubR.nil | refine SubR.cons rfl ?_)) ((Sub.facts (mem1 (by repeat (first | exact mem0 | assumption | refine memS ?_)) (fun x hx => hx))).trans (Sub.ownNil (e := 3) (sz := 1))) ?_
            rintro ⟨u2, ⟨now, both⟩, ⟨aN, kN, cN⟩, ⟨aB, kB, cB⟩⟩ ⟨hu2, hbo⟩
            simp only at hu2 hbo ⊢
            refine AC.seq (AC.region ?_)
            refine AL.go (AO.lss rfl rfl rfl (fun c165 => ?_) (fun c165 => ?_))
            · refine AL.nil (AK.seqN (AC.seq (AC.condT rfl (AC.skip (AK.seqN ?_)))))
              refine AC.seq (AC.block (AC.seq (AC.region ?_)))
              have hul : u2 < (fewI args 4).length := by omega
              have hnl := hbo.pre.length_le
              have hmany := hbo.many
              have g166 := g1 _ (List.getElem_mem hul)
              have gO : ∀ a ∈ fewI others 4, 0 ≤ a ∧ a < now.length := fun a ha => by have := g2 a ha; omega
              refine AL.go (AO.indexAddr rfl rfl rfl rfl (enc := eI) (lst := fewI args 4) (show fI (fewI args 4) _ _ _ ∈ _ from (by repeat (first | exact mem0 | assumption | refine memS ?_))) hul (fun _ _ => ?_))
              refine AL.go (AO.loadF rfl rfl ?_)
              intros
              refine AL.go (AO.assign rfl rfl (AL.nil (AK.seqN (AC.seq (AC.region (AL.go (AO.move rfl rfl ?_)))))))
              refine AL.go (AO.move rfl rfl (AL.go (AO.move rfl rfl ?_)))
              obtain ⟨w, hw⟩ : ∃ w : Nat, (fewI args 4)[u2] = (w : Int) := ⟨_, (Int.toNat_of_nonneg g166.1).symm⟩
              rw [hw] at g166
              rw [hw]
              refine AL.go (AO.call rfl rfl (substIn_c g now (right_ok hbo.right) hbo.right w (by omega) (fewI others 4) (by omega) (show fL now aN kN cN ∈ _ from (by repeat (first | exact mem0 | assumption | refine memS ?_))) (show fI (fewI others 4) _ _ _ ∈ _ from (by repeat (first | exact mem0 | assumption | refine memS ?_))) (show Fact.slc (.slice none 0 0) 5 [] ∈ _ from (by repeat (first | exact mem0 | assumption | refine memS ?_))) (fun e172 h172 => ?_) (fun o172 q172 a172 k172 c172 h172 => ?_)))
              · refine AL.go (AO.move rfl rfl (AL.go (AO.extract rfl rfl rfl (AL.go (AO.extract rfl rfl rfl (AL.go (AO.extract rfl rfl rfl (AL.go (AO.assign rfl rfl (AL.go (AO.assign rfl rfl ?_)))))))))))
                refine AL.go (AO.assign rfl rfl (AL.nil (AK.seqN (AC.seq (AC.seq (AC.region ?_))))))
                refine AL.go (AO.move rfl rfl ?_)
                refine AL.go (AO.neq rfl rfl rfl (fun _ => ?_) (fun c177 => absurd c177 (subR_err h172)))
                refine AL.nil (AK.seqN (AC.condT rfl (AC.seq (AC.region (AL.go (AO.assign rfl rfl ?_))))))
                refine AL.nil (AK.seqN (AC.ret (AK.seqR (AK.blkR (AK.seqR ?_)))))
                refine AK.seqR (AK.blkR (AK.seqR ?_))
                exact AK.ret (L' := L) (F' := F) Tryd.results6 rfl (by repeat (first | exact Sub.refl _ _ | refine Sub.trans Sub.drop ?_ | refine Sub.trans Sub.dropF ?_)) h
              · refine AL.go (AO.move rfl rfl (AL.go (AO.extract rfl rfl rfl (AL.go (AO.extract rfl rfl rfl (AL.go (AO.extract rfl rfl rfl (AL.go (AO.assign rfl rfl (AL.go (AO.assign rfl rfl ?_)))))))))))
                refine AL.go (AO.assign rfl rfl (AL.nil (AK.seqN (AC.seq (AC.seq (AC.region ?_))))))
                refine AL.go (AO.move rfl rfl ?_)
                refine AL.go (AO.neq rfl rfl rfl (fun c177 => absurd rfl c177) (fun _ => ?_))
                refine AL.nil (AK.seqN (AC.condF rfl (AC.skip (AK.seqN (AC.region ?_)))))
                refine AL.go (AO.move rfl rfl (AL.go (AO.move rfl rfl (AL.go (AO.move rfl rfl ?_)))))
                obtain ⟨_, hr3, hp3, hq0, hq1, hS3⟩ := subR_sound hbo.right (by omega) h172
                obtain ⟨q3, rfl⟩ : ∃ q3 : Nat, q172 = q3 := ⟨q172.toNat, by omega⟩
                rw [Int.toNat_natCast] at hS3
                have hS4 : SubS o172 (fewI others 4) (fewI args 4)[u2].toNat q3 := by rw [hw, Int.toNat_natCast]; exact hS3
                refine AL.go (AO.buildSlice rfl rfl rfl rfl rfl (fun b181 => ?_))
                refine AL.go (AO.append (i := 0) (enc := eI) (lst := both) [(q3 : Int)] rfl rfl rfl rfl (.val .nil) rfl rfl (fun _ => rfl) (by simp only [maxLen]; omega) (by omega) (fun a182 k182 c182 => ?_))
                simp only [List.set_cons_zero]
                refine AL.go (AO.assign rfl rfl (AL.go (AO.assign rfl rfl (AL.nil (AK.blkN (AK.seqN (AC.region ?_)))))))
                refine AL.go (AO.add rfl rfl rfl (by omega) (by omega) (AL.go (AO.move rfl rfl (AL.nil ?_))))
                exact AK.next (u2 + 1, (o172, both ++ [(q3 : Int)]), (a172, k172, c172), (a182, k182, c182)) ⟨by simp only; omega, hbo.step gO hr3 hp3 hul hS4⟩ (by simp only; omega) (by repeat (first | exact SubR.nil | refine SubR.cons rfl ?_)) (Sub.facts (mem1 (by repeat (first | exact mem0 | assumption | refine memS ?_)) (fun x hx => by repeat (first | exact hx | refine List.mem_cons_of_mem _ ?_))))
            · refine AL.nil (AK.seqN (AC.seq (AC.condF rfl (AC.exit (AK.seqX ?_)))))
              refine AK.seqX (AK.blkX (AK.seqN (AC.seq (AC.region ?_))))
              have hmany := hbo.many
              have hnl := hbo.pre.length_le
              have hst := subR_steps hr hn h145 (by rw [Int.toNat_natCast]; exact h155) hbo.right hbo.pre (by omega) (fun j a ha => hbo.each j a (by have := has_lt' ha; omega) ha)
              refine AT.sub ((Sub.commit (i := 0) rfl).trans Sub.drop) ?_
              refine AL.go (AO.move rfl rfl ?_)
              refine AL.go (AO.move rfl rfl (AL.go (AO.move rfl rfl ?_)))
              refine AL.go (AO.call rfl rfl (substIn_c g now (right_ok hbo.right) hbo.right n (by omega) both (by omega) (show fL now aN kN cN ∈ _ from (by repeat (first | exact mem0 | assumption | refine memS ?_))) (show fI both aB kB cB ∈ _ from (by repeat (first | exact mem0 | assumption | refine memS ?_))) (show Fact.slc (.slice none 0 0) 5 [] ∈ _ from (by repeat (first | exact mem0 | assumption | refine memS ?_))) (fun e he => absurd (err_ok he hst) id) (fun o q a188 k188 c188 hq => ?_)))
              obtain ⟨rfl, rfl⟩ := ok_inj hst hq
              refine AL.go (AO.move rfl rfl (AL.go (AO.extract rfl rfl rfl (AL.go (AO.extract rfl rfl rfl (AL.go (AO.extract rfl rfl rfl (AL.go (AO.assign rfl rfl (AL.go (AO.assign rfl rfl ?_)))))))))))
              refine AL.go (AO.assign rfl rfl (AL.nil (AK.seqN (AC.seq (AC.region (AL.go (AO.move rfl rfl ?_)))))))
              refine AL.go (AO.eql rfl rfl rfl (fun _ => ?_) (fun c193 => absurd rfl c193))
              refine AL.go (AO.move rfl rfl (AL.yes rfl rfl (AO.move rfl rfl (AL.yes rfl rfl (AO.move rfl rfl ?_)))))
              refine AL.yes rfl rfl (AO.eql rfl rfl rfl (fun _ => ?_) (fun c197 => absurd rfl c197))
              refine AL.go (AO.pickT rfl rfl rfl (AL.go (AO.move rfl rfl (AL.yes rfl rfl (AO.move rfl rfl ?_)))))
              refine AL.yes rfl rfl (AO.call rfl rfl (right_c g now (right_ok hbo.right) (by repeat (first | exact mem0 | assumption | refine memS ?_)) (fun _ => ?_) (fun c201 => absurd hbo.right c201)))
              refine AL.go (AO.pickT rfl rfl rfl (AL.go (AO.assign rfl rfl (AL.nil (AK.seqN (AC.ret ?_))))))
              exact AK.ret (L' := L) (F' := F) Tryd.results6 rfl (by repeat (first | exact Sub.refl _ _ | refine Sub.trans Sub.drop ?_ | refine Sub.trans Sub.dropF ?_)) h
  · skip
    refine ACalls.body Tryd.func6 rfl Tryd.ntmps6 rfl ?_
    refine AC.seq (AC.region (AL.go (AO.assign rfl rfl (AL.nil (AK.seqN (AC.seq ?_))))))
    refine AC.draw (fun _ => false) [] (by repeat (first | exact BxIn.nil | refine BxIn.cons (by repeat (first | exact has0 | assumption | apply hasS)) ?_)) rfl (fun hx hX => ?_)
    have hk2 := (len_of_fact (hX (fI args a2 k2 c2) (by repeat (first | exact mem0 | assumption | refine memS ?_)))).1
    have hc2 := (len_of_fact (hX (fI args a2 k2 c2) (by repeat (first | exact mem0 | assumption | refine memS ?_)))).2
    have hk3 := (len_of_fact (hX (fI others a3 k3 c3) (by repeat (first | exact mem0 | assumption | refine memS ?_)))).1
    have hc3 := (len_of_fact (hX (fI others a3 k3 c3) (by repeat (first | exact mem0 | assumption | refine memS ?_)))).2
    subst hk2 hk3
    refine AH.takeW (i := 0) rfl (Y.move rfl) (by kernel_rfl) rfl rfl ?_
    refine AH.takeW (i := 2) rfl (Y.move rfl) (by kernel_rfl) rfl rfl ?_
    refine AH.takeW (i := 3) rfl (Y.move rfl) (by kernel_rfl) rfl rfl ?_
    refine AH.takeW (i := 4) rfl (Y.lenV rfl) (by kernel_rfl) rfl rfl ?_
    refine AH.takeW (i := 5) rfl (Y.min rfl rfl) (by kernel_rfl) rfl rfl ?_
    refine AH.takeW (i := 6) rfl (Y.sliceH (j' := min args.length 4) rfl rfl (by omega) (by omega)) (by kernel_rfl) rfl rfl ?_
    refine AH.takeW (i := 7) rfl (Y.move rfl) (by kernel_rfl) rfl rfl ?_
    refine AH.takeW (i := 8) rfl (Y.move rfl) (by kernel_rfl) rfl rfl ?_
    refine AH.takeW (i := 9) rfl (Y.lenV rfl) (by kernel_rfl) rfl rfl ?_
    refine AH.takeW (i := 10) rfl (Y.min rfl rfl) (by kernel_rfl) rfl rfl ?_
    refine AH.takeW (i := 11) rfl (Y.sliceH (j' := min others.length 4) rfl rfl (by omega) (by omega)) (by kernel_rfl) rfl rfl ?_
    refine AH.one (i := 1) (by kernel_rfl) rfl rfl (fun _ => ?_)
    refine AO.call rfl rfl (sfew_c l 60 (by decide) (show fL l a k c ∈ _ from (by repeat (first | exact mem0 | assumption | refine memS ?_))) (fun a40 k40 c40 => ?_))
    refine AT.held (by repeat (first | exact BxIn.nil | refine BxIn.cons (by repeat (first | exact has0 | assumption | apply hasS)) ?_)) (by repeat (first | exact mem0 | refine memS ?_)) ?_
    refine AH.takeW (i := 12) rfl (Y.assign rfl) (by kernel_rfl) rfl rfl ?_
    refine AH.takeW (i := 13) rfl (Y.assign rfl) (by kernel_rfl) rfl rfl ?_
    refine AH.takeW (i := 14) rfl (Y.assign rfl) (by kernel_rfl) rfl rfl ?_
    refine AH.done (by kernel_rfl) ?_
    refine AK.seqN (AC.seq (AC.region (AL.go (AO.move rfl rfl (AL.go (AO.move rfl rfl ?_))))))
    refine AL.go (AO.call rfl rfl (params_c g (fewS l 60) hok i (by repeat (first | exact mem0 | assumption | refine memS ?_)) (fun c54 => ?_) (fun d54 c54 => ?_) (fun d54 n2 e2 c54 => absurd ⟨d54, by omega, by omega⟩ hin)))
    · refine AL.go (AO.move rfl rfl (AL.go (AO.extract rfl rfl rfl (AL.go (AO.extract rfl rfl rfl (AL.go (AO.assign rfl rfl (AL.go (AO.assign rfl rfl (AL.nil ?_))))))))))
      refine AK.seqN (AC.seq (AC.seq (AC.region (AL.go (AO.move rfl rfl ?_)))))
      refine AL.go (AO.neq rfl rfl rfl (fun _ => ?_) (fun c58 => absurd c58 (by decide)))
      refine AL.nil (AK.seqN (AC.condT rfl (AC.seq (AC.region ?_))))
      refine AL.go (AO.call rfl rfl (salive_c g ?_))
      refine AL.go (AO.move rfl rfl (AL.yes rfl rfl (AO.move rfl rfl ?_)))
      refine AL.yes rfl rfl (AO.eql rfl rfl rfl (fun _ => ?_) (fun c62 => absurd rfl c62))
      refine AL.go (AO.pickT rfl rfl rfl (AL.go (AO.assign rfl rfl (AL.nil (AK.seqN (AC.ret (AK.seqR ?_)))))))
      exact AK.ret (L' := L) (F' := F) Tryd.results6 rfl (by repeat (first | exact Sub.refl _ _ | refine Sub.trans Sub.drop ?_ | refine Sub.trans Sub.dropF ?_)) h
    · refine AL.go (AO.move rfl rfl (AL.go (AO.extract rfl rfl rfl (AL.go (AO.extract rfl rfl rfl (AL.go (AO.assign rfl rfl (AL.go (AO.assign rfl rfl (AL.nil ?_))))))))))
      refine AK.seqN (AC.seq (AC.seq (AC.region (AL.go (AO.move rfl rfl ?_)))))
      refine AL.go (AO.neq rfl rfl rfl (fun _ => ?_) (fun c58 => absurd c58 (by decide)))
      refine AL.nil (AK.seqN (AC.condT rfl (AC.seq (AC.region ?_))))
      refine AL.go (AO.call rfl rfl (salive_c g ?_))
      refine AL.go (AO.move rfl rfl (AL.yes rfl rfl (AO.move rfl rfl ?_)))
      refine AL.yes rfl rfl (AO.eql rfl rfl rfl (fun _ => ?_) (fun c62 => absurd rfl c62))
      refine AL.go (AO.pickT rfl rfl rfl (AL.go (AO.assign rfl rfl (AL.nil (AK.seqN (AC.ret (AK.seqR ?_)))))))
      exact AK.ret (L' := L) (F' := F) Tryd.results6 rfl (by repeat (first | exact Sub.refl _ _ | refine Sub.trans Sub.drop ?_ | refine Sub.trans Sub.dropF ?_)) h
end
end Go.Sy
