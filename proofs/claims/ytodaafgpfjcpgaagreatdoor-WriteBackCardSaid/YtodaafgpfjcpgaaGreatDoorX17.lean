/- Joined of my own texts: ScaG, ParL, ParR. -/
import Derived.Test.YtodaafgpfjcpgaaGreatDoorX16
import Derived.Lib.IndexLaws
namespace Go.Sy
open Go
theorem whileF_le (p : Nat → UInt8 → Bool) : ∀ (s : Bs) (n : Nat), n ≤ whileF p n s ∧ whileF p n s ≤ n + s.length
  | [], n => ⟨Nat.le_refl _, Nat.le_refl _⟩
  | c :: r, n => by
    unfold whileF
    split
    · have := whileF_le p r (n + 1)
      simp only [List.length_cons]; omega
    simp only [List.length_cons]; omega
theorem quotedF_le (q : UInt8) (raw : Bool) : ∀ (k : Nat) (s : Bs) (n : Nat), s.length ≤ k → quotedF q raw n s ≤ n + s.length
  | _, [], n, _ => by simp [quotedF]
  | 0, c :: r, n, h => by simp at h
  | k + 1, c :: r, n, h => by
    simp only [List.length_cons] at h ⊢
    unfold quotedF
    split
    · omega
    split
    · omega
    split
    · split
      · omega
      rename_i e r'
      split
      · omega
      have := quotedF_le q raw k r' (n + 2) (by simp at h; omega)
      simp; omega
    have := quotedF_le q raw k r (n + 1) HS
    omega
theorem skippedB_le {s : Bs} (hs : s ≠ []) {n : Nat} {b : Bool} (h : skippedB s = some (n, b)) : n ≤ s.length := by
  have hl : 0 < s.length := List.length_pos_iff.2 hs
  unfold skippedB at h
  simp only at h
  split at h
  · injection h with h; injection h with h _; omega
  split at h
  · injection h with h; injection h with h _; omega
  split at h
  · injection h with h; injection h with h _; subst h
    have := (whileF_le (fun _ c => c.toNat != 10) s 0).2; omega
  split at h
  · split at h
    · rename_i h2 h3
      injection h with h; injection h with h _; subst h
      unfold Lib.cut at h3 ⊢
      split at h3
      · rename_i hi
        rw [if_pos hi]
        have := Lib.index_room _ _ hi
        simp only [List.length_take, List.length_drop, List.length_cons, List.length_nil] at this ⊢
        omega
      cases h3
    cases h
  injection h with h; injection h with h _; omega
theorem tokenB_le {s : Bs} (hs : s ≠ []) {k : Int} {n : Nat} (h : tokenB s = .ok (k, n)) : 0 < n ∧ n ≤ s.length ∧ 1 ≤ k ∧ k ≤ 7 := by
  obtain ⟨c, r, rfl⟩ : ∃ c r, s = c :: r := by cases s with
    | nil => exact absurd rfl hs
    | cons c r => exact ⟨c, r, rfl⟩
  unfold tokenB at h
  simp only [List.getD_cons_zero] at h
  split at h
  · rename_i hc
    have hw := whileF_le (fun _ c => wordC c) r 1
    have e : whileF (fun _ c => wordC c) 0 (c :: r) = whileF (fun _ c => wordC c) 1 r := by simp [whileF, wordC, hc]
    rw [e] at h
    split at h
    · cases h
    split at h <;> (injection h with h; injection h with h1 h2; subst h1 h2; simp only [List.length_cons]; omega)
  split at h
  · rename_i hc
    injection h with h
    have hw := whileF_le (numP (c :: r) (hexB (c :: r))) r 1
    have e : whileF (numP (c :: r) (hexB (c :: r))) 0 (c :: r) = whileF (numP (c :: r) (hexB (c :: r))) 1 r := by
      have : numP (c :: r) (hexB (c :: r)) 0 c = true := by
        unfold numP
        rcases Bool.or_eq_true _ _ ▸ hc with q | q
        · simp [wordC, q]
        simp only [Bool.and_eq_true] at q; simp [q.1]
      rw [whileF, if_pos this]
    unfold numberB at h
    simp only [e] at h
    injection h with h1 h2
    subst h2
    simp only [List.length_cons]
    refine ⟨by omega, by omega, ?_⟩
    rw [← h1]; split <;> decide
  split at h
  · split at h
    · cases h
    rename_i hq
    have := quotedF_le c (c.toNat == 96) r.length r 1 (Nat.le_refl _)
    have e : quotedB (c :: r) = quotedF c (c.toNat == 96) 1 r := rfl
    injection h with h; injection h with h1 h2
    subst h2
    rw [e] at hq ⊢
    simp only [List.length_cons]
    refine ⟨by omega, by omega, ?_⟩
    rw [← h1]; split <;> decide
  split at h
  · rename_i o ho
    injection h with h; injection h with h1 h2
    subst h1 h2
    have h1 := List.find?_some ho
    have h2 := List.mem_of_find?_eq_some ho
    have hp : o <+: (c :: r) := List.isPrefixOf_iff_prefix.1 h1
    have hl : ∀ o ∈ opsB, 0 < o.length := by decide
    exact ⟨hl o h2, hp.length_le, by decide, by decide⟩
  cases h
theorem tokenB_err {s : Bs} {e : Int} (h : tokenB s = .error e) : e = 7 ∨ e = 5 ∨ e = 12 := by
  unfold tokenB at h
  simp only at h
  split at h
  · split at h
    · injection h with h; omega
    split at h <;> cases h
  split at h
  · cases h
  split at h
  · split at h
    · injection h with h; omega
    cases h
  split at h
  · cases h
  injection h with h; omega
structure TokOk (m : Nat) (T : List Tok) : Prop where
  wf : Wf (T.map Tok.tk)
  pos : ∀ t ∈ T, t.pos ≤ m
abbrev ScanR (m : Nat) (r : Except (Nat × Int) (List Tok)) : Prop := match r with
  | .ok T => TokOk m T
  | .error (i, e) => i ≤ m ∧ (e = 5 ∨ e = 7 ∨ e = 12)
theorem closeB_last (out : List Tok) (pos : Nat) : ∃ l, closeB out pos = l ++ [⟨0, [], pos⟩] := ⟨_, rfl⟩
theorem scanF_ok {m : Nat} : ∀ (f : Nat) (s : Bs) (pos : Nat) (out : List Tok), s.length < f → pos + s.length = m → (∀ t ∈ out, t.pos ≤ m) → ScanR m (scanF f s pos out)
  | 0, s, pos, out, hf, hm, ho => by omega
  | f + 1, s, pos, out, hf, hm, ho => by
    unfold scanF
    split
    · rename_i hs
      subst hs
      split
      · exact ⟨Nat.zero_le _, by decide⟩
      rename_i hl
      refine ⟨⟨?_, ?_, ?_⟩, ?_⟩
      · obtain ⟨l, hl⟩ := closeB_last out pos
        rw [hl]; simp
      · rw [List.length_map]; omega
      · obtain ⟨l, hl⟩ := closeB_last out pos
        rw [hl]; simp [tkAt, Tok.tk]
      intro t ht
      simp only [closeB] at ht
      simp only [List.length_nil] at hm
      rcases List.mem_append.1 ht with q | q
      · split at q
        · rcases List.mem_append.1 q with q | q
          · exact ho t q
          simp at q; subst q; simp; omega
        exact ho t q
      simp at q; subst q; simp; omega
    rename_i hs
    split
    · exact ⟨by omega, by decide⟩
    rename_i n nl hsk
    have hn := skippedB_le hs hsk
    split
    · refine scanF_ok f _ _ _ (by rw [List.length_drop]; omega) (by rw [List.length_drop]; omega) ?_
      intro t ht
      split at ht
      · rcases List.mem_append.1 ht with q | q
        · exact ho t q
        simp at q; subst q; simp; omega
      exact ho t ht
    split
    · rename_i e he
      have := tokenB_err he
      exact ⟨by omega, by omega⟩
    rename_i k n2 he
    have hk := tokenB_le hs he
    refine scanF_ok f _ _ _ (by rw [List.length_drop]; omega) (by rw [List.length_drop]; omega) ?_
    intro t ht
    rcases List.mem_append.1 ht with q | q
    · exact ho t q
    simp at q; subst q; simp; omega
theorem decS_pos (s : Bs) : 0 < (decS s).2 := by
  unfold decS Lib.decodeN
  repeat' split
  all_goals exact Nat.succ_pos _
theorem checkF_le {m : Nat} : ∀ (f : Nat) (s : Bs) (pos : Nat), pos + s.length = m → ∀ p, checkF f s pos = some p → p ≤ m
  | 0, s, pos, hm, p, h => by cases h
  | f + 1, s, pos, hm, p, h => by
    unfold checkF at h
    split at h
    · cases h
    split at h
    · injection h with h; omega
    split at h
    · injection h with h; omega
    rcases Nat.lt_or_ge s.length (decS s).2 with q | q
    · have e : s.drop (decS s).2 = [] := List.drop_of_length_le HS
      rw [e] at h
      cases f <;> simp [checkF] at h
    exact checkF_le f _ _ (by rw [List.length_drop]; omega) p h
theorem scanB_ok (s : Bs) : match scanB s with
    | .ok T => TokOk s.length T
    | .error (i, e) => i ≤ s.length ∧ (e = 5 ∨ e = 7 ∨ e = 12) := by
  unfold scanB checkB
  by_cases hl : 4000 < s.length
  · rw [if_pos hl]; exact ⟨Nat.zero_le _, by decide⟩
  rw [if_neg hl]
  cases hc : checkF s.length s 0 with
  | some p => exact ⟨checkF_le _ _ _ HS p hc, by decide⟩
  | none => exact scanF_ok _ s 0 [] HS HS (by simp)
end Go.Sy
namespace Go.Sy
open Go
structure RightN (l : List Nod) : Prop where
  one : 1 ≤ l.length
  many : l.length ≤ 2000
  node : ∀ (i : Nat) (n : Nod), l[i]? = some n → (0 ≤ n.kind ∧ n.kind ≤ 32) ∧ (0 ≤ n.pos ∧ n.pos ≤ 4000) ∧ kidsOk n.kind n.kids.length = true ∧ ∀ k ∈ n.kids, 0 ≤ k ∧ k < (i : Int)
  once : (l.flatMap Nod.kids).Nodup
  all : ∀ j : Nat, j + 1 < l.length → (j : Int) ∈ l.flatMap Nod.kids
structure TreeP (l : List Nd) (v : Int) : Prop where
  one : 1 ≤ l.length
  many : l.length ≤ 2000
  seg : Seg 0 [] l [v]
theorem whole_tree {K : List Tk} {m : PM Int} {k : Nat} (hm : G K 40 ⟨0, [], 0⟩ k [] (m ⟨0, [], 0⟩) (fun v => [v])) : match pwhole K m with
    | .ok l => ∃ v, TreeP l v
    | .error (i, e) => i < K.length ∧ (e = 5 ∨ e = 6 ∨ e = 7) := by
  unfold pwhole
  match m ⟨0, [], 0⟩, hm with
  | .error (i, e), h => exact h
  | .ok (v, s), ⟨h1, h2, h3⟩ =>
    simp only
    split
    · rename_i l hl
      split at hl
      · injection hl with hl; subst hl
        obtain ⟨new, e, sg⟩ := h3 (by simp)
        simp only [List.nil_append, List.length_nil] at e sg
        rw [e]
        have hlen := sg.perm.length_eq
        have := h1.many
        rw [e] at this
        refine ⟨v, ?_, this, sg⟩
        rcases Nat.eq_zero_or_pos new.length with q | q
        · have : new = [] := List.length_eq_zero_iff.1 q
          subst this; simp at hlen
        exact q
      cases hl
    rename_i i e hl
    split at hl
    · cases hl
    injection hl with hl; injection hl with q1 q2; subst q1 q2
    exact ⟨h1.i, .inl rfl⟩
theorem inv0 {K : List Tk} (w : Wf K) : Inv K 40 ⟨0, [], 0⟩ := ⟨w.pos, rfl, Nat.zero_le _⟩
theorem fileAll_tree {K : List Tk} (w : Wf K) : match pfileAll K with
    | .ok l => ∃ v, TreeP l v
    | .error (i, e) => i < K.length ∧ (e = 5 ∨ e = 6 ∨ e = 7) := whole_tree (pfile_g w (lev_g w 40) (inv0 w))
theorem exprAll_tree {K : List Tk} (w : Wf K) : match pexprAll K with
    | .ok l => ∃ v, TreeP l v
    | .error (i, e) => i < K.length ∧ (e = 5 ∨ e = 6 ∨ e = 7) := by
  refine whole_tree (k := 1) ((G.bind (k2 := 0) ((lev_g w 40).expr 1 _ (inv0 w)) (fun v s1 _ h1 l1 => ?_)).le HS)
  show G K 40 s1 0 [v] (if _ then _ else _) _
  split
  · rename_i hc
    exact (G.ret (q := fun v => [v]) (h1.next w (GS hc))).next.le HS
  exact G.ret (q := fun v => [v]) h1
theorem TreeP.right {l : List Nd} {v : Int} (h : TreeP l v) {T : List Tok} {m : Nat} (hT : ∀ t ∈ T, t.pos ≤ m) (hm : m ≤ 4000) : RightN (l.map (toNod T)) := by
  have hp := h.seg.perm
  simp only [List.nil_append] at hp
  have hk : (l.map (toNod T)).flatMap Nod.kids = l.flatMap Nd.kids := by rw [List.flatMap_map]; rfl
  have hnd : (l.flatMap Nd.kids ++ [v]).Nodup := by
    rw [hp.nodup_iff]
    exact (List.nodup_range' (step := 1)).map (f := Int.ofNat) (fun a b e h => e (Int.ofNat.inj h))
  have hmem : ∀ x : Int, x ∈ l.flatMap Nd.kids ++ [v] ↔ ∃ j : Nat, j < l.length ∧ (j : Int) = x := by
    intro x
    rw [hp.mem_iff, List.mem_map]
    constructor
    · rintro ⟨j, hj, rfl⟩
      rw [List.mem_range'_1] at hj
      exact ⟨j, by omega, rfl⟩
    rintro ⟨j, hj, rfl⟩
    exact ⟨j, by rw [List.mem_range'_1]; omega, rfl⟩
  have hlow := (h.seg.low (by simp)).1
  have hs := h.one
  have hv : v = ((l.length - 1 : Nat) : Int) := by
    have := (hmem ((l.length - 1 : Nat) : Int)).2 ⟨l.length - 1, by omega, rfl⟩
    rcases List.mem_append.1 this with q | q
    · obtain ⟨nd, hnd, hk⟩ := List.mem_flatMap.1 q
      obtain ⟨j, hj, rfl⟩ := List.getElem_of_mem hnd
      have := hlow j _ (List.getElem?_eq_getElem hj) _ hk
      omega
    simpa using (List.mem_singleton.1 q).symm
  refine ⟨by simpa using hs, by simpa using h.many, ?_, ?_, ?_⟩
  · intro i n hi
    rw [List.getElem?_map] at hi
    cases hg : l[i]? with
    | none => rw [hg] at hi; cases hi
    | some nd =>
      rw [hg] at hi
      simp only [Option.map_some] at hi
      injection hi with hi
      subst hi
      have hn := h.seg.ok nd (List.mem_of_getElem? hg)
      have hpos : posOf T nd.tn ≤ m := by
        unfold posOf
        rw [List.getD_eq_getElem?_getD]
        cases ht : T[nd.tn]? with
        | none => simp
        | some t => exact hT t (List.mem_of_getElem? ht)
      refine ⟨hn.rng, ⟨Int.natCast_nonneg _, by show (posOf T nd.tn : Int) ≤ 4000; omega⟩, hn.kids, fun k hk => ⟨?_, ?_⟩⟩
      · have hk' : k ∈ nd.kids := hk
        obtain ⟨j, _, rfl⟩ := (hmem k).1 (List.mem_append_left _ (List.mem_flatMap.2 ⟨nd, List.mem_of_getElem? hg, hk'⟩))
        exact Int.natCast_nonneg _
      have := hlow i nd hg k hk
      omega
  · rw [hk]; exact (List.nodup_append.1 hnd).1
  intro j hj
  rw [hk]
  simp only [List.length_map] at hj
  have := (hmem (j : Int)).2 ⟨j, by omega, rfl⟩
  rcases List.mem_append.1 this with q | q
  · exact q
  have := List.mem_singleton.1 q
  omega
theorem treeB_ok {rule : List Tk → Except (Nat × Int) (List Nd)} (hr : ∀ K, Wf K → match rule K with
    | .ok l => ∃ v, TreeP l v
    | .error (i, e) => i < K.length ∧ (e = 5 ∨ e = 6 ∨ e = 7)) (s : Bs) (hs : s.length ≤ 4000) : match treeB rule s with
    | .ok l => RightN l ∧ ∀ n ∈ l, n.pos ≤ s.length
    | .error (i, e) => i ≤ s.length ∧ (e = 5 ∨ e = 6 ∨ e = 7 ∨ e = 12) := by
  unfold treeB
  have := scanB_ok s
  match scanB s, this with
  | .error (i, e), h => exact ⟨h.1, by rcases h.2 with q | q | q <;> simp [q]⟩
  | .ok T, h =>
    simp only
    have hk := hr _ h.wf
    have hpos : ∀ i, posOf T i ≤ s.length := fun i => by
      unfold posOf
      rw [List.getD_eq_getElem?_getD]
      cases ht : T[i]? with
      | none => simp
      | some t => exact h.pos t (List.mem_of_getElem? ht)
    match rule (T.map Tok.tk), hk with
    | .error (i, e), hk => exact ⟨hpos i, by rcases hk.2 with q | q | q <;> simp [q]⟩
    | .ok l, ⟨v, hk⟩ =>
      refine ⟨hk.right h.pos hs, fun n hn => ?_⟩
      obtain ⟨nd, _, rfl⟩ := List.mem_map.1 hn
      show (posOf T nd.tn : Int) ≤ _
      have := hpos nd.tn
      omega
theorem bind_ok {α β : Type} {m : PM α} {f : α → PM β} {s : PS} {r : β × PS} (h : m.bind f s = .ok r) : ∃ a s1, m s = .ok (a, s1) ∧ f a s1 = .ok r := by
  unfold PM.bind at h
  split at h
  · rename_i a s1 e; exact ⟨a, s1, e, h⟩
  cases h
theorem pnode_last {kind : Int} {text : Bs} {tn : Nat} {kids : List Int} {s s' : PS} {v : Int} (h : pnode kind text tn kids s = .ok (v, s')) : s'.nodes = s.nodes ++ [⟨kind, text, kids, tn⟩] := by
  unfold pnode at h
  split at h
  · cases h
  injection h with h; injection h with _ h; subst h; rfl
def pkgW : Bs := [112, 97, 99, 107, 97, 103, 101]
theorem pfile_ok {K : List Tk} {r : Rec} {s s' : PS} {v : Int} (h : pfile K r s = .ok (v, s')) : isB (s.tok K) [pkgW] = true ∧ ∃ l nd, s'.nodes = l ++ [nd] ∧ nd.kind = 32 := by
  unfold pfile at h
  obtain ⟨a, s1, h1, h⟩ := bind_ok h
  obtain ⟨b, s2, h2, h⟩ := bind_ok h
  obtain ⟨c, s3, h3, h⟩ := bind_ok h
  obtain ⟨d, s4, h4, h⟩ := bind_ok h
  obtain ⟨e, s5, h5, h⟩ := bind_ok h
  refine ⟨?_, _, _, pnode_last h, rfl⟩
  unfold pmust pwhen at h1
  cases hb : isB (s.tok K) [pkgW] with
  | true => rfl
  | false => rw [show ([112, 97, 99, 107, 97, 103, 101] : Bs) = pkgW from rfl, hb] at h1; cases h1
theorem expr_pkg {K : List Tk} {s : PS} (h : isB (s.tok K) [pkgW] = true) (d : Nat) (n : Nat) : ∃ e, (lev K (d + 2)).expr n s = .error e := by
  have hk : (s.tok K).1 = 6 ∨ (s.tok K).1 = 7 := by
    unfold isB at h
    simp only [Bool.and_eq_true, Bool.or_eq_true, beq_iff_eq] at h
    exact h.1
  have ht : (s.tok K).2 = pkgW := by
    unfold isB at h
    simp only [Bool.and_eq_true] at h
    simpa using h.2
  have hno : ∀ x : List Bs, x.contains pkgW = false → isB (s.tok K) x = false := fun x hx => by
    unfold isB; rw [ht, hx, Bool.and_false]
  have hlit : ∀ (s' : PS) (r : Rec), s'.i = s.i → pliteral K r s' = .error (s.i, 5) := fun s' r e => by
    have e2 : s'.tok K = s.tok K := by show tkAt K s'.i = tkAt K s.i; rw [e]
    unfold pliteral pwhen pfail
    simp only [e2]
    rw [hno _ (by decide), hno _ (by decide), hno _ (by decide), hno _ (by decide), hno _ (by decide)]
    simp [e]
  have hun : ∀ (s' : PS), s'.i = s.i → ∃ e, (lev K (d + 1)).unary s' = .error e := fun s' e => by
    show ∃ e, pnested (punary K (lev K d)) s' = .error e
    unfold pnested
    split
    · exact ⟨_, rfl⟩
    have e2 : s'.down.tok K = s.tok K := by show tkAt K s'.i = tkAt K s.i; rw [e]
    have : punary K (lev K d) s'.down = .error (s.i, 5) := by
      unfold punary
      rw [e2, hno _ (by decide)]
      simp only [Bool.false_eq_true, if_false]
      unfold pprimary PM.bind poperand
      rw [e2]
      rw [if_neg HS]
      unfold pwhen
      rw [e2, hno _ (by decide)]
      simp only [Bool.false_eq_true, if_false]
      rw [hlit s'.down _ e]
    exact ⟨_, by unfold PM.bind; rw [this]⟩
  show ∃ e, pnested (pexpr K (lev K (d + 1)) n) s = .error e
  unfold pnested
  split
  · exact ⟨_, rfl⟩
  obtain ⟨e, he⟩ := hun s.down rfl
  exact ⟨e, by unfold PM.bind pexpr PM.bind; rw [he]⟩
theorem file_not_expr {K : List Tk} {l : List Nd} (h : pfileAll K = .ok l) : (∃ e, pexprAll K = .error e) ∧ ∃ l' nd, l = l' ++ [nd] ∧ nd.kind = 32 := by
  unfold pfileAll pwhole at h
  split at h
  · rename_i v s hs
    obtain ⟨h1, l', nd, h2, h3⟩ := pfile_ok hs
    split at h
    · injection h with h; subst h
      refine ⟨?_, l', nd, h2, h3⟩
      obtain ⟨e, he⟩ := expr_pkg h1 38 1
      exact ⟨e, by unfold pexprAll pwhole PM.bind; rw [he]⟩
    cases h
  cases h
theorem fileB_not_expr {s : Bs} {l : List Nod} (h : fileB s = .ok l) : (∃ e, exprB s = .error e) ∧ ∃ l' nd, l = l' ++ [nd] ∧ nd.kind = 32 := by
  unfold fileB treeB at h
  unfold exprB treeB
  split at h
  · cases h
  rename_i T hT
  split at h
  · cases h
  rename_i l0 hl
  injection h with h
  obtain ⟨⟨e, he⟩, l', nd, h2, h3⟩ := file_not_expr hl
  refine ⟨⟨(posOf T e.1, e.2), by simp only [he]⟩, l'.map (toNod T), toNod T nd, ?_, h3⟩
  rw [← h, h2, List.map_append]; rfl
end Go.Sy
namespace Go.Sy
abbrev Gt := @bind_ok
end Go.Sy
namespace Go.Sy
open Go
def leastK (k : Nat) : Nat := if k = 16 ∨ k = 17 ∨ k = 26 ∨ k = 32 then 0 else if k = 6 ∨ k = 9 ∨ k = 11 ∨ k = 12 ∨ k = 18 ∨ k = 19 ∨ k = 20 ∨ k = 22 ∨ k = 27 ∨ k = 29 ∨ k = 30 then 1 else if k = 10 ∨ k = 13 ∨ k = 14 ∨ k = 23 ∨ k = 24 ∨ k = 25 then 2 else if k = 7 ∨ k = 15 ∨ k = 21 then 1 else if k = 8 then 2 else if k = 28 then 4 else 0
def mostK (k : Nat) : Int := if k = 16 ∨ k = 17 ∨ k = 26 ∨ k = 32 then -1 else if k = 6 ∨ k = 9 ∨ k = 11 ∨ k = 12 ∨ k = 18 ∨ k = 19 ∨ k = 20 ∨ k = 22 ∨ k = 27 ∨ k = 29 ∨ k = 30 then 1 else if k = 10 ∨ k = 13 ∨ k = 14 ∨ k = 23 ∨ k = 24 ∨ k = 25 then 2 else if k = 7 ∨ k = 15 ∨ k = 21 then -1 else if k = 8 then -1 else if k = 28 then 4 else 0
theorem kidsOk_nat (k n : Nat) : kidsOk (k : Int) n = (if k = 16 ∨ k = 17 ∨ k = 26 ∨ k = 32 then true
  else if k = 6 ∨ k = 9 ∨ k = 11 ∨ k = 12 ∨ k = 18 ∨ k = 19 ∨ k = 20 ∨ k = 22 ∨ k = 27 ∨ k = 29 ∨ k = 30 then n == 1
  else if k = 10 ∨ k = 13 ∨ k = 14 ∨ k = 23 ∨ k = 24 ∨ k = 25 then n == 2
  else if k = 7 ∨ k = 15 ∨ k = 21 then Nat.ble 1 n
  else if k = 8 then Nat.ble 2 n
  else if k = 28 then n == 4
  else n == 0) := by
  unfold kidsOk
  have ic : ∀ {p q : Prop} [Decidable p] [Decidable q] {x y x' y' : Bool}, (p ↔ q) → x = x' → y = y' → (if p then x else y) = if q then x' else y' := by
    intro p q _ _ x y x' y' h1 h2 h3
    subst h2; subst h3
    by_cases hp : p
    · rw [if_pos hp, if_pos (h1.1 hp)]
    rw [if_neg hp, if_neg (fun h => hp (h1.2 h))]
  refine ic HS HQ (ic HS HQ (ic HS HQ (ic HS HQ (ic HS HQ (ic HS HQ HQ)))))
theorem kidsOk_iff (k n : Nat) : kidsOk (k : Int) n = true ↔ leastK k ≤ n ∧ (mostK k < 0 ∨ (n : Int) ≤ mostK k) := by
  rw [kidsOk_nat]
  unfold leastK mostK
  split
  · simp
  split
  · simp; omega
  split
  · simp; omega
  split
  · simp [Nat.ble_eq]
  split
  · simp [Nat.ble_eq]
  split <;> simp <;> omega
def usedL (n : Nat) (M : List Int) : List Bool := (List.range n).map fun j : Nat => decide ((j : Int) ∈ M)
theorem usedL_len (n : Nat) (M : List Int) : (usedL n M).length = n := by simp [usedL]
theorem usedL_get {n j : Nat} (M : List Int) (h : j < n) : (usedL n M).getD j false = decide ((j : Int) ∈ M) := by
  rw [List.getD_eq_getElem?_getD]; simp [usedL, h]
theorem usedL_nil (n : Nat) : usedL n [] = List.replicate n false := by
  apply List.ext_getElem <;> simp [usedL]
theorem usedL_set {n j : Nat} {M : List Int} : (usedL n M).set j true = usedL n (M ++ [(j : Int)]) := by
  apply List.ext_getElem
  · simp [usedL]
  intro i h1 h2
  rw [List.getElem_set]
  by_cases e : j = i
  · subst e; simp [usedL]
  rw [if_neg e]
  have : ¬ (i : Int) = (j : Int) := by omega
  simp [usedL, this]
def NodR (i : Nat) (n : Nod) : Prop := (0 ≤ n.kind ∧ n.kind ≤ 32) ∧ (0 ≤ n.pos ∧ n.pos ≤ 4000) ∧ kidsOk n.kind n.kids.length = true ∧ ∀ k ∈ n.kids, 0 ≤ k ∧ k < (i : Int)
structure PreR (l : List Nod) (q : Nat) : Prop where
  node : ∀ (i : Nat) (n : Nod), i < q → l[i]? = some n → NodR i n
  once : ((l.take q).flatMap Nod.kids).Nodup
structure PreK (l : List Nod) (q : Nat) (n : Nod) (v : Nat) : Prop where
  kid : ∀ k ∈ n.kids.take v, 0 ≤ k ∧ k < (q : Int)
  once : ((l.take q).flatMap Nod.kids ++ n.kids.take v).Nodup
variable {l : List Nod} {q : Nat}
theorem pre0 : PreR l 0 := ⟨fun i n h => absurd h (Nat.not_lt_zero i), by simp⟩
theorem take_kids (hq : q < l.length) : (l.take (q + 1)).flatMap Nod.kids = (l.take q).flatMap Nod.kids ++ l[q].kids := by
  rw [List.take_succ_eq_append_getElem hq, List.flatMap_append, List.flatMap_cons, List.flatMap_nil, List.append_nil]
theorem preK0 (h : PreR l q) {n : Nod} : PreK l q n 0 := ⟨by simp, by simpa using h.once⟩
theorem PreR.step (h : PreR l q) (hq : q < l.length) (h1 : 0 ≤ l[q].kind ∧ l[q].kind ≤ 32) (h2 : 0 ≤ l[q].pos ∧ l[q].pos ≤ 4000) (h3 : kidsOk l[q].kind l[q].kids.length = true) {v : Nat} (hk : PreK l q l[q] v) (hv : l[q].kids.length ≤ v) : PreR l (q + 1) := by
  have ht : l[q].kids.take v = l[q].kids := List.take_of_length_le hv
  have hk1 := hk.kid
  have hk2 := hk.once
  rw [ht] at hk1 hk2
  refine ⟨fun i n hi hn => ?_, by rw [take_kids hq]; exact hk2⟩
  rcases Nat.lt_succ_iff_lt_or_eq.1 hi with k | rfl
  · exact h.node i n k hn
  rw [List.getElem?_eq_getElem hq] at hn; injection hn with hn; subst hn
  exact ⟨h1, h2, h3, hk1⟩
theorem PreK.step {n : Nod} {v : Nat} (h : PreK l q n v) (hv : v < n.kids.length) (h1 : 0 ≤ n.kids[v] ∧ n.kids[v] < (q : Int)) (h2 : n.kids[v] ∉ (l.take q).flatMap Nod.kids ++ n.kids.take v) : PreK l q n (v + 1) := by
  refine ⟨fun k hk => ?_, ?_⟩
  · rw [List.take_succ_eq_append_getElem hv] at hk
    rcases List.mem_append.1 hk with hk | hk
    · exact h.kid k hk
    simp at hk; subst hk; exact h1
  rw [List.take_succ_eq_append_getElem hv, ← List.append_assoc]
  refine List.nodup_append.2 ⟨h.once, by simp, ?_⟩
  intro a ha b hb
  simp at hb; subst hb
  rintro rfl; exact h2 ha
theorem RightN.kid (h : RightN l) (hq : q < l.length) {v : Nat} (hv : v < l[q].kids.length) : (0 ≤ l[q].kids[v] ∧ l[q].kids[v] < (q : Int)) ∧ l[q].kids[v] ∉ (l.take q).flatMap Nod.kids ++ l[q].kids.take v := by
  refine ⟨(h.node q l[q] (List.getElem?_eq_getElem hq)).2.2.2 _ (List.getElem_mem hv), fun hm => ?_⟩
  have hn := h.once
  rw [← List.take_append_drop (q + 1) l, List.flatMap_append, take_kids hq] at hn
  have hn := (List.nodup_append.1 hn).1
  rw [← List.take_append_drop (v + 1) l[q].kids, ← List.append_assoc] at hn
  have hn := (List.nodup_append.1 hn).1
  rw [List.take_succ_eq_append_getElem hv, ← List.append_assoc] at hn
  exact (List.nodup_append.1 hn).2.2 _ hm _ (by simp) rfl
theorem PreR.right (h : PreR l l.length) (h1 : 1 ≤ l.length) (h2 : l.length ≤ 2000) (ha : ∀ b ∈ (usedL l.length (l.flatMap Nod.kids)).take (l.length - 1), b ≠ false) : RightN l := by
  have hn := h.once
  rw [List.take_of_length_le (Nat.le_refl _)] at hn
  refine ⟨h1, h2, fun i n hi => h.node i n (by rcases Nat.lt_or_ge i l.length with k | k; exact k; simp [List.getElem?_eq_none k] at hi) hi, hn, fun j hj => ?_⟩
  have : decide ((j : Int) ∈ l.flatMap Nod.kids) ∈ (usedL l.length (l.flatMap Nod.kids)).take (l.length - 1) := by
    rw [List.mem_iff_getElem?]
    refine ⟨j, ?_⟩
    rw [List.getElem?_take_of_lt HS]
    have hjl : j < l.length := by omega
    simp [usedL, hjl]
  have := ha _ this
  simpa using this
theorem RightN.allU (h : RightN l) : ∀ b ∈ (usedL l.length (l.flatMap Nod.kids)).take (l.length - 1), b ≠ false := by
  intro b hb
  rw [List.mem_iff_getElem?] at hb
  obtain ⟨j, hj⟩ := hb
  rcases Nat.lt_or_ge j (l.length - 1) with k | k
  · rw [List.getElem?_take_of_lt k] at hj
    have hjl : j < l.length := by omega
    simp [usedL, hjl] at hj
    subst hj
    simpa using h.all j HS
  rw [List.getElem?_take_eq_none k] at hj; cases hj
end Go.Sy
