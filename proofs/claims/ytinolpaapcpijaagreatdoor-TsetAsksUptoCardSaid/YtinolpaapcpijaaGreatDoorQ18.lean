/- Joined of my own texts: TsP, UnV, SeA, SeB, SeC, FwAA, TsA, TsB, SeD, SeE, TsC, SeF, SeG, SeH, SeI, SeJ. -/
import Derived.Test.YtinolpaapcpijaaGreatDoorQ17
import Derived.Laws.StructEq
namespace Go.Sy
open Go Go.Proofs
def markB (w : List UInt8) : Bool := w == [61] || w == [126]
def trmN (t : Ty) : Nat → List Tm
  | 0 => []
  | k + 1 => trmN t k ++ if markB (t.words.getD k []) = true then [(t.words.getD k [], t.kids.getD k 0)] else []
def trmL (t : Ty) : List Tm := trmN t t.words.length
def noTy : Ty := ⟨0, [], 0, [], []⟩
def boundR (T : List Ty) (B : List Int) (t : Ty) : Option Ty := if t.kind = 9 ∧ t.n < B.length then some (tyAt T (B.getD t.n.toNat 0)) else none
def bndP (T : List Ty) (B : List Int) : Prop := B.length ≤ 16 ∧ ∀ b ∈ B, 0 ≤ b ∧ b < T.length ∧ (tyAt T b).kind = 7
theorem bndP.up {T M : List Ty} {B : List Int} (h : bndP T B) (hp : T <+: M) : bndP M B := ⟨h.1, fun b hb => by
  obtain ⟨h1, h2, h3⟩ := h.2 b hb
  have := hp.length_le
  exact ⟨h1, by omega, by rw [tyAt_pre hp h1 h2]; exact h3⟩⟩
def allR {σ α : Type} (f : σ → α → Except Int (Option σ)) : List α → σ → Except Int (Option σ)
  | [], s => .ok (some s)
  | x :: l, s => match f s x with
    | .error e => .error e
    | .ok none => .ok none
    | .ok (some s') => allR f l s'
theorem allR_snoc {σ α : Type} (f : σ → α → Except Int (Option σ)) : ∀ (l : List α) (s : σ) (x : α), allR f (l ++ [x]) s = match allR f l s with
    | .error e => .error e
    | .ok none => .ok none
    | .ok (some s') => f s' x
  | [], s, x => by
    simp only [List.nil_append, allR]
    cases f s x with
    | error e => rfl
    | ok o => cases o <;> rfl
  | y :: l, s, x => by
    simp only [List.cons_append, allR]
    cases f s y with
    | error e => rfl
    | ok o =>
      cases o with
      | none => rfl
      | some s' => exact allR_snoc f l s' x
section
variable {σ α : Type} {f : σ → α → Except Int (Option σ)} {l : List α} {s s' : σ} {q : Nat}
theorem all_step (hq : q < l.length) (h : allR f (l.take q) s = .ok (some s')) : allR f (l.take (q + 1)) s = f s' l[q] := by
  rw [List.take_succ_eq_append_getElem hq, allR_snoc, h]
theorem all_stop {r : Except Int (Option σ)} (hr : ∀ x, r ≠ .ok (some x)) : ∀ (l m : List α) (s : σ), allR f l s = r → allR f (l ++ m) s = r
  | [], m, s, h => absurd h (fun e => hr s e.symm)
  | y :: l, m, s, h => by
    simp only [List.cons_append, allR] at h ⊢
    cases hy : f s y with
    | error e => rw [hy] at h; exact h
    | ok o =>
      cases o with
      | none => rw [hy] at h; exact h
      | some s2 => rw [hy] at h; exact all_stop hr l m s2 h
theorem all_err (hq : q < l.length) (h : allR f (l.take q) s = .ok (some s')) {e : Int} (he : f s' l[q] = .error e) : allR f l s = .error e := by
  have := all_stop (r := .error e) (fun x h => by cases h) (l.take (q + 1)) (l.drop (q + 1)) s ((all_step hq h).trans he)
  rwa [List.take_append_drop] at this
theorem all_no (hq : q < l.length) (h : allR f (l.take q) s = .ok (some s')) (he : f s' l[q] = .ok none) : allR f l s = .ok none := by
  have := all_stop (r := .ok none) (fun x h => by cases h) (l.take (q + 1)) (l.drop (q + 1)) s ((all_step hq h).trans he)
  rwa [List.take_append_drop] at this
theorem all_inv (I : σ → Prop) : ∀ (l : List α) (s s' : σ), I s → (∀ x ∈ l, ∀ a b, I a → f a x = .ok (some b) → I b) → allR f l s = .ok (some s') → I s'
  | [], s, s', h, _, e => by injection e with e; injection e with e; exact e ▸ h
  | y :: l, s, s', h, hs, e => by
    simp only [allR] at e
    cases hy : f s y with
    | error e2 => rw [hy] at e; cases e
    | ok o =>
      rw [hy] at e
      cases o with
      | none => cases e
      | some s2 => exact all_inv I l s2 s' (hs y (.head _) s s2 h hy) (fun x hx => hs x (.tail _ hx)) e
end
noncomputable def cmpR (N : List Nmd) (B : List Int) : Nat → List Ty × List Int → Int → Except Int (Option (List Ty × List Int))
  | 0, s, _ => .ok (some s)
  | f + 1, (T, A), i =>
    if i ∈ A then .ok (some (T, A)) else match undR T N i with
    | .error e => .error e
    | .ok (T1, k) =>
      if (tyAt T1 k).kind = 0 ∨ (tyAt T1 k).kind = 1 ∨ (tyAt T1 k).kind = 7 then .ok (some (T1, i :: A))
      else if (tyAt T1 k).kind = 3 ∨ (tyAt T1 k).kind = 6 then allR (cmpR N B f) (tyAt T1 k).kids (T1, i :: A)
      else match boundR T1 B (tyAt T1 k) with
        | none => .ok none
        | some b => if b.n % 2 = 1 then .ok (some (T1, i :: A)) else if 2 ≤ b.n then allR (cmpR N B f) ((trmL b).map (·.2)) (T1, i :: A) else .ok none
structure CmpI (N : List Nmd) (T0 : List Ty) (n : Nat) (s : List Ty × List Int) : Prop where
  right : rightU s.1 N
  pre : T0 <+: s.1
  once : s.2.Nodup
  there : ∀ x ∈ s.2, 0 ≤ x ∧ x < s.1.length
  many : n ≤ s.2.length
theorem CmpI.fuel {N : List Nmd} {T0 : List Ty} {n : Nat} {s : List Ty × List Int} (h : CmpI N T0 n s) (hn : 400 ≤ n) {i : Int} (h0 : 0 ≤ i) (hi : i < s.1.length) : i ∈ s.2 := Classical.byContradiction fun hc => by
  have h4 := h.right.1.2.1
  have := nodup_len 400 (i :: s.2) (List.nodup_cons.2 ⟨hc, h.once⟩) (fun x hx => by
    rcases List.mem_cons.1 hx with e | hx
    · subst e; omega
    have := h.there x hx; omega)
  have := h.many
  simp at *; omega
theorem kids_there {T : List Ty} (hr : rightP T) {k : Int} (h0 : 0 ≤ k) (hk : k < T.length) : ∀ x ∈ (tyAt T k).kids, 0 ≤ x ∧ x < T.length := fun x hx => by
  obtain ⟨hn, e⟩ := GS h0 hk
  rw [e] at hx
  have := (GT hr hn).kids x hx
  omega
theorem trmN_kids (t : Ty) : ∀ q, q ≤ t.words.length → t.words.length = t.kids.length → ∀ x ∈ trmN t q, x.2 ∈ t.kids
  | 0, _, _ => by simp [trmN]
  | q + 1, hq, hl => fun x hx => by
    simp only [trmN, List.mem_append] at hx
    rcases hx with hx | hx
    · exact trmN_kids t q Jb hl x hx
    split at hx
    · have := List.mem_singleton.1 hx
      subst this
      simp only
      rw [GK 0 Jb]
      exact List.getElem_mem _
    cases hx
theorem trmN_len (t : Ty) : ∀ q, (trmN t q).length ≤ q
  | 0 => Nat.le_refl _
  | q + 1 => by
    have := trmN_len t q
    simp only [trmN, List.length_append]
    split <;> simp <;> omega
theorem trm_there {T : List Ty} (hr : rightP T) {k : Int} (h0 : 0 ≤ k) (hk : k < T.length) (h7 : (tyAt T k).kind = 7) : ∀ x ∈ trmL (tyAt T k), 0 ≤ x.2 ∧ x.2 < T.length := fun x hx => by
  obtain ⟨hn, e⟩ := GS h0 hk
  have hl := (GT hr hn).iface (by rw [← e]; exact h7)
  rw [← e] at hl
  exact kids_there hr h0 hk _ (trmN_kids _ _ (Nat.le_refl _) hl x hx)
theorem bound_is {T : List Ty} {B : List Int} (hB : bndP T B) {t b : Ty} (hn : 0 ≤ t.n) (h : boundR T B t = some b) : ∃ k : Int, k ∈ B ∧ 0 ≤ k ∧ k < T.length ∧ b = tyAt T k ∧ b.kind = 7 ∧ B[t.n.toNat]? = some k := by
  unfold boundR at h
  split at h
  · rename_i hc
    injection h with h
    have hl : t.n.toNat < B.length := by omega
    rw [GK 0 hl] at h
    obtain ⟨h1, h2, h3⟩ := hB.2 _ (List.getElem_mem hl)
    exact ⟨_, List.getElem_mem hl, h1, h2, h.symm, by rw [← h]; exact h3, List.getElem?_eq_getElem hl⟩
  cases h
theorem param_n {T : List Ty} (hr : rightP T) {k : Int} (h0 : 0 ≤ k) (hk : k < T.length) (h9 : (tyAt T k).kind = 9) : 0 ≤ (tyAt T k).n ∧ (tyAt T k).n < 16 := by
  obtain ⟨hn, e⟩ := GS h0 hk
  rw [e] at h9 ⊢
  have := (GT hr hn).param h9
  exact ⟨this.1, this.2.1⟩
theorem cmpR_ok {N : List Nmd} {B : List Int} {T0 : List Ty} : ∀ (f : Nat) (n : Nat) (s s' : List Ty × List Int) (i : Int), CmpI N T0 n s → bndP s.1 B → 0 ≤ i → i < s.1.length → cmpR N B f s i = .ok (some s') → CmpI N T0 n s' ∧ s.1 <+: s'.1 ∧ s.2.length ≤ s'.2.length
  | 0, n, s, s', i, h, _, _, _, e => by injection e with e; injection e with e; exact e ▸ ⟨h, List.prefix_rfl, Nat.le_refl _⟩
  | f + 1, n, (T, A), s', i, h, hB, h0, hi, e => by
    simp only [cmpR] at e
    by_cases c : i ∈ A
    · rw [if_pos c] at e; injection e with e; injection e with e; exact e ▸ ⟨h, List.prefix_rfl, Nat.le_refl _⟩
    rw [if_neg c] at e
    cases hx : undR T N i with
    | error e2 => rw [hx] at e; cases e
    | ok y =>
      obtain ⟨T1, k⟩ := y
      rw [hx] at e
      simp only at e
      obtain ⟨u1, u2, u3, u4⟩ := undR_ok h.right h0 hi hx
      replace u2 : T <+: T1 := u2
      have hl : T.length ≤ T1.length := u2.length_le
      have hi2 : i < (T.length : Int) := hi
      have ht2 : ∀ x ∈ A, 0 ≤ x ∧ x < (T.length : Int) := h.there
      have hI : CmpI N T0 n (T1, i :: A) := ⟨u1, h.pre.trans u2, List.nodup_cons.2 ⟨c, h.once⟩, fun x hx => by
        rcases List.mem_cons.1 hx with e | hx
        · subst e; exact ⟨h0, by simp only; omega⟩
        have := ht2 x hx; exact ⟨this.1, by simp only; omega⟩, by have := h.many; simp only [List.length_cons] at this ⊢; omega⟩
      have key : ∀ l : List Int, (∀ x ∈ l, 0 ≤ x ∧ x < T1.length) → allR (cmpR N B f) l (T1, i :: A) = .ok (some s') → CmpI N T0 n s' ∧ T <+: s'.1 ∧ A.length ≤ s'.2.length := fun l hl2 e => by
        have := all_inv (f := cmpR N B f) (fun s => CmpI N T0 n s ∧ T1 <+: s.1 ∧ (i :: A).length ≤ s.2.length) l (T1, i :: A) s' ⟨hI, List.prefix_rfl, Nat.le_refl _⟩ (fun x hx a b ha hab => by
          obtain ⟨a1, a2, a3⟩ := ha
          have hx2 := hl2 x hx
          have := a2.length_le
          obtain ⟨b1, b2, b3⟩ := cmpR_ok f n a b x a1 (hB.up (u2.trans a2)) hx2.1 Jb hab
          exact ⟨b1, a2.trans b2, by omega⟩) e
        exact ⟨this.1, u2.trans this.2.1, by have := this.2.2; simp only [List.length_cons] at this; omega⟩
      have fin : ∀ x, (Except.ok (some (T1, i :: A)) : Except Int (Option (List Ty × List Int))) = .ok (some x) → CmpI N T0 n x ∧ T <+: x.1 ∧ A.length ≤ x.2.length := fun x e => by
        injection e with e; injection e with e
        subst e
        exact ⟨hI, u2, by simp⟩
      split at e
      · exact fin _ e
      split at e
      · exact key _ (kids_there u1.1 u3 u4) e
      split at e
      · cases e
      rename_i hb
      split at e
      · exact fin _ e
      split at e
      · by_cases h9 : (tyAt T1 k).kind = 9
        · obtain ⟨k2, _, k3, k4, rfl, k5, _⟩ := bound_is (hB.up u2) (param_n u1.1 u3 u4 h9).1 hb
          refine key _ (fun x hx => ?_) e
          obtain ⟨z, hz, rfl⟩ := List.mem_map.1 hx
          exact trm_there u1.1 k3 k4 k5 z hz
        unfold boundR at hb
        rw [if_neg (fun h => h9 h.1)] at hb; cases hb
      cases e
noncomputable def withinR (N : List Nmd) (T : List Ty) (x : Tm) (l : List Tm) : Except Int (Option (List Ty)) :=
  if x ∈ l then .ok (some T) else if x.1 = [126] then .ok none else match undR T N x.2 with
  | .error e => .error e
  | .ok (T1, k) => if (([126] : List UInt8), k) ∈ l then .ok (some T1) else .ok none
theorem within_ok {N : List Nmd} {T : List Ty} (hu : rightU T N) {x : Tm} {l : List Tm} (h0 : 0 ≤ x.2) (hx : x.2 < T.length) {T' : List Ty} (h : withinR N T x l = .ok (some T')) : rightU T' N ∧ T <+: T' := by
  unfold withinR at h
  split at h
  · injection h with h; injection h with h; subst h; exact ⟨hu, List.prefix_rfl⟩
  split at h
  · cases h
  split at h
  · cases h
  rename_i hy
  split at h
  · injection h with h; injection h with h; subst h
    obtain ⟨h1, h2, _⟩ := undR_ok hu h0 hx hy
    exact ⟨h1, h2⟩
  cases h
noncomputable def insideR (N : List Nmd) (B : List Int) (T : List Ty) (i : Int) (l : List Tm) : Except Int (Option (List Ty)) :=
  if (tyAt T i).kind = 9 then
    if 2 ≤ ((boundR T B (tyAt T i)).getD noTy).n then allR (fun T x => withinR N T x l) (trmL ((boundR T B (tyAt T i)).getD noTy)) T else .ok none
  else match undR T N i with
    | .error e => .error e
    | .ok (T1, k) => if (tyAt T1 k).kind = 7 then .ok none else withinR N T1 (([61] : List UInt8), i) l
def kidOf (b : Ty) (w : List UInt8) : Option Int := (b.words.idxOf? w).map fun k => b.kids.getD k 0
noncomputable def methR (N : List Nmd) (B : List Int) (T : List Ty) (i : Int) (w : List UInt8) (g : Int) : Except Int Bool :=
  if (tyAt T i).kind = 9 then .ok (kidOf ((boundR T B (tyAt T i)).getD noTy) w == some g)
  else if w = [95] then .ok false
  else match findR N T i w with
    | .ok (_, x) => .ok (x.method && decide (x.typ = g) && (!x.ptr || x.via))
    | .error e => if e = 1 ∨ e = 8 ∨ e = 9 then .ok false else .error e
noncomputable def wordsR (N : List Nmd) (B : List Int) (T : List Ty) (i : Int) (t : Ty) : Nat → Except Int Bool
  | 0 => .ok true
  | q + 1 => match wordsR N B T i t q with
    | .error e => .error e
    | .ok false => .ok false
    | .ok true => if isName (t.words.getD q []) = true then methR N B T i (t.words.getD q []) (t.kids.getD q 0) else .ok true
noncomputable def isR (N : List Nmd) (B : List Int) (T : List Ty) (i c : Int) : Except Int Bool :=
  match wordsR N B T i (tyAt T c) (tyAt T c).words.length with
  | .error e => .error e
  | .ok false => .ok false
  | .ok true => match (if 2 ≤ (tyAt T c).n then insideR N B T i (trmL (tyAt T c)) else .ok (some T)) with
    | .error e => .error e
    | .ok none => .ok false
    | .ok (some T1) => if (tyAt T c).n % 2 = 1 then match cmpR N B 400 (T1, []) i with
      | .error e => .error e
      | .ok none => .ok false
      | .ok (some _) => .ok true
    else .ok true
end Go.Sy
namespace Go.Sy
open Go Go.Proofs Go.RowKit
attribute [local irreducible] AC AT AO AK AH ACalls Sub Res.cells Res.obj Res.nix Res.own Res.map Exit.then Exit.inBlock bodyPost Code.wp Code.wpIn WL Next Post Kont
section
variable {W0 : World} {L : List Res} {F : List Fact} {R : Value → List Res → List Fact → Prop}
set_option maxRecDepth 100000
set_option maxHeartbeats 16000000
end
end Go.Sy
namespace Go.Sy
open Go Go.Proofs Go.RowKit
theorem plus_eq (s : List UInt8) : Lib.hasPrefix s [43] = plusW s := by
  cases s with
  | nil => rfl
  | cons x s =>
    simp only [Lib.hasPrefix, plusW, List.isPrefixOf, List.head?_cons, Bool.and_true]
    rw [Bool.eq_iff_iff]
    constructor
    · intro h; have := eq_of_beq h; subst this; rfl
    intro h; have h2 : some x = some 43 := eq_of_beq h; injection h2 with h2; subst h2; rfl
attribute [local irreducible] AC AT AO AK AH ACalls Sub Res.cells Res.obj Res.nix Res.own Res.map Exit.then Exit.inBlock bodyPost Code.wp Code.wpIn WL Next Post Kont
section
variable {W0 : World} {L : List Res} {F : List Fact} {R : Value → List Res → List Fact → Prop}
set_option maxRecDepth 100000
set_option maxHeartbeats 16000000
theorem hasp_c (s : List UInt8) (h : R (.bool (plusW s)) L F) : ACalls Tryz.prog W0 190 #[S s, S [43]] L F R := by
  refine ACalls.lib0 (fun w _ => ?_) h
  have := Tryz.strings_HasPrefix ⟨s.toArray⟩ ⟨#[43]⟩ w
  have e : Lib.hasPrefix (⟨s.toArray⟩ : ByteArray).data.toList (⟨#[43]⟩ : ByteArray).data.toList = plusW s := plus_eq s
  rw [e] at this
  exact this
theorem sfield_c (s : List UInt8) (h : R (S (fieldN s)) L F) : ACalls Tryz.prog W0 92 #[S s] L F R := by
  refine Gg Tryz.func92 HZ Tryz.ntmps92 HZ ?_
  refine qs 8 ?_
  refine Ga (Ge HZ HZ (trimp_c s ?_))
  refine qs 4 ?_
  exact Gb Tryz.results92 rfl (Gf _ _) h
theorem clipI_c (l : List Int) {a : Option Addr} {k c : Nat} (m1 : fI l a k c ∈ F) (h : ∀ a, R (.slice a l.length l.length) L (fI l a l.length l.length :: F)) : ACalls Tryz.prog W0 177 #[.slice a k c] L F R := by
  refine Gg Tryz.func177 HZ Tryz.ntmps177 HZ ?_
  refine qs 9 ?_
  refine Ga (Gt HZ HZ (fun hl5 => ?_) (hm := by repeat (first | exact mem0 | assumption | refine memS ?_)))
  refine qs 1 ?_
  refine Ga (Gt HZ HZ (fun hl7 => ?_) (hm := by repeat (first | exact mem0 | assumption | refine memS ?_)))
  refine Ga (AO.sliceFull (lst := l) (enc := eI) HZ HZ HZ HZ HZ HZ memA (fun a8 => ?_))
  refine qs 4 ?_
  exact Gb Tryz.results177 rfl (Gf _ _) (h _)
theorem uundE_c (g : Glob W0) (T : List Ty) (N : List Nmd) (hno : ∀ n ∈ N, NmOk n) (hu : rightU T N) (i : Int) (h0 : 0 ≤ i) (hi : i < T.length) {a a2 : Option Addr} {k c k2 c2 : Nat} (mL : fL T a k c ∈ F) (mN : fN N a2 k2 c2 ∈ F) (mE : Fact.slc (.slice none 0 0) 5 [] ∈ F)
    (hE : ∀ e, e ≠ 0 → undR T N i = .error e → R (.tuple #[.agg #[.slice none 0 0, .slice none 0 0], .int .i64 0, .int .i64 e]) L F)
    (hO : ∀ o q a k c, undR T N i = .ok (o, q) → R (.tuple #[.agg #[.slice a k c, .slice a2 k2 c2], .int .i64 q, .int .i64 0]) L (fL o a k c :: F)) :
    ACalls Tryz.prog W0 15 #[.agg #[.slice a k c, .slice a2 k2 c2], .int .i64 i] L F R := by
  have hund : ∀ n : Nat, i = n → ∀ hn : n < T.length, T[n].kind = 8 → ∀ j, ∀ hj : j < N.length, atN N T[n].name = some j → ∀ u : Nat, N[j].under = u → undR T N i = subR T u T[n].kids := by
    intro n e hn h8 j hj hat u hju
    subst e
    unfold undR
    rw [HQ hn, if_pos h8, hat]
    simp only
    rw [GK default hj, hju, Int.toNat_natCast]
  refine uunder_c g T N (Hj hu.1) hno i mL mN mE (fun c => absurd hu c) (fun _ c => absurd ⟨h0, hi⟩ c) (fun _ n e hn hk => ?_) (fun _ n e hn hk j hj hat u hju hul x hx0 hx => hE x hx0 ?_) (fun _ n e hn hk j hj hat u hju hul o q a k c hx => hO o q a k c ?_)
  · refine hO T i a k c ?_
    subst e
    unfold undR
    rw [HQ hn, if_neg hk]
  · rw [hund n e hn hk j hj hat u hju]; exact hx
  rw [hund n e hn hk j hj hat u hju]; exact hx
theorem turn_out (T : List Ty) {kids : List Int} {ms : List Mth} {q : Nat} {o : List Ty} {out : List Mth} {x : Int} (h : turnR kids ms T q = .ok (o, out)) (hq : q < ms.length) {o2 : List Ty} (hx : subR o ms[q].sig.toNat kids = .ok (o2, x)) : turnR kids ms T (q + 1) = .ok (o2, out ++ [⟨ms[q].name, ms[q].ptr, x⟩]) := by
  unfold turnR at h ⊢
  rw [stepsN_ok h]
  simp only
  rw [GK default hq, hx]
theorem turn_bad {T : List Ty} {kids : List Int} {ms : List Mth} {q : Nat} {o : List Ty} {out : List Mth} {e : Int} (h : turnR kids ms T q = .ok (o, out)) (hq : q < ms.length) (hx : subR o ms[q].sig.toNat kids = .error e) : turnR kids ms T ms.length = .error e := by
  unfold turnR at h ⊢
  refine stepsN_bad h ?_ hq
  simp only
  rw [GK default hq, hx]
theorem own_8 {T : List Ty} {N : List Nmd} {n : Nat} (hn : n < T.length) (h8 : T[n].kind = 8) {j : Nat} (hj : j < N.length) (hat : atN N T[n].name = some j) : ownR T N (n : Int) = turnR T[n].kids N[j].methods T N[j].methods.length := by
  unfold ownR
  rw [HQ hn, if_neg Jb, if_pos h8, hat]
  simp only
  rw [GK default hj]
theorem own_7 {T : List Ty} {N : List Nmd} {n : Nat} (hn : n < T.length) (h7 : T[n].kind = 7) : ownR T N (n : Int) = .ok (T, ownZ (zips T[n])) := by
  unfold ownR
  rw [HQ hn, if_pos h7]
theorem own_none {T : List Ty} {N : List Nmd} {n : Nat} (hn : n < T.length) (h7 : T[n].kind ≠ 7) (h8 : T[n].kind ≠ 8) : ownR T N (n : Int) = .ok (T, []) := by
  unfold ownR
  rw [HQ hn, if_neg h7, if_neg h8]
theorem eMt_turn {out ms : List Mth} {q : Nat} (hl : out.length = q) (hq : q < ms.length) (x : Int) : (((out ++ ms.drop q).map eMt).set q ((eMt ms[q]).set 2 (.val (.int .i64 x)))) = ((out ++ [(⟨ms[q].name, ms[q].ptr, x⟩ : Mth)]) ++ ms.drop (q + 1)).map eMt := by
  subst hl
  rw [List.drop_eq_getElem_cons hq, List.map_append, List.map_cons, List.set_append_right _ _ (by simp)]
  simp only [List.length_map, Nat.sub_self, List.set_cons_zero, List.append_assoc, List.map_append, List.map_cons]
  rfl
theorem umethE_c (g : Glob W0) (T : List Ty) (N : List Nmd) (hno : ∀ n ∈ N, NmOk n) (hu : rightU T N) (i : Int) (h0 : 0 ≤ i) (hi : i < T.length) {a a2 : Option Addr} {k c k2 c2 : Nat} (mL : fL T a k c ∈ F) (mN : fN N a2 k2 c2 ∈ F) (mE : Fact.slc (.slice none 0 0) 5 [] ∈ F) (mM : Fact.slc (.slice none 0 0) 3 [] ∈ F)
    (hE : ∀ e, e ≠ 0 → ownR T N i = .error e → R (.tuple #[.agg #[.slice none 0 0, .slice none 0 0], .slice none 0 0, .int .i64 e]) L F)
    (hO : ∀ o ms a k c a' k' c', ownR T N i = .ok (o, ms) → R (.tuple #[.agg #[.slice a k c, .slice a2 k2 c2], .slice a' k' c', .int .i64 0]) L (fL o a k c :: fMs ms a' k' c' :: F)) :
    ACalls Tryz.prog W0 17 #[.agg #[.slice a k c, .slice a2 k2 c2], .int .i64 i] L F R := by
  have hok := Hj hu.1
  obtain ⟨n, rfl⟩ : ∃ n : Nat, i = (n : Int) := ⟨i.toNat, by omega⟩
  have hn : n < T.length := by omega
  refine Gg Tryz.func17 HZ Tryz.ntmps17 HZ ?_
  refine qs 2 ?_
  refine Ga (GL HZ HZ (fun b2 => (Ga (Gj HZ (fun b4 => ?_)))))
  refine qs 9 ?_
  refine Ga (Ge rfl rfl (uthere_c g T N hok hno n mL mN (fun e he => by rcases he with ⟨h, _⟩ | ⟨_, h, _⟩; exact absurd hu h; exact absurd ⟨h0, hi⟩ h) (fun c13 d13 => ?_)))
  refine qs 6 ?_
  refine Ga (GG HZ HZ HZ (fun c21 => absurd HZ c21) (fun _ => ?_))
  refine qs 10 ?_
  have hkl := (hok _ (List.getElem_mem hn)).kids
  refine Ga (Gd HZ HZ HZ HZ (enc := eTy) (lst := T) memA hn (fun _ _ => ?_))
  refine Ga (GN HZ HZ ?_)
  intro a28 k28 z28 d28 e28 f28
  refine Ga (Gj HZ (fun b8 => ?_))
  refine qs 13 ?_
  refine Ga (Gr HZ HZ HZ (fun c32 => ?_) (fun c32 => ?_))
  ·refine qs 5 ?_
   refine GP (fun _ => false) [(b2, _, _), (b8, _, _)] bxA HZ (fun hx hX => ?_)
   refine qt [0, 1] ?_
   refine Gm (i := 2) Ja HZ HZ (fun _ => ?_)
   refine Ge HZ HZ (own_c T[n] ((GT c13.1 hn).iface c32) hkl (show fW T[n] _ _ _ ∈ _ from memA) (show fK T[n] _ _ _ ∈ _ from memA) (fun a35 k35 z35 => ?_))
   refine Gi bxA memB ?_
   refine Gm (i := 3) Ja HZ HZ (fun _ => ?_)
   refine Gx HZ HZ HZ HZ ?_
   refine Gi bxA memB ?_
   refine qt [4, 5] ?_
   refine Gq Ja ?_
   refine qs 4 ?_
   exact Gn (rs := [.cell 4 _, .tmp 5, .tmp 6]) (L' := L) (F' := fL T a k c :: fMs (ownZ (zips T[n])) a35 k35 z35 :: F) Tryz.results17 (.agg (j := 1) rfl rfl rfl (.tmp rfl (.tmp rfl .nil))) (Sub.drop.trans (Sub.drop.trans (Sub.drop.trans (Gh (mem2 memA memA (fun x hx => by repeat (first | exact hx | refine List.mem_cons_of_mem _ ?_))))))) (hO T _ a k c a35 k35 z35 (own_7 hn c32))
  refine qs 6 ?_
  refine Ga (Gr HZ HZ HZ (fun c37 => ?_) (fun c37 => ?_))
  ·refine qs 9 ?_
   refine Ga (Ge rfl rfl (at_c N T[n].name memA (fun j c42 => ?_) (fun c42 => by obtain ⟨i, hi, _⟩ := c13.2.2.2 _ (List.getElem_mem hn) c37; rw [c42] at hi; exact absurd hi (by simp))))
   refine qs 12 ?_
   obtain ⟨hjl, _⟩ := atN_some c42
   have hown := own_8 hn c37 hjl c42
   have hnm := (c13.2.2.1 j hjl).1
   have hm16 := hnm.2.2.2.1
   refine Ga (Gd HZ HZ HZ HZ (enc := eNm) (lst := N) memA hjl (fun _ _ => ?_))
   refine Ga (Ha HZ HZ (fun _ => ?_))
   refine Ga (Gs HZ HZ ?_)
   intro a50 k50 z50
   refine Ga (Ge HZ HZ (cloneM_c N[j].methods Jb memA (fun a51 k51 z51 => ?_)))
   refine qs 7 ?_
   refine Ga (AO.lenO (i := 0) HZ HZ HZ (fun hk53 => ?_))
   rw [List.length_map]
   refine qs 4 ?_
   have hms : ∀ m ∈ N[j].methods, 0 ≤ m.sig ∧ m.sig < T.length := fun m hm => by
    obtain ⟨q, hq, rfl⟩ := List.getElem_of_mem hm
    have := (hnm.2.2.2.2.1 q hq).2.1
    exact ⟨this.1, this.2.1⟩
   refine GB (fun (x : Nat × (List Ty × List Mth) × (Option Addr × Nat × Nat)) => x.1 ≤ N[j].methods.length ∧ turnR T[n].kids N[j].methods T x.1 = .ok x.2.1) (fun x => [(2, .pointer (some ⟨b2, 0, none⟩)), (4, .pointer (some ⟨b4, 0, none⟩)), (8, .pointer (some ⟨b8, 0, none⟩)), (11, .slice a51 k51 z51), (52, .slice a51 k51 z51), (53, .int .i64 N[j].methods.length), (54, .int .i64 (x.1 : Int))]) (fun x => Res.own (.slice a51 k51 z51) 44 3 ((x.2.1.2 ++ N[j].methods.drop x.1).map eMt) :: _ :: _ :: Res.cells b2 #[.slice x.2.2.1 x.2.2.2.1 x.2.2.2.2, .slice a2 k2 c2] _ :: _) (fun x => fL x.2.1.1 x.2.2.1 x.2.2.2.1 x.2.2.2.2 :: _) (fun x => N[j].methods.length - x.1) (0, (T, []), (a, k, c)) ⟨Nat.zero_le _, rfl⟩ srA (Gh (mem1 memA (fun x hx => hx))) ?_
   rintro ⟨q, ⟨o, out⟩, ⟨a1, k1, c1⟩⟩ ⟨hq, hM⟩
   simp only at hq hM ⊢
   refine qs 2 ?_
   refine Ga (Gw HZ HZ HZ (fun c55 => ?_) (fun c55 => ?_))
   ·refine qs 11 ?_
    have hqm : q < N[j].methods.length := by omega
    obtain ⟨hro, hpo, hlo⟩ := turnR_ok hu hms q hq o out hM
    have hqo : q < (out ++ N[j].methods.drop q).length := by rw [List.length_append, List.length_drop]; omega
    have hpl := hpo.length_le
    have hgq : (out ++ N[j].methods.drop q)[q] = N[j].methods[q] := by
     rw [List.getElem_append_right Jb, List.getElem_drop]; congr 1; omega
    have hsg := hms _ (List.getElem_mem hqm)
    obtain ⟨u, hum⟩ : ∃ u : Nat, N[j].methods[q].sig = (u : Int) := ⟨N[j].methods[q].sig.toNat, by omega⟩
    have hun : N[j].methods[q].sig.toNat = u := by omega
    have hul : u < T.length := by omega
    have hok2 := Hj hro.1
    refine Ga (Hb (i := 0) (q := q) HZ HZ HZ HZ HZ (by rw [List.length_map]; exact hqo) (fun bo ho => ?_))
    subst ho
    refine Ga (AO.loadOA (i := 0) (q := q) (vs := [S N[j].methods[q].name, .bool N[j].methods[q].ptr, .int .i64 (u : Int)]) HZ HZ HZ HZ (by rw [List.getElem?_map, List.getElem?_eq_getElem hqo, hgq, ← hum]; rfl) HZ ?_)
    refine Ga (Gj HZ (fun b13 => ?_))
    refine qs 11 ?_
    refine Ga (Ge HZ HZ (uwith_c g o hok2 hro.1 u Jb T[n].kids Jb (show fL o a1 k1 c1 ∈ _ from memA) (show fK T[n] _ _ _ ∈ _ from memA) memA (fun e h0 he => ?_) (fun o2 q2 a65 k65 c65 hq2 => ?_)))
    ·refine qs 4 ?_
     refine Ga (Gj HZ (fun b14 => ?_))
     refine qs 9 ?_
     refine Ga (GG HZ HZ HZ (fun _ => ?_) (fun c70 => absurd c70 h0))
     refine qs 5 ?_
     refine Ga (GO HZ HZ HZ ?_)
     refine qs 15 ?_
     exact Gn (rs := [.cell 4 _, .tmp 5, .tmp 6]) (L' := L) (F' := F) Tryz.results17 (.agg (j := 4) rfl rfl rfl (.tmp rfl (.tmp rfl .nil))) subA (hE e h0 (by rw [hown]; exact turn_bad hM hqm (by rw [hun]; exact he)))
    refine qs 4 ?_
    refine Ga (Gj HZ (fun b14 => ?_))
    refine qs 9 ?_
    refine Ga (GG HZ HZ HZ (fun c70 => absurd HZ c70) (fun _ => ?_))
    refine qs 11 ?_
    refine Ga (Hb (i := 2) (q := q) HZ HZ HZ HZ HZ (by rw [List.length_map]; exact hqo) (fun bo2 ho2 => ?_))
    cases ho2
    refine qs 1 ?_
    refine Ga (AO.storeOR (v := .int .i64 q2) (i := 2) (q := q) (j := 2) HZ HZ HZ HZ HZ (show ((out ++ N[j].methods.drop q).map eMt)[q]? = some (eMt N[j].methods[q]) by rw [List.getElem?_map, List.getElem?_eq_getElem hqo, hgq]; rfl) (by simp) ?_)
    rw [eMt_turn hlo hqm]
    refine qs 7 ?_
    exact Gk (q + 1, (o2, out ++ [⟨N[j].methods[q].name, N[j].methods[q].ptr, q2⟩]), (a65, k65, c65)) ⟨by simp only; omega, turn_out T hM hqm (by rw [hun]; exact hq2)⟩ (by simp only; omega) srA (Sub.drop.trans (Sub.drop.trans (Gh (mem1 memA (fun x hx => by repeat (first | exact hx | refine List.mem_cons_of_mem _ ?_))))))
   refine qs 21 ?_
   obtain rfl : q = N[j].methods.length := by omega
   rw [List.drop_length, List.append_nil]
   exact Gn (rs := [.cell 4 _, .tmp 5, .tmp 6]) (L' := L) (F' := fL o a1 k1 c1 :: fMs out a51 k51 z51 :: F) Tryz.results17 (.agg (j := 2) rfl rfl rfl (.tmp rfl (.tmp rfl .nil))) ((Gz (i := 0) rfl).trans (Sub.drop.trans (Sub.drop.trans (Sub.drop.trans (Sub.drop.trans (Gh (mem2 memA memA (fun x hx => by repeat (first | exact hx | refine List.mem_cons_of_mem _ ?_))))))))) (hO o out a1 k1 c1 a51 k51 z51 (by rw [hown]; exact hM))
  refine qs 16 ?_
  exact Gn (rs := [.cell 4 _, .tmp 5, .tmp 6]) (L' := L) (F' := fL T a k c :: fMs [] none 0 0 :: F) Tryz.results17 (.agg (j := 1) rfl rfl rfl (.tmp rfl (.tmp rfl .nil))) (Sub.drop.trans (Sub.drop.trans (Sub.drop.trans (Gh (mem2 memA memA (fun x hx => by repeat (first | exact hx | refine List.mem_cons_of_mem _ ?_))))))) (hO T [] a k c none 0 0 (own_none hn c32 c37))
end
end Go.Sy
namespace Go.Sy
open Go Go.Proofs Go.RowKit
theorem look_err1 {T : List Ty} {N : List Nmd} {i e : Int} (h : undR T N i = .error e) : lookR T N i = .error e := by unfold lookR; rw [h]
theorem look_err2 {T : List Ty} {N : List Nmd} {i e k : Int} {o : List Ty} (h : undR T N i = .ok (o, k)) (h2 : ownR o N (if (tyAt o k).kind = 7 then k else i) = .error e) : lookR T N i = .error e := by unfold lookR; rw [h]; simp only [h2]
theorem look_ok {T : List Ty} {N : List Nmd} {i k : Int} {o o2 : List Ty} {ms : List Mth} (h : undR T N i = .ok (o, k)) (h2 : ownR o N (if (tyAt o k).kind = 7 then k else i) = .ok (o2, ms)) : lookR T N i = .ok (o2, ⟨k, ms⟩) := by unfold lookR; rw [h]; simp only [h2]
abbrev wCells (a : Option Addr) (k c : Nat) (a2 : Option Addr) (k2 c2 : Nat) (e : Int) : List Value := [.slice a k c, .slice a2 k2 c2, .int .i64 e]
attribute [local irreducible] AC AT AO AK AH ACalls Sub Res.cells Res.obj Res.nix Res.own Res.map Exit.then Exit.inBlock bodyPost Code.wp Code.wpIn WL Next Post Kont
section
variable {W0 : World} {L : List Res} {F : List Fact} {R : Value → List Res → List Fact → Prop}
set_option maxRecDepth 100000
set_option maxHeartbeats 16000000
theorem look_c (g : Glob W0) (T : List Ty) (N : List Nmd) (hno : ∀ n ∈ N, NmOk n) (hu : rightU T N) (i : Int) (h0 : 0 ≤ i) (hi : i < T.length) {a a2 : Option Addr} {k c k2 c2 bw iw : Nat} (hw : L[iw]? = some (Res.cells bw #[.slice a k c, .slice a2 k2 c2, .int .i64 0] 147)) (mL : fL T a k c ∈ F) (mN : fN N a2 k2 c2 ∈ F) (mE : Fact.slc (.slice none 0 0) 5 [] ∈ F) (mM : Fact.slc (.slice none 0 0) 3 [] ∈ F)
    (hE : ∀ e, e ≠ 0 → lookR T N i = .error e → R (vWh ⟨0, []⟩ none 0 0) (L.set iw (Res.cells bw #[.slice a k c, .slice a2 k2 c2, .int .i64 e] 147)) F)
    (hO : ∀ o wh a' k' c' a3 k3 c3, lookR T N i = .ok (o, wh) → R (vWh wh a3 k3 c3) (L.set iw (Res.cells bw #[.slice a' k' c', .slice a2 k2 c2, .int .i64 0] 147)) (fL o a' k' c' :: fMs wh.ms a3 k3 c3 :: F)) :
    ACalls Tryz.prog W0 151 #[.pointer (some ⟨bw, 0, none⟩), .int .i64 i] L F R := by
  refine Gg Tryz.func151 HZ Tryz.ntmps151 HZ ?_
  refine qs 2 ?_
  refine Ga (Gj HZ (fun b4 => ?_))
  refine qs 5 ?_
  refine Ga (GF HZ HZ ?_)
  refine qs 1 ?_
  refine Ga (HD (cs := wCells a k c a2 k2 c2 0) HZ HZ ?_ (hi := (by repeat (first | exact has0 | assumption | apply hasS))) (hk := HZ))
  refine qs 1 ?_
  refine Ga (Ge HZ HZ (uundE_c g T N hno hu i h0 hi memA memA memA (fun e he hx => ?_) (fun o q a16 k16 c16 hx => ?_)))
  ·refine qs 4 ?_
   refine Ga (Gj HZ (fun b5 => ?_))
   refine qs 9 ?_
   refine Ga (GG HZ HZ HZ (fun _ => ?_) (fun c21 => absurd c21 he))
   refine qs 7 ?_
   refine Ga (GF HZ HZ ?_)
   refine qs 1 ?_
   refine Ga (GM (cs := wCells a k c a2 k2 c2 0) HZ HZ HZ ?_ (hi := (by repeat (first | exact has0 | assumption | apply hasS))) (ho := HZ))
   refine qs 4 ?_
   refine Ga (GO HZ HZ HZ ?_)
   refine qs 5 ?_
   exact Gn (rs := [.cell 4 _]) (L' := L.set iw (Res.cells bw #[.slice a k c, .slice a2 k2 c2, .int .i64 e] 147)) (F' := F) Tryz.results151 (.agg (j := 1) rfl rfl rfl .nil) subA (hE e he (look_err1 hx))
  refine qs 4 ?_
  refine Ga (Gj HZ (fun b5 => ?_))
  refine qs 9 ?_
  obtain ⟨hro, hpo, hq0, hql⟩ := undR_ok hu h0 hi hx
  refine Ga (GG HZ HZ HZ (fun c21 => absurd HZ c21) (fun _ => ?_))
  refine qs 17 ?_
  obtain ⟨hqn, hqe⟩ := GS hq0 hql
  refine Ga (Gd (k := q.toNat) HZ HZ HZ Jb (enc := eTy) (lst := o) memA hqn (fun _ _ => ?_))
  refine Ga (Ha HZ HZ (fun _ => ?_))
  refine Ga (Gs HZ HZ ?_)
  refine Ga (Gr HZ HZ HZ (fun c34 => ?_) (fun c34 => ?_))
  ·refine qs 12 ?_
   have hof : (if (tyAt o q).kind = 7 then q else i) = q := by rw [if_pos (by rw [hqe]; exact c34)]
   refine Ga (Ge HZ HZ (umethE_c g o N hno hro q hq0 hql memA memA memA memA (fun e he hy => ?_) (fun o2 ms a39 k39 c39 a40 k40 c40 hy => ?_)))
   ·refine qs 13 ?_
    rw [← hof] at hy
    refine Ga (GG HZ HZ HZ (fun _ => ?_) (fun c44 => absurd c44 he))
    refine qs 7 ?_
    refine Ga (GF HZ HZ ?_)
    refine qs 1 ?_
    refine Ga (GM (cs := wCells a k c a2 k2 c2 0) HZ HZ HZ ?_ (hi := (by repeat (first | exact has0 | assumption | apply hasS))) (ho := HZ))
    refine qs 4 ?_
    refine Ga (GO HZ HZ HZ ?_)
    refine qs 5 ?_
    exact Gn (rs := [.cell 4 _]) (L' := L.set iw (Res.cells bw #[.slice a k c, .slice a2 k2 c2, .int .i64 e] 147)) (F' := F) Tryz.results151 (.agg (j := 1) rfl rfl rfl .nil) subA (hE e he (look_err2 hx hy))
   refine qs 13 ?_
   rw [← hof] at hy
   refine Ga (GG HZ HZ HZ (fun c44 => absurd HZ c44) (fun _ => ?_))
   refine qs 9 ?_
   refine Ga (GF HZ HZ ?_)
   refine qs 1 ?_
   refine Ga (Gx (cs := wCells a k c a2 k2 c2 0) (vs := [.slice a39 k39 c39, .slice a2 k2 c2]) HZ HZ HZ HZ ?_ (hi := (by repeat (first | exact has0 | assumption | apply hasS))) (ho := HZ))
   refine qs 6 ?_
   refine Ga (GO HZ HZ HZ ?_)
   refine qs 4 ?_
   exact Gn (rs := [.cell 4 _]) (L' := L.set iw (Res.cells bw #[.slice a39 k39 c39, .slice a2 k2 c2, .int .i64 0] 147)) (F' := fL o2 a39 k39 c39 :: fMs ms a40 k40 c40 :: F) Tryz.results151 (.agg (j := 1) rfl rfl rfl .nil) (Sub.drop.trans (Sub.drop.trans (Gh (mem2 memA memA (fun x hx => by repeat (first | exact hx | refine List.mem_cons_of_mem _ ?_)))))) (hO o2 ⟨q, ms⟩ a39 k39 c39 a40 k40 c40 (look_ok hx hy))
  refine qs 9 ?_
  have hof : (if (tyAt o q).kind = 7 then q else i) = i := by rw [if_neg (by rw [hqe]; exact c34)]
  have hil : i < o.length := by have := hpo.length_le; omega
  refine Ga (Ge HZ HZ (umethE_c g o N hno hro i h0 hil memA memA memA memA (fun e he hy => ?_) (fun o2 ms a39 k39 c39 a40 k40 c40 hy => ?_)))
  ·refine qs 13 ?_
   rw [← hof] at hy
   refine Ga (GG HZ HZ HZ (fun _ => ?_) (fun c44 => absurd c44 he))
   refine qs 7 ?_
   refine Ga (GF HZ HZ ?_)
   refine qs 1 ?_
   refine Ga (GM (cs := wCells a k c a2 k2 c2 0) HZ HZ HZ ?_ (hi := (by repeat (first | exact has0 | assumption | apply hasS))) (ho := HZ))
   refine qs 4 ?_
   refine Ga (GO HZ HZ HZ ?_)
   refine qs 5 ?_
   exact Gn (rs := [.cell 4 _]) (L' := L.set iw (Res.cells bw #[.slice a k c, .slice a2 k2 c2, .int .i64 e] 147)) (F' := F) Tryz.results151 (.agg (j := 1) rfl rfl rfl .nil) subA (hE e he (look_err2 hx hy))
  refine qs 13 ?_
  rw [← hof] at hy
  refine Ga (GG HZ HZ HZ (fun c44 => absurd HZ c44) (fun _ => ?_))
  refine qs 9 ?_
  refine Ga (GF HZ HZ ?_)
  refine qs 1 ?_
  refine Ga (Gx (cs := wCells a k c a2 k2 c2 0) (vs := [.slice a39 k39 c39, .slice a2 k2 c2]) HZ HZ HZ HZ ?_ (hi := (by repeat (first | exact has0 | assumption | apply hasS))) (ho := HZ))
  refine qs 6 ?_
  refine Ga (GO HZ HZ HZ ?_)
  refine qs 4 ?_
  exact Gn (rs := [.cell 4 _]) (L' := L.set iw (Res.cells bw #[.slice a39 k39 c39, .slice a2 k2 c2, .int .i64 0] 147)) (F' := fL o2 a39 k39 c39 :: fMs ms a40 k40 c40 :: F) Tryz.results151 (.agg (j := 1) rfl rfl rfl .nil) (Sub.drop.trans (Sub.drop.trans (Gh (mem2 memA memA (fun x hx => by repeat (first | exact hx | refine List.mem_cons_of_mem _ ?_)))))) (hO o2 ⟨q, ms⟩ a39 k39 c39 a40 k40 c40 (look_ok hx hy))
end
end Go.Sy
namespace Go.Sy
open Go Go.Proofs Go.RowKit
theorem first_not {T : List Ty} {N : List Nmd} {n : Nat} (hn : n < T.length) (h : T[n].kind ≠ 1) : firstR T N (n : Int) = .ok (T, [⟨(n : Int), false, false, []⟩]) := by
  unfold firstR; rw [HQ hn, if_neg h]
theorem first_is {T : List Ty} {N : List Nmd} {n : Nat} (hn : n < T.length) (h : T[n].kind = 1) (hk : 0 < T[n].kids.length) : firstR T N (n : Int) = match undR T N T[n].kids[0] with
    | .error e => .error e
    | .ok (T1, k) => if (tyAt T1 k).kind = 1 ∨ (tyAt T1 k).kind = 7 then .ok (T, []) else .ok (T1, [⟨T[n].kids[0], true, false, []⟩]) := by
  unfold firstR; rw [HQ hn, if_pos h, GK _ hk]; rfl
theorem eSl_one : ∀ (x : SelV) (d : D), d ∈ eSl x → ∀ v, d = .val v → oneC v = true := by
  intro x d hd v hv
  subst hv
  simp at hd
  rcases hd with rfl | rfl | rfl | rfl <;> rfl
theorem hadM_yes {w : Wht} {e : Ent} {s : List UInt8} {q : Nat} (hq : q < w.ms.length) (h : w.ms[q].name = s) : hadM w e s (q + 1) = hadM w e s q ++ [⟨true, w.ms[q].sig, w.ms[q].ptr, e.via, e.path⟩] := by
  simp only [hadM]; rw [GK default hq, if_pos h]
theorem hadM_no {w : Wht} {e : Ent} {s : List UInt8} {q : Nat} (hq : q < w.ms.length) (h : w.ms[q].name ≠ s) : hadM w e s (q + 1) = hadM w e s q := by
  simp only [hadM]; rw [GK default hq, if_neg h]
theorem hadF_yes {t : Ty} {e : Ent} {s : List UInt8} {l : List SelV} {q : Nat} (hq : q < t.words.length) (hk : q < t.kids.length) (h : fieldN t.words[q] = s) : hadF t e s l (q + 1) = hadF t e s l q ++ [⟨false, t.kids[q], false, e.via, e.path ++ [(q : Int)]⟩] := by
  simp only [hadF]; rw [GK [] hq, GK _ hk, if_pos h]
theorem hadF_no {t : Ty} {e : Ent} {s : List UInt8} {l : List SelV} {q : Nat} (hq : q < t.words.length) (h : fieldN t.words[q] ≠ s) : hadF t e s l (q + 1) = hadF t e s l q := by
  simp only [hadF]; rw [GK [] hq, if_neg h]
attribute [local irreducible] AC AT AO AK AH ACalls Sub Res.cells Res.obj Res.nix Res.own Res.map Exit.then Exit.inBlock bodyPost Code.wp Code.wpIn WL Next Post Kont
section
variable {W0 : World} {L : List Res} {F : List Fact} {R : Value → List Res → List Fact → Prop}
set_option maxRecDepth 100000
set_option maxHeartbeats 16000000
theorem first_c (g : Glob W0) (T : List Ty) (N : List Nmd) (hno : ∀ n ∈ N, NmOk n) (hu : rightU T N) (i : Int) (h0 : 0 ≤ i) (hi : i < T.length) {a a2 : Option Addr} {k c k2 c2 bw iw : Nat} (hw : L[iw]? = some (Res.cells bw #[.slice a k c, .slice a2 k2 c2, .int .i64 0] 147)) (mL : fL T a k c ∈ F) (mN : fN N a2 k2 c2 ∈ F) (mE : Fact.slc (.slice none 0 0) 5 [] ∈ F)
    (hE : ∀ e, e ≠ 0 → firstR T N i = .error e → R (.slice none 0 0) (L.set iw (Res.cells bw #[.slice a k c, .slice a2 k2 c2, .int .i64 e] 147)) F)
    (hO : ∀ o lev a' k' c' a3 k3 c3, firstR T N i = .ok (o, lev) → R (.slice a3 k3 c3) (L.set iw (Res.cells bw #[.slice a' k' c', .slice a2 k2 c2, .int .i64 0] 147)) (fL o a' k' c' :: fEn lev a3 k3 c3 :: F)) :
    ACalls Tryz.prog W0 150 #[.pointer (some ⟨bw, 0, none⟩), .int .i64 i] L F R := by
  have hok := Hj hu.1
  obtain ⟨n, rfl⟩ : ∃ n : Nat, i = (n : Int) := ⟨i.toNat, by omega⟩
  have hn : n < T.length := by omega
  have hL0 : L.set iw (Res.cells bw #[.slice a k c, .slice a2 k2 c2, .int .i64 0] 147) = L := (List.getElem?_eq_some_iff.1 hw).2 ▸ List.set_getElem_self _
  have hOT : ∀ lev a3 k3 c3, firstR T N (n : Int) = .ok (T, lev) → R (.slice a3 k3 c3) L (fL T a k c :: fEn lev a3 k3 c3 :: F) := fun lev a3 k3 c3 h => by have := hO T lev a k c a3 k3 c3 h; rwa [hL0] at this
  refine Hm ((Hr (sz := 4)).trans (Hr (sz := 1))) ?_
  refine Gg Tryz.func150 HZ Tryz.ntmps150 HZ ?_
  refine qs 8 ?_
  refine Ga (GF HZ HZ ?_)
  refine qs 2 ?_
  refine Ga (Gy (cs := wCells a k c a2 k2 c2 0) HZ HZ ?_ (hi := (by repeat (first | exact has0 | assumption | apply hasS))) (hv := HZ))
  refine qs 1 ?_
  have hkl := (hok _ (List.getElem_mem hn)).kids
  refine Ga (Gd (k := n) HZ HZ HZ HZ (enc := eTy) (lst := T) memA hn (fun _ _ => ?_))
  refine Ga (GN HZ HZ ?_)
  intro a17 k17 z17 d17 e17 f17
  refine Ga (Gj HZ (fun b5 => ?_))
  refine qs 8 ?_
  refine Ga (GG HZ HZ HZ (fun c20 => ?_) (fun c20 => ?_))
  ·refine qs 6 ?_
   refine Ga (GO HZ HZ HZ ?_)
   refine Ga (Gl HZ HZ HZ HZ HZ (fun b23 => ?_))
   refine GH (GI (Hg (i := 0) (enc := eEn) (sz := 4) [(⟨(n : Int), false, false, []⟩ : Ent)] HZ (.val (.val (.val (.slc .nil memA)))) (fun _ => rfl) HZ (by simp only [List.length_cons, List.length_nil, maxLen]; omega)) Gv) ?_
   refine qs 5 ?_
   exact Gb (L' := L) (F' := fL T a k c :: fEn [⟨(n : Int), false, false, []⟩] (some ⟨b23, 0, none⟩) 1 1 :: F) Tryz.results150 rfl (Sub.drop.trans (Gh (mem2 memA memA (fun x hx => by repeat (first | exact hx | refine List.mem_cons_of_mem _ ?_))))) (hOT _ _ _ _ (first_not hn c20))
  refine qs 6 ?_
  refine GP (fun i => Nat.beq i 14) [(bw, _, _), (b5, _, _)] bxA HZ (fun hx hX => ?_)
  have hk1 := ptr_of hu.1 hn c20
  have hk0 : 0 < T[n].kids.length := by omega
  have hkd := (GT hu.1 hn).kids _ (List.getElem_mem hk0)
  have hfst := first_is (N := N) hn c20 hk0
  have hkk := (Gu (hX (fK T[n] d17 e17 f17) memA)).1
  obtain ⟨p2, o2, e2, atq⟩ := GA (hX (fK T[n] d17 e17 f17) memA) hk0
  subst e2
  obtain ⟨vq, hvq, hcq⟩ := atq 0 _ rfl
  cases hcq
  refine qt [0, 1, 2, 3, 4, 5] ?_
  refine GD (i := 6) HZ (GE (k := 0) HZ HZ HZ Jb) Ja HZ HZ ?_
  refine GR (i := 7) HZ (Ho HZ hvq) Ja Ja HZ HZ HZ ?_
  refine HE (i := 8) (j := 13) Ja HZ HZ HZ HZ (fun _ => ?_) (fun _ => ?_)
  ·refine Ge HZ HZ (uundE_c g T N hno hu T[n].kids[0] hkd.1 Jb memA memA memA (fun e he hx => ?_) (fun o q a33 k33 c33 hx => ?_))
   all_goals refine Gi bxA memB ?_
   ·refine qt [9, 10, 11, 12] ?_
    refine Gm (i := 13) Ja HZ HZ (fun _ => ?_)
    refine Gj HZ (fun b6 => ?_)
    refine Gi bxA memB ?_
    refine Gm (i := 14) Ja HZ HZ (fun _ => ?_)
    refine Gx HZ HZ HZ HZ ?_
    refine GC HZ ?_
    refine qt [15, 16] ?_
    refine Gq Ja ?_
    refine qs 5 ?_
    refine Ga (GG HZ HZ HZ (fun _ => ?_) (fun c38 => absurd c38 he))
    refine qs 7 ?_
    refine Ga (GF HZ HZ ?_)
    refine qs 1 ?_
    refine Ga (GM (cs := wCells a k c a2 k2 c2 0) HZ HZ HZ ?_ (hi := (by repeat (first | exact has0 | assumption | apply hasS))) (ho := HZ))
    refine qs 9 ?_
    exact Gb (L' := L.set iw (Res.cells bw #[.slice a k c, .slice a2 k2 c2, .int .i64 e] 147)) (F' := F) Tryz.results150 rfl subA (hE e he (by rw [hfst, hx]))
   refine qt [9, 10, 11, 12] ?_
   refine Gm (i := 13) Ja HZ HZ (fun _ => ?_)
   refine Gj HZ (fun b6 => ?_)
   refine Gi bxA memB ?_
   refine Gm (i := 14) Ja HZ HZ (fun _ => ?_)
   refine Gx HZ HZ HZ HZ ?_
   refine GC HZ ?_
   refine qt [15, 16] ?_
   refine Gq Ja ?_
   refine qs 5 ?_
   obtain ⟨hro, hpo, hq0, hql⟩ := undR_ok hu hkd.1 Jb hx
   refine Ga (GG HZ HZ HZ (fun c38 => absurd HZ c38) (fun _ => ?_))
   refine qs 11 ?_
   obtain ⟨hqn, hqe⟩ := GS hq0 hql
   refine Ga (Gd (k := q.toNat) HZ HZ HZ Jb (enc := eTy) (lst := o) memA hqn (fun _ _ => ?_))
   refine Ga (Ha HZ HZ (fun _ => ?_))
   refine Ga (Gs HZ HZ ?_)
   refine qs 6 ?_
   refine Ga (Gr HZ HZ HZ (fun c50 => ?_) (fun c50 => ?_))
   ·refine qs 14 ?_
    first
    | exact Gb (L' := L) (F' := fL T a k c :: fEn [] none 0 0 :: F) Tryz.results150 rfl (Sub.drop.trans (Sub.drop.trans (Gh (mem2 memA memA (fun x hx => by repeat (first | exact hx | refine List.mem_cons_of_mem _ ?_)))))) (hOT [] none 0 0 (by rw [hfst, hx]; simp only; rw [if_pos (by rw [hqe]; first | exact .inl c50 | exact .inr c53)]))
    | exact Gb (L' := L.set iw (Res.cells bw #[.slice a33 k33 c33, .slice a2 k2 c2, .int .i64 0] 147)) (F' := fL o a33 k33 c33 :: fEn [⟨T[n].kids[0], true, false, []⟩] (some ⟨b64, 0, none⟩) 1 1 :: F) Tryz.results150 rfl (Sub.drop.trans (Sub.drop.trans (Gh (mem2 memA memA (fun x hx => by repeat (first | exact hx | refine List.mem_cons_of_mem _ ?_)))))) (hO o _ a33 k33 c33 _ _ _ (by rw [hfst, hx]; simp only; rw [if_neg (by rw [hqe]; rintro (h | h); exact c50 h; exact c53 h)]))
   refine qs 2 ?_
   refine Gc HZ HZ (Gr HZ HZ HZ (fun c53 => ?_) (fun c53 => ?_))
   ·refine qs 11 ?_
    first
    | exact Gb (L' := L) (F' := fL T a k c :: fEn [] none 0 0 :: F) Tryz.results150 rfl (Sub.drop.trans (Sub.drop.trans (Gh (mem2 memA memA (fun x hx => by repeat (first | exact hx | refine List.mem_cons_of_mem _ ?_)))))) (hOT [] none 0 0 (by rw [hfst, hx]; simp only; rw [if_pos (by rw [hqe]; first | exact .inl c50 | exact .inr c53)]))
    | exact Gb (L' := L.set iw (Res.cells bw #[.slice a33 k33 c33, .slice a2 k2 c2, .int .i64 0] 147)) (F' := fL o a33 k33 c33 :: fEn [⟨T[n].kids[0], true, false, []⟩] (some ⟨b64, 0, none⟩) 1 1 :: F) Tryz.results150 rfl (Sub.drop.trans (Sub.drop.trans (Gh (mem2 memA memA (fun x hx => by repeat (first | exact hx | refine List.mem_cons_of_mem _ ?_)))))) (hO o _ a33 k33 c33 _ _ _ (by rw [hfst, hx]; simp only; rw [if_neg (by rw [hqe]; rintro (h | h); exact c50 h; exact c53 h)]))
   refine qs 10 ?_
   refine Ga (GF HZ HZ ?_)
   refine qs 1 ?_
   refine Ga (Gx (cs := wCells a k c a2 k2 c2 0) (vs := [.slice a33 k33 c33, .slice a2 k2 c2]) HZ HZ HZ HZ ?_ (hi := (by repeat (first | exact has0 | assumption | apply hasS))) (ho := HZ))
   refine qs 6 ?_
   refine Ga (Gd (k := 0) HZ HZ HZ HZ (show fK T[n] _ _ _ ∈ _ from memA) hk0 (fun _ _ => ?_))
   refine Ga (Gs HZ HZ ?_)
   refine Ga (GO HZ HZ HZ ?_)
   refine Ga (Gl HZ HZ HZ HZ HZ (fun b64 => ?_))
   refine GH (GI (Hg (i := 0) (enc := eEn) (sz := 4) [(⟨T[n].kids[0], true, false, []⟩ : Ent)] HZ (.val (.val (.val (.slc .nil memA)))) (fun _ => rfl) HZ (by simp only [List.length_cons, List.length_nil, maxLen]; omega)) Gv) ?_
   refine qs 4 ?_
   first
   | exact Gb (L' := L) (F' := fL T a k c :: fEn [] none 0 0 :: F) Tryz.results150 rfl (Sub.drop.trans (Sub.drop.trans (Gh (mem2 memA memA (fun x hx => by repeat (first | exact hx | refine List.mem_cons_of_mem _ ?_)))))) (hOT [] none 0 0 (by rw [hfst, hx]; simp only; rw [if_pos (by rw [hqe]; first | exact .inl c50 | exact .inr c53)]))
   | exact Gb (L' := L.set iw (Res.cells bw #[.slice a33 k33 c33, .slice a2 k2 c2, .int .i64 0] 147)) (F' := fL o a33 k33 c33 :: fEn [⟨T[n].kids[0], true, false, []⟩] (some ⟨b64, 0, none⟩) 1 1 :: F) Tryz.results150 rfl (Sub.drop.trans (Sub.drop.trans (Gh (mem2 memA memA (fun x hx => by repeat (first | exact hx | refine List.mem_cons_of_mem _ ?_)))))) (hO o _ a33 k33 c33 _ _ _ (by rw [hfst, hx]; simp only; rw [if_neg (by rw [hqe]; rintro (h | h); exact c50 h; exact c53 h)]))
  refine Gj HZ (fun b6 => ?_)
  refine Gi bxA memB ?_
  refine Gm (i := 8) Ja HZ HZ (fun _ => ?_)
  refine Ge HZ HZ (uundE_c g T N hno hu T[n].kids[0] hkd.1 Jb memA memA memA (fun e he hx => ?_) (fun o q a33 k33 c33 hx => ?_))
  all_goals refine Gi bxA memB ?_
  ·refine qt [9, 10, 11, 12] ?_
   refine Gm (i := 14) Ja HZ HZ (fun _ => ?_)
   refine Gx HZ HZ HZ HZ ?_
   refine GC HZ ?_
   refine qt [15, 16] ?_
   refine Gq Ja ?_
   refine qs 5 ?_
   refine Ga (GG HZ HZ HZ (fun _ => ?_) (fun c38 => absurd c38 he))
   refine qs 7 ?_
   refine Ga (GF HZ HZ ?_)
   refine qs 1 ?_
   refine Ga (GM (cs := wCells a k c a2 k2 c2 0) HZ HZ HZ ?_ (hi := (by repeat (first | exact has0 | assumption | apply hasS))) (ho := HZ))
   refine qs 9 ?_
   exact Gb (L' := L.set iw (Res.cells bw #[.slice a k c, .slice a2 k2 c2, .int .i64 e] 147)) (F' := F) Tryz.results150 rfl subA (hE e he (by rw [hfst, hx]))
  refine qt [9, 10, 11, 12] ?_
  refine Gm (i := 14) Ja HZ HZ (fun _ => ?_)
  refine Gx HZ HZ HZ HZ ?_
  refine GC HZ ?_
  refine qt [15, 16] ?_
  refine Gq Ja ?_
  refine qs 5 ?_
  obtain ⟨hro, hpo, hq0, hql⟩ := undR_ok hu hkd.1 Jb hx
  refine Ga (GG HZ HZ HZ (fun c38 => absurd HZ c38) (fun _ => ?_))
  refine qs 11 ?_
  obtain ⟨hqn, hqe⟩ := GS hq0 hql
  refine Ga (Gd (k := q.toNat) HZ HZ HZ Jb (enc := eTy) (lst := o) memA hqn (fun _ _ => ?_))
  refine Ga (Ha HZ HZ (fun _ => ?_))
  refine Ga (Gs HZ HZ ?_)
  refine qs 6 ?_
  refine Ga (Gr HZ HZ HZ (fun c50 => ?_) (fun c50 => ?_))
  ·refine qs 14 ?_
   first
   | exact Gb (L' := L) (F' := fL T a k c :: fEn [] none 0 0 :: F) Tryz.results150 rfl (Sub.drop.trans (Sub.drop.trans (Gh (mem2 memA memA (fun x hx => by repeat (first | exact hx | refine List.mem_cons_of_mem _ ?_)))))) (hOT [] none 0 0 (by rw [hfst, hx]; simp only; rw [if_pos (by rw [hqe]; first | exact .inl c50 | exact .inr c53)]))
   | exact Gb (L' := L.set iw (Res.cells bw #[.slice a33 k33 c33, .slice a2 k2 c2, .int .i64 0] 147)) (F' := fL o a33 k33 c33 :: fEn [⟨T[n].kids[0], true, false, []⟩] (some ⟨b64, 0, none⟩) 1 1 :: F) Tryz.results150 rfl (Sub.drop.trans (Sub.drop.trans (Gh (mem2 memA memA (fun x hx => by repeat (first | exact hx | refine List.mem_cons_of_mem _ ?_)))))) (hO o _ a33 k33 c33 _ _ _ (by rw [hfst, hx]; simp only; rw [if_neg (by rw [hqe]; rintro (h | h); exact c50 h; exact c53 h)]))
  refine qs 2 ?_
  refine Gc HZ HZ (Gr HZ HZ HZ (fun c53 => ?_) (fun c53 => ?_))
  ·refine qs 11 ?_
   first
   | exact Gb (L' := L) (F' := fL T a k c :: fEn [] none 0 0 :: F) Tryz.results150 rfl (Sub.drop.trans (Sub.drop.trans (Gh (mem2 memA memA (fun x hx => by repeat (first | exact hx | refine List.mem_cons_of_mem _ ?_)))))) (hOT [] none 0 0 (by rw [hfst, hx]; simp only; rw [if_pos (by rw [hqe]; first | exact .inl c50 | exact .inr c53)]))
   | exact Gb (L' := L.set iw (Res.cells bw #[.slice a33 k33 c33, .slice a2 k2 c2, .int .i64 0] 147)) (F' := fL o a33 k33 c33 :: fEn [⟨T[n].kids[0], true, false, []⟩] (some ⟨b64, 0, none⟩) 1 1 :: F) Tryz.results150 rfl (Sub.drop.trans (Sub.drop.trans (Gh (mem2 memA memA (fun x hx => by repeat (first | exact hx | refine List.mem_cons_of_mem _ ?_)))))) (hO o _ a33 k33 c33 _ _ _ (by rw [hfst, hx]; simp only; rw [if_neg (by rw [hqe]; rintro (h | h); exact c50 h; exact c53 h)]))
  refine qs 10 ?_
  refine Ga (GF HZ HZ ?_)
  refine qs 1 ?_
  refine Ga (Gx (cs := wCells a k c a2 k2 c2 0) (vs := [.slice a33 k33 c33, .slice a2 k2 c2]) HZ HZ HZ HZ ?_ (hi := (by repeat (first | exact has0 | assumption | apply hasS))) (ho := HZ))
  refine qs 6 ?_
  refine Ga (Gd (k := 0) HZ HZ HZ HZ (show fK T[n] _ _ _ ∈ _ from memA) hk0 (fun _ _ => ?_))
  refine Ga (Gs HZ HZ ?_)
  refine Ga (GO HZ HZ HZ ?_)
  refine Ga (Gl HZ HZ HZ HZ HZ (fun b64 => ?_))
  refine GH (GI (Hg (i := 0) (enc := eEn) (sz := 4) [(⟨T[n].kids[0], true, false, []⟩ : Ent)] HZ (.val (.val (.val (.slc .nil memA)))) (fun _ => rfl) HZ (by simp only [List.length_cons, List.length_nil, maxLen]; omega)) Gv) ?_
  refine qs 4 ?_
  first
  | exact Gb (L' := L) (F' := fL T a k c :: fEn [] none 0 0 :: F) Tryz.results150 rfl (Sub.drop.trans (Sub.drop.trans (Gh (mem2 memA memA (fun x hx => by repeat (first | exact hx | refine List.mem_cons_of_mem _ ?_)))))) (hOT [] none 0 0 (by rw [hfst, hx]; simp only; rw [if_pos (by rw [hqe]; first | exact .inl c50 | exact .inr c53)]))
  | exact Gb (L' := L.set iw (Res.cells bw #[.slice a33 k33 c33, .slice a2 k2 c2, .int .i64 0] 147)) (F' := fL o a33 k33 c33 :: fEn [⟨T[n].kids[0], true, false, []⟩] (some ⟨b64, 0, none⟩) 1 1 :: F) Tryz.results150 rfl (Sub.drop.trans (Sub.drop.trans (Gh (mem2 memA memA (fun x hx => by repeat (first | exact hx | refine List.mem_cons_of_mem _ ?_)))))) (hO o _ a33 k33 c33 _ _ _ (by rw [hfst, hx]; simp only; rw [if_neg (by rw [hqe]; rintro (h | h); exact c50 h; exact c53 h)]))
end
end Go.Sy
namespace Go.Sy
open Go Go.RowKit
section
variable {P : Program} {W0 : World} {n : Nat} {Q : Po} {ρ : Rho} {L : List Res} {F : List Fact} {K : Act → World → Prop}
variable {d : Tmp} {ty t yt : TypeId} {pos : String} {af : Array Edge} {g : Option (Nat × Bool)} {x y : Operand}
theorem AO.makeFuncB {f : FuncId} {fi cap : List Operand} {us vs : List Value} (hf : evL ρ fi = some us) (hc : evL ρ cap = some vs) (hd : Nat.blt d n = true) (h : AT W0 n K ((d, .func (.func f) us.toArray vs.toArray) :: ρ) L F) :
    AO P W0 n K ⟨some d, .makeFunc (.func f) fi.toArray cap.toArray, ty, pos, af, g⟩ Q ρ L F :=
  HU hd (fun a w s => by simp only [execOp, Instr.makeFunc, evL_eval s.slots hf, evL_eval s.slots hc]; simp) h
theorem AO.callB {f : FuncId} {oas : List Operand} {vs fi cs : List Value} {ts : Array TypeId} (hx : ev ρ x = some (.func (.func f) fi.toArray cs.toArray)) (ha : evL ρ oas = some vs) (hd : Nat.blt d n = true)
    (h : ACalls P W0 f (fi ++ vs ++ cs).toArray L F fun v L' F' => AT W0 n K ((d, v) :: ρ) L' F') [hf : FnT P f] : AO P W0 n K ⟨some d, .call ⟨.value x, oas.toArray, ts⟩, ty, pos, af, g⟩ Q ρ L F := by
  intro a w s
  refine AO.callGo HZ hd s ?_ h
  have := evL_eval s.slots ha
  simp only [execOp, resolve, this, GQ s.slots hx]
  simp [Deferred.ofValue, invoke, hf.call]
theorem Y.makeFunc {T : World → Prop} {dd : Option Tmp} {f : FuncId} {cap : List Operand} {vs : List Value} (hc : evL ρ cap = some vs) : Yd P n ρ T ⟨dd, .makeFunc (.func f) #[] cap.toArray, ty, pos, af, g⟩ (.func (.func f) #[] vs.toArray) :=
  ⟨fun a w s _ => by simp only [execOp, Instr.makeFunc, evL_eval s hc]; simp⟩
class TmT (P : Program) (t : TypeId) : Prop where
  eql : ∀ (a b : List UInt8) (i j : Int) (w : World), (binOp .eql t (.agg #[S a, .int .i64 i]) (.agg #[S b, .int .i64 j])).run P w = .ok (.bool (decide (a = b ∧ i = j))) w
  guard : ∀ (x y : Operand) (xs ys : Array Value) (w : World), (eqGuard .eql t x y (.agg xs) (.agg ys)).run P w = .ok () w
theorem TmT.of {f0 f1 : Field} (hu0 : P.underlying t = some (.struct #[f0, f1])) (h0 : f0.offset = 0) (h1 : f1.offset = 1) (n0 : f0.name ≠ "_") (n1 : f1.name ≠ "_") (u0 : P.underlying f0.type = some .string) (u1 : P.underlying f1.type = some (.int .i64)) (hp : P.stoodInHeld t = false) (hm : P.eqGuardType P.depth t = false) : TmT P t := by
  have hf0 : P.fieldsOf t = #[f0, f1] := by simp [Program.fieldsOf, hu0]
  have hu : P.underlying t = some (.struct (P.fieldsOf t)) := by rw [hf0]; exact hu0
  have hf : (P.fieldsOf t).toList = [f0, f1] := by rw [hf0]
  refine ⟨fun a b i j w => ?_, fun x y xs ys w => run_eqGuard_agg w _ t x y xs ys hm⟩
  rw [run_eql_struct, run_equalIn_struct w 9999 t _ _ hu hp, hf]
  simp only [Op.eqFields, if_pos n0, if_pos n1, h0, h1]
  have p0 : ∀ (c : List UInt8) (k : Int) w, (part f0.type #[S c, .int .i64 k] 0).run P w = .ok (S c) w := fun c k w => by simp [part, isAgg, run_underlying u0]
  have p1 : ∀ (c : List UInt8) (k : Int) w, (part f1.type #[S c, .int .i64 k] 1).run P w = .ok (.int .i64 k) w := fun c k w => by simp [part, isAgg, run_underlying u1]
  have p2 : ∀ w, (Op.equalIn 9999 f1.type (.int .i64 i) (.int .i64 j)).run P w = .ok (i == j) w := fun w => run_equalIn_int w 9998 _ _ _ _ _ u1
  simp only [Sem.run_bind, p0, Result.andThen_ok, run_equalIn_string w _ _ _ _ u0]
  by_cases c : a = b
  · subst c
    by_cases c2 : i = j
    · subst c2; simp [p1, p2, Result.andThen]
    simp [c2, p1, p2, Result.andThen]
  have : (ByteArray.toList ⟨a.toArray⟩ == ByteArray.toList ⟨b.toArray⟩) = false := by
    rw [ByteArray.toList_eq, ByteArray.toList_eq]; simpa using c
  simp [c, Result.andThen]
theorem AO.eqlT [ht : TmT P t] {a b : List UInt8} {i j : Int} (hx : ev ρ x = some (.agg #[S a, .int .i64 i])) (hy : ev ρ y = some (.agg #[S b, .int .i64 j])) (hd : Nat.blt d n = true)
    (h1 : a = b ∧ i = j → AT W0 n K ((d, .bool true) :: ρ) L F) (h2 : ¬(a = b ∧ i = j) → AT W0 n K ((d, .bool false) :: ρ) L F) : AO P W0 n K ⟨some d, .binOp .eql t x y yt, ty, pos, af, g⟩ Q ρ L F :=
  AO.cmp (c := decide (a = b ∧ i = j)) hd (fun s w st => by simp only [execOp, GQ st.slots hx, GQ st.slots hy, Sem.run_bind, ht.guard, ht.eql, Result.andThen_ok]; simp) (fun e => h1 (of_decide_eq_true e)) (fun e => h2 (of_decide_eq_false e))
theorem Y.eqlT {T : World → Prop} {dd : Option Tmp} [ht : TmT P t] {a b : List UInt8} {i j : Int} (hx : ev ρ x = some (.agg #[S a, .int .i64 i])) (hy : ev ρ y = some (.agg #[S b, .int .i64 j])) : Yd P n ρ T ⟨dd, .binOp .eql t x y yt, ty, pos, af, g⟩ (.bool (decide (a = b ∧ i = j))) :=
  ⟨fun s w st _ => by simp only [execOp, GQ st hx, GQ st hy, Sem.run_bind, ht.guard, ht.eql, Result.andThen_ok]; simp⟩
end
end Go.Sy
namespace Go.Sy
open Go Go.Proofs Go.RowKit
abbrev fTm (l : List Tm) (a : Option Addr) (k c : Nat) : Fact := .slc (.slice a k c) 2 (l.map eTm)
abbrev vTm (x : Tm) : Value := .agg #[S x.1, .int .i64 x.2]
abbrev aCells (a : Option Addr) (k c : Nat) (a2 : Option Addr) (k2 c2 : Nat) (a3 : Option Addr) (k3 c3 : Nat) (bm : Nat) (e : Int) : List Value := [.slice a k c, .slice a2 k2 c2, .slice a3 k3 c3, .map (some bm), .int .i64 e]
set_option maxRecDepth 100000
instance : TmT Tryz.prog 144 := TmT.of Tryz.underlying144 rfl rfl (by decide) (by decide) Tryz.underlying9 Tryz.underlying3 Ja Ja
instance : TmT Tryz.prog 131 := TmT.of Tryz.underlying131 rfl rfl (by decide) (by decide) Tryz.underlying9 Tryz.underlying3 Ja Ja
theorem tm_cells {hx : H} {b o : Nat} {x : Tm} (hat : AtR hx b o (eTm x)) : ∀ (j : Nat) (v : Value), [S x.1, Value.int .i64 x.2][j]? = some v → hx b (o + j) = some v := by
  intro j v hj
  obtain ⟨v0, h0, c0⟩ := hat 0 _ rfl
  obtain ⟨v1, h1, c1⟩ := hat 1 _ rfl
  cases c0
  cases c1
  match j with
  | 0 => injection hj with hj; subst hj; exact h0
  | 1 => injection hj with hj; subst hj; exact h1
  | j + 2 => simp at hj
theorem mark_61 : markB [61] = true := by decide
theorem mark_126 : markB [126] = true := by decide
theorem mark_no {w : List UInt8} (h1 : w ≠ [61]) (h2 : w ≠ [126]) : markB w = false := by unfold markB; simp [h1, h2]
theorem trm_yes {t : Ty} {q : Nat} (hq : q < t.words.length) (hk : q < t.kids.length) (h : markB t.words[q] = true) : trmN t (q + 1) = trmN t q ++ [(t.words[q], t.kids[q])] := by
  simp only [trmN]; rw [GK _ hq, GK _ hk, if_pos h]
theorem trm_no {t : Ty} {q : Nat} (hq : q < t.words.length) (h : markB t.words[q] = false) : trmN t (q + 1) = trmN t q := by
  simp only [trmN]; rw [GK _ hq, h]; simp
theorem tm_pair {x y : Tm} (h : x.1 = y.1 ∧ x.2 = y.2) : x = y := Prod.ext h.1 h.2
attribute [local irreducible] AC AT AO AK AH ACalls Sub Res.cells Res.obj Res.nix Res.own Res.map Exit.then Exit.inBlock bodyPost Code.wp Code.wpIn WL Next Post Kont
section
variable {W0 : World} {L : List Res} {F : List Fact} {R : Value → List Res → List Fact → Prop}
set_option maxRecDepth 100000
set_option maxHeartbeats 16000000
theorem tunder_c (g : Glob W0) (T : List Ty) (N : List Nmd) (hno : ∀ n ∈ N, NmOk n) (hu : rightU T N) (i : Int) (h0 : 0 ≤ i) (hi : i < T.length) {a a2 a3 : Option Addr} {k c k2 c2 k3 c3 bm ba ia : Nat} (ha : L[ia]? = some (Res.cells ba (aCells a k c a2 k2 c2 a3 k3 c3 bm 0).toArray 140)) (mL : fL T a k c ∈ F) (mN : fN N a2 k2 c2 ∈ F) (mE : Fact.slc (.slice none 0 0) 5 [] ∈ F)
    (hE : ∀ e, e ≠ 0 → undR T N i = .error e → R (.int .i64 0) (L.set ia (Res.cells ba (aCells a k c a2 k2 c2 a3 k3 c3 bm e).toArray 140)) F)
    (hO : ∀ o q a k c, undR T N i = .ok (o, q) → R (.int .i64 q) (L.set ia (Res.cells ba (aCells a k c a2 k2 c2 a3 k3 c3 bm 0).toArray 140)) (fL o a k c :: F)) :
    ACalls Tryz.prog W0 129 #[.pointer (some ⟨ba, 0, none⟩), .int .i64 i] L F R := by
  refine Gg Tryz.func129 HZ Tryz.ntmps129 HZ ?_
  refine qs 8 ?_
  refine Ga (GF HZ HZ ?_)
  refine qs 1 ?_
  refine Ga (HD (cs := aCells a k c a2 k2 c2 a3 k3 c3 bm 0) HZ HZ ?_ (hi := (by repeat (first | exact has0 | assumption | apply hasS))) (hk := HZ))
  refine qs 1 ?_
  refine Ga (Ge HZ HZ (uundE_c g T N hno hu i h0 hi memA memA memA (fun e he hx => ?_) (fun o q a14 k14 c14 hx => ?_)))
  ·refine qs 4 ?_
   refine Ga (Gj HZ (fun b5 => ?_))
   refine qs 9 ?_
   refine Ga (GG HZ HZ HZ (fun _ => ?_) (fun c19 => absurd c19 he))
   refine qs 7 ?_
   refine Ga (GF HZ HZ ?_)
   refine qs 1 ?_
   refine Ga (GM (cs := aCells a k c a2 k2 c2 a3 k3 c3 bm 0) HZ HZ HZ ?_ (hi := (by repeat (first | exact has0 | assumption | apply hasS))) (ho := HZ))
   refine qs 9 ?_
   exact Gb (L' := L.set ia (Res.cells ba (aCells a k c a2 k2 c2 a3 k3 c3 bm e).toArray 140)) (F' := F) Tryz.results129 rfl subA (hE e he hx)
  refine qs 4 ?_
  refine Ga (Gj HZ (fun b5 => ?_))
  refine qs 9 ?_
  refine Ga (GG HZ HZ HZ (fun c19 => absurd HZ c19) (fun _ => ?_))
  refine qs 9 ?_
  refine Ga (GF HZ HZ ?_)
  refine qs 1 ?_
  refine Ga (Gx (cs := aCells a k c a2 k2 c2 a3 k3 c3 bm 0) (vs := [.slice a14 k14 c14, .slice a2 k2 c2]) HZ HZ HZ HZ ?_ (hi := (by repeat (first | exact has0 | assumption | apply hasS))) (ho := HZ))
  refine qs 9 ?_
  exact Gb (L' := L.set ia (Res.cells ba (aCells a14 k14 c14 a2 k2 c2 a3 k3 c3 bm 0).toArray 140)) (F' := fL o a14 k14 c14 :: F) Tryz.results129 rfl subA (hO o q a14 k14 c14 hx)
theorem tterms_c (t : Ty) (hl : t.words.length ≤ 20) (hk : t.words.length ≤ t.kids.length) {a1 a2 : Option Addr} {k1 c1 k2 c2 : Nat} (m1 : fW t a1 k1 c1 ∈ F) (m2 : fK t a2 k2 c2 ∈ F)
    (h : ∀ a k c, R (.slice a k c) L (fTm (trmL t) a k c :: F)) : ACalls Tryz.prog W0 80 #[vTy t a1 k1 c1 a2 k2 c2] L F R := by
  have hml : 1000000 ≤ maxLen := by decide
  refine Gg Tryz.func80 HZ Tryz.ntmps80 HZ ?_
  refine qs 2 ?_
  refine Ga (GL HZ HZ (fun b1 => ?_))
  refine qs 13 ?_
  refine Ga (Gt HZ HZ (fun hl8 => ?_) (enc := eS) (lst := t.words) (hm := memA))
  refine qs 4 ?_
  refine GB (fun (x : Nat × Option Addr × Nat × Nat) => x.1 ≤ t.words.length) (fun x => [(1, .pointer (some ⟨b1, 0, none⟩)), (3, .slice x.2.1 x.2.2.1 x.2.2.2), (7, .slice a1 k1 c1), (8, .int .i64 t.words.length), (9, .int .i64 (x.1 : Int))]) (fun x => Res.own (.slice x.2.1 x.2.2.1 x.2.2.2) 144 2 ((trmN t x.1).map eTm) :: _) (fun _ => _) (fun x => t.words.length - x.1) (0, none, 0, 0) (by simp) srA GZ ?_
  rintro ⟨q, a3, k3, c3⟩ hq
  simp only at hq ⊢
  refine qs 2 ?_
  refine Ga (Gw HZ HZ HZ (fun c10 => ?_) (fun c10 => ?_))
  ·refine qs 11 ?_
   have hql : q < t.words.length := by omega
   have hqk : q < t.kids.length := by omega
   have htl := trmN_len t q
   refine Ga (Gd HZ HZ HZ HZ (enc := eS) (lst := t.words) memA hql (fun _ _ => ?_))
   refine Ga (Gs HZ HZ ?_)
   intros
   refine qs 7 ?_
   refine Ga (Hi HZ HZ HZ (fun c15 => ?_) (fun c15 => ?_))
   ·refine qs 13 ?_
    refine Ga (Gd HZ HZ HZ HZ (enc := eI) (lst := t.kids) memA hqk (fun _ _ => ?_))
    refine Ga (Gs HZ HZ ?_)
    intros
    refine qs 1 ?_
    refine Ga (Gl HZ HZ HZ HZ HZ (fun b28 => ?_))
    refine Ga (GJ (i := 0) (enc := eTm) (lst := trmN t q) [(t.words[q], t.kids[q])] HZ HZ HZ HZ (.val (.val .nil)) HZ HZ (fun _ => rfl) (by first | omega | (simp only [List.length_append, List.length_singleton]; omega)) Jb (fun a29 k29 c29 => ?_))
    rw [← trm_yes hql hqk (by rw [c15]; exact mark_61)]
    refine qs 8 ?_
    exact Gk (q + 1, a29, k29, c29) (by simp only; omega) (by simp only; omega) srA subF
   refine qs 2 ?_
   refine Gc HZ HZ (Hi HZ HZ HZ (fun c18 => ?_) (fun c18 => ?_))
   ·refine qs 10 ?_
    refine Ga (Gd HZ HZ HZ HZ (enc := eI) (lst := t.kids) memA hqk (fun _ _ => ?_))
    refine Ga (Gs HZ HZ ?_)
    intros
    refine qs 1 ?_
    refine Ga (Gl HZ HZ HZ HZ HZ (fun b28 => ?_))
    refine Ga (GJ (i := 0) (enc := eTm) (lst := trmN t q) [(t.words[q], t.kids[q])] HZ HZ HZ HZ (.val (.val .nil)) HZ HZ (fun _ => rfl) (by first | omega | (simp only [List.length_append, List.length_singleton]; omega)) Jb (fun a29 k29 c29 => ?_))
    rw [← trm_yes hql hqk (by rw [c18]; exact mark_126)]
    refine qs 8 ?_
    exact Gk (q + 1, a29, k29, c29) (by simp only; omega) (by simp only; omega) srA subF
   refine qs 11 ?_
   refine Gk (q + 1, a3, k3, c3) (by simp only; omega) (by simp only; omega) srA ?_
   rw [trm_no hql (mark_no c15 c18)]
   exact subF
  refine qs 16 ?_
  obtain rfl : q = t.words.length := by omega
  exact Gb (L' := L) (F' := fTm (trmL t) a3 k3 c3 :: F) Tryz.results80 rfl ((Gz (i := 0) rfl).trans (by repeat (first | exact GX (fun x hx => by repeat (first | exact hx | refine List.mem_cons_of_mem _ ?_)) | refine GI Gv ?_))) (h _ _ _)
theorem tindexT_c (l : List Tm) (x : Tm) (hl : l.length ≤ 1000000) {a : Option Addr} {k c : Nat} (m1 : fTm l a k c ∈ F)
    (h : ∀ r : Int, (r = -1 ∧ x ∉ l) ∨ (0 ≤ r ∧ x ∈ l) → R (.int .i64 r) L F) : ACalls Tryz.prog W0 216 #[.slice a k c, vTm x] L F R := by
  refine Gg Tryz.func216 HZ Tryz.ntmps216 HZ ?_
  refine qs 2 ?_
  refine Ga (GL HZ HZ (fun b3 => ?_))
  refine qs 7 ?_
  refine Ga (Gt HZ HZ (fun hl7 => ?_) (enc := eTm) (lst := l) (hm := memA))
  refine qs 4 ?_
  refine GB (fun (v : Nat) => v ≤ l.length ∧ x ∉ l.take v) (fun v => [(0, .slice a k c), (3, .pointer (some ⟨b3, 0, none⟩)), (6, .slice a k c), (7, .int .i64 l.length), (8, .int .i64 (v : Int))]) (fun _ => _) (fun _ => _) (fun v => l.length - v) 0 ⟨Nat.zero_le _, by simp⟩ srA (Gf _ _) ?_
  rintro v ⟨hv, hn⟩
  refine qs 2 ?_
  refine Ga (Gw HZ HZ HZ (fun c9 => ?_) (fun c9 => ?_))
  ·refine qs 15 ?_
   refine GP (fun _ => false) [(b3, _, _)] bxA HZ (fun hx hX => ?_)
   have hvl : v < l.length := by omega
   have hkk := (Gu (hX (fTm l a k c) memA)).1
   obtain ⟨p1, o1, e1, at1⟩ := GA (hX (fTm l a k c) memA) hvl
   subst e1
   have hv1 := tm_cells at1
   refine qt [0, 1, 2] ?_
   refine GD (i := 3) HZ (GE (k := v) HZ HZ HZ Jb) Ja HZ HZ ?_
   refine GR (i := 4) HZ (HN HZ HZ hv1) Ja Ja HZ HZ HZ ?_
   refine Hf (i := 5) HZ (Y.eqlT (a := x.1) (i := x.2) (b := l[v].1) (j := l[v].2) HZ HZ) Ja HZ HZ (fun c16 => ?_) (fun c16 => ?_)
   all_goals simp only [decide_eq_true_eq, decide_eq_false_iff_not] at c16
   ·refine Gq Ja ?_
    refine qs 14 ?_
    exact Gb (L' := L) (F' := F) Tryz.results216 rfl subA (h v (.inr ⟨by omega, tm_pair c16 ▸ List.getElem_mem hvl⟩))
   refine Gq Ja ?_
   refine qs 9 ?_
   exact Gk (v + 1) ⟨hvl, by rw [List.take_succ_eq_append_getElem hvl, List.mem_append, List.mem_singleton]; rintro (h1 | h1); exact hn h1; exact c16 (by rw [h1]; exact ⟨rfl, rfl⟩)⟩ Jb srA subF
  refine qs 15 ?_
  obtain rfl : v = l.length := by omega
  exact Gb (L' := L) (F' := F) Tryz.results216 rfl subA (h (-1) (.inl ⟨rfl, by rwa [List.take_length] at hn⟩))
theorem tcontains_c (l : List Tm) (x : Tm) (hl : l.length ≤ 1000000) {a : Option Addr} {k c : Nat} (m1 : fTm l a k c ∈ F) (hT : x ∈ l → R (.bool true) L F) (hF : x ∉ l → R (.bool false) L F) :
    ACalls Tryz.prog W0 185 #[.slice a k c, vTm x] L F R := by
  refine Gg Tryz.func185 HZ Tryz.ntmps185 HZ ?_
  refine qs 2 ?_
  refine Ga (GL HZ HZ (fun b3 => ?_))
  refine qs 7 ?_
  refine Ga (Ge HZ HZ (tindexT_c l x hl memA (fun r hr => ?_)))
  refine Ga (GY HZ HZ HZ (fun c8 => ?_) (fun c8 => ?_))
  ·refine qs 4 ?_
   exact Gb (L' := L) (F' := F) Tryz.results185 rfl subA (hT (by rcases hr with ⟨h1, _⟩ | ⟨_, h1⟩; omega; exact h1))
  refine qs 4 ?_
  exact Gb (L' := L) (F' := F) Tryz.results185 rfl subA (hF (by rcases hr with ⟨_, h1⟩ | ⟨h1, _⟩; exact h1; omega))
theorem twithin_c (g : Glob W0) (T : List Ty) (N : List Nmd) (hno : ∀ n ∈ N, NmOk n) (hu : rightU T N) (x : Tm) (h0 : 0 ≤ x.2) (hi : x.2 < T.length) (l : List Tm) (hl : l.length ≤ 1000000) {a a2 a3 a4 : Option Addr} {k c k2 c2 k3 c3 k4 c4 bm ba ia : Nat} (ha : L[ia]? = some (Res.cells ba (aCells a k c a2 k2 c2 a3 k3 c3 bm 0).toArray 140)) (mL : fL T a k c ∈ F) (mN : fN N a2 k2 c2 ∈ F) (mE : Fact.slc (.slice none 0 0) 5 [] ∈ F) (mT : fTm l a4 k4 c4 ∈ F)
    (hE : ∀ e, e ≠ 0 → withinR N T x l = .error e → R (.bool false) (L.set ia (Res.cells ba (aCells a k c a2 k2 c2 a3 k3 c3 bm e).toArray 140)) F)
    (hF : ∀ a k c, withinR N T x l = .ok none → R (.bool false) (L.set ia (Res.cells ba (aCells a k c a2 k2 c2 a3 k3 c3 bm 0).toArray 140)) F)
    (hT : ∀ o a k c, withinR N T x l = .ok (some o) → R (.bool true) (L.set ia (Res.cells ba (aCells a k c a2 k2 c2 a3 k3 c3 bm 0).toArray 140)) (fL o a k c :: F)) :
    ACalls Tryz.prog W0 136 #[.pointer (some ⟨ba, 0, none⟩), vTm x, .slice a4 k4 c4] L F R := by
  have hsame : L.set ia (Res.cells ba (aCells a k c a2 k2 c2 a3 k3 c3 bm 0).toArray 140) = L := by
    have h2 := (List.getElem?_eq_some_iff.1 ha).2
    rw [← h2]; exact List.set_getElem_self _
  refine Gg Tryz.func136 HZ Tryz.ntmps136 HZ ?_
  refine qs 2 ?_
  refine Ga (GL HZ HZ (fun b4 => ?_))
  refine qs 8 ?_
  refine Ga (Ge HZ HZ (tcontains_c l x hl memA (fun c10 => ?_) (fun c10 => ?_)))
  ·refine qs 10 ?_
   refine Gb (L' := L) (F' := fL T a k c :: F) Tryz.results136 HZ (Sub.drop.trans (Gh (mem1 memA (fun x hx => by repeat (first | exact hx | refine List.mem_cons_of_mem _ ?_))))) ?_
   have h9 := hT T a k c (by unfold withinR; rw [if_pos c10])
   rwa [hsame] at h9
  refine qs 10 ?_
  refine Ga (Hi HZ HZ HZ (fun c13 => ?_) (fun c13 => ?_))
  ·refine qs 10 ?_
   refine Gb (L' := L) (F' := F) Tryz.results136 HZ subA ?_
   have h9 := hF a k c (by unfold withinR; rw [if_neg c10, if_pos c13])
   rwa [hsame] at h9
  refine qs 10 ?_
  refine Ga (Ge HZ HZ (tunder_c g T N hno hu x.2 h0 hi (ia := ia + 1) ha memA memA memA (fun e he hx => ?_) (fun o q a17 k17 c17 hx => ?_)))
  ·refine qs 6 ?_
   refine Ga (GF HZ HZ ?_)
   refine qs 1 ?_
   refine Ga (Gy (cs := aCells a k c a2 k2 c2 a3 k3 c3 bm e) HZ HZ ?_ (i := ia + 1) (hi := List.getElem?_set_self (Nat.succ_lt_succ (HK ha))) (hv := HZ))
   refine Ga (Gr HZ HZ HZ (fun c22 => absurd c22 he) (fun _ => ?_))
   refine qs 10 ?_
   exact Gb (L' := L.set ia (Res.cells ba (aCells a k c a2 k2 c2 a3 k3 c3 bm e).toArray 140)) (F' := F) Tryz.results136 rfl subA (hE e he (by unfold withinR; rw [if_neg c10, if_neg c13, hx]))
  refine qs 6 ?_
  refine Ga (GF HZ HZ ?_)
  refine qs 1 ?_
  refine Ga (Gy (cs := aCells a17 k17 c17 a2 k2 c2 a3 k3 c3 bm 0) HZ HZ ?_ (i := ia + 1) (hi := List.getElem?_set_self (Nat.succ_lt_succ (HK ha))) (hv := HZ))
  refine Ga (Gr HZ HZ HZ (fun _ => ?_) (fun c22 => absurd HZ c22))
  refine qs 4 ?_
  refine Gc HZ HZ (Ge HZ HZ (tcontains_c l ([126], q) hl memA (fun c27 => ?_) (fun c27 => ?_)))
  ·refine qs 5 ?_
   exact Gb (L' := L.set ia (Res.cells ba (aCells a17 k17 c17 a2 k2 c2 a3 k3 c3 bm 0).toArray 140)) (F' := fL o a17 k17 c17 :: F) Tryz.results136 rfl subA (hT o a17 k17 c17 (by unfold withinR; rw [if_neg c10, if_neg c13, hx]; simp only; rw [if_pos c27]))
  refine qs 5 ?_
  exact Gb (L' := L.set ia (Res.cells ba (aCells a17 k17 c17 a2 k2 c2 a3 k3 c3 bm 0).toArray 140)) (F' := F) Tryz.results136 rfl subA (hF a17 k17 c17 (by unfold withinR; rw [if_neg c10, if_neg c13, hx]; simp only; rw [if_neg c27]))
end
end Go.Sy
namespace Go.Sy
open Go Go.Proofs Go.RowKit
def badO {σ : Type} (r : Except Int (Option σ)) (e : Int) : Prop := (e ≠ 0 ∧ r = .error e) ∨ (e = 0 ∧ r = .ok none)
theorem all_bad {σ α : Type} {f : σ → α → Except Int (Option σ)} {l : List α} {s s' : σ} {q : Nat} {e : Int} (hq : q < l.length) (h : allR f (l.take q) s = .ok (some s')) (hb : badO (f s' l[q]) e) : badO (allR f l s) e := by
  rcases hb with ⟨h1, h2⟩ | ⟨h1, h2⟩
  · exact .inl ⟨h1, all_err hq h h2⟩
  exact .inr ⟨h1, all_no hq h h2⟩
theorem getP {A L : List Res} (i : Nat) : (A ++ L)[A.length + i]? = L[i]? := by rw [List.getElem?_append_right Jb, Nat.add_sub_cancel_left]
theorem setP {A L : List Res} (i : Nat) (r : Res) : (A ++ L).set (A.length + i) r = A ++ L.set i r := by rw [List.set_append_right _ _ Jb, Nat.add_sub_cancel_left]
section
variable {N : List Nmd} {B : List Int} {f : Nat} {T T1 : List Ty} {A : List Int} {i k e : Int}
theorem cmp_asked (h : i ∈ A) : cmpR N B (f + 1) (T, A) i = .ok (some (T, A)) := by simp only [cmpR]; rw [if_pos h]
theorem cmp_err (h : i ∉ A) (hx : undR T N i = .error e) : cmpR N B (f + 1) (T, A) i = .error e := by simp only [cmpR]; rw [if_neg h, hx]
theorem cmp_yes (h : i ∉ A) (hx : undR T N i = .ok (T1, k)) (hk : (tyAt T1 k).kind = 0 ∨ (tyAt T1 k).kind = 1 ∨ (tyAt T1 k).kind = 7) : cmpR N B (f + 1) (T, A) i = .ok (some (T1, i :: A)) := by simp only [cmpR]; rw [if_neg h, hx]; simp only; rw [if_pos hk]
theorem cmp_all (h : i ∉ A) (hx : undR T N i = .ok (T1, k)) (hk : (tyAt T1 k).kind = 3 ∨ (tyAt T1 k).kind = 6) : cmpR N B (f + 1) (T, A) i = allR (cmpR N B f) (tyAt T1 k).kids (T1, i :: A) := by simp only [cmpR]; rw [if_neg h, hx]; simp only; rw [if_neg Jb, if_pos hk]
theorem cmp_no (h : i ∉ A) (hx : undR T N i = .ok (T1, k)) (h1 : ¬((tyAt T1 k).kind = 0 ∨ (tyAt T1 k).kind = 1 ∨ (tyAt T1 k).kind = 7)) (h2 : ¬((tyAt T1 k).kind = 3 ∨ (tyAt T1 k).kind = 6)) (hb : boundR T1 B (tyAt T1 k) = none) : cmpR N B (f + 1) (T, A) i = .ok none := by simp only [cmpR]; rw [if_neg h, hx]; simp only; rw [if_neg h1, if_neg h2, hb]
theorem cmp_bnd (h : i ∉ A) (hx : undR T N i = .ok (T1, k)) (h9 : (tyAt T1 k).kind = 9) {b : Ty} (hb : boundR T1 B (tyAt T1 k) = some b) : cmpR N B (f + 1) (T, A) i = if b.n % 2 = 1 then .ok (some (T1, i :: A)) else if 2 ≤ b.n then allR (cmpR N B f) ((trmL b).map (·.2)) (T1, i :: A) else .ok none := by simp only [cmpR]; rw [if_neg h, hx]; simp only; rw [if_neg Jb, if_neg Jb, hb]
end
theorem iface_n {T : List Ty} (hr : rightP T) {k : Int} (h0 : 0 ≤ k) (hk : k < T.length) (h7 : (tyAt T k).kind = 7) : 0 ≤ (tyAt T k).n ∧ (tyAt T k).n ≤ 3 ∧ (tyAt T k).words.length = (tyAt T k).kids.length := by
  obtain ⟨hn, e⟩ := GS h0 hk
  rw [e] at h7 ⊢
  have hl := (GT hr hn).iface h7
  by_cases c : k.toNat < 22
  · have hrow := hr.2.2 _ hn
    unfold rowAt at hrow
    rw [if_pos c] at hrow
    have h3 : ∀ q < 22, 0 ≤ (startL.getD q (basicT [])).n ∧ (startL.getD q (basicT [])).n ≤ 3 := by decide
    rw [hrow] at hl ⊢
    exact ⟨(h3 _ c).1, (h3 _ c).2, hl⟩
  have hrow := hr.2.2 _ hn
  unfold rowAt at hrow
  rw [if_neg c] at hrow
  obtain ⟨⟨_, _, _, _, hm⟩, _⟩ := hrow
  have := (madeK_7 h7).1 hm
  exact ⟨this.2.1, this.2.2.1, hl⟩
attribute [local irreducible] AC AT AO AK AH ACalls Sub Res.cells Res.obj Res.nix Res.own Res.map Exit.then Exit.inBlock bodyPost Code.wp Code.wpIn WL Next Post Kont
section
variable {W0 : World} {L : List Res} {F : List Fact} {R : Value → List Res → List Fact → Prop}
set_option maxRecDepth 100000
set_option maxHeartbeats 16000000
theorem trestricts_c (t : Ty) {a1 a2 : Option Addr} {k1 c1 k2 c2 : Nat} (hT : 2 ≤ t.n → R (.bool true) L F) (hF : ¬ 2 ≤ t.n → R (.bool false) L F) : ACalls Tryz.prog W0 78 #[vTy t a1 k1 c1 a2 k2 c2] L F R := by
  refine Gg Tryz.func78 HZ Tryz.ntmps78 HZ ?_
  refine qs 2 ?_
  refine Ga (GL HZ HZ (fun b1 => ?_))
  refine qs 7 ?_
  refine Ga (GY HZ HZ HZ (fun c5 => ?_) (fun c5 => ?_))
  ·refine qs 4 ?_
   exact Gb (L' := L) (F' := F) Tryz.results78 rfl subA (hT Jb)
  refine qs 4 ?_
  exact Gb (L' := L) (F' := F) Tryz.results78 rfl subA (hF Jb)
theorem tbound_c (T : List Ty) (B : List Int) (hB : bndP T B) (t : Ty) (hn : 0 ≤ t.n) {a a2 a3 a4 a5 : Option Addr} {k c k2 c2 k3 c3 k4 c4 k5 c5 bm ba ia : Nat} {e : Int} (ha : L[ia]? = some (Res.cells ba (aCells a k c a2 k2 c2 a3 k3 c3 bm e).toArray 140)) (mL : fL T a k c ∈ F) (mB : fI B a3 k3 c3 ∈ F)
    (hS : ∀ b a1 k1 c1 a2 k2 c2, boundR T B t = some b → R (.tuple #[vTy b a1 k1 c1 a2 k2 c2, .bool true]) L (fW b a1 k1 c1 :: fK b a2 k2 c2 :: F))
    (hN : boundR T B t = none → R (.tuple #[vTy noTy none 0 0 none 0 0, .bool false]) L F) :
    ACalls Tryz.prog W0 131 #[.pointer (some ⟨ba, 0, none⟩), vTy t a4 k4 c4 a5 k5 c5] L F R := by
  refine Gg Tryz.func131 HZ Tryz.ntmps131 HZ ?_
  refine qs 2 ?_
  refine Ga (GL HZ HZ (fun b3 => (Ga (Gj HZ (fun b4 => ?_)))))
  refine qs 5 ?_
  refine GP (fun _ => false) [(b3, _, _), (ba, _, _)] bxA HZ (fun hx hX => ?_)
  have hkB := (Gu (hX (fI B a3 k3 c3) memA)).1
  refine qt [0, 1] ?_
  refine Hf (i := 2) HZ (Y.neq HZ HZ) Ja HZ HZ (fun c8 => ?_) (fun c8 => ?_)
  ·replace c8 := ne_of_bne c8
   refine qt [3, 4, 5, 6, 7, 8, 9, 10, 11, 12] ?_
   refine Gq Ja ?_
   refine qs 4 ?_
   refine Ga (GO HZ HZ HZ ?_)
   refine qs 6 ?_
   exact Gn (rs := [.cell 4 _, .tmp 5]) (L' := L) (F' := F) Tryz.results131 (.agg (j := 0) rfl rfl rfl (.tmp rfl .nil)) subA (hN (by unfold boundR; rw [if_neg (fun h => c8 h.1)]))
  replace c8 := eq_of_bneF c8
  refine qt [3, 4, 5, 6, 7, 8, 9, 10] ?_
  refine Hf (i := 11) HZ (Y.geq HZ HZ) Ja HZ HZ (fun c17 => ?_) (fun c17 => ?_)
  ·replace c17 := of_decide_eq_true c17
   refine qt [12] ?_
   refine Gq Ja ?_
   refine qs 4 ?_
   refine Ga (GO HZ HZ HZ ?_)
   refine qs 6 ?_
   exact Gn (rs := [.cell 4 _, .tmp 5]) (L' := L) (F' := F) Tryz.results131 (.agg (j := 0) rfl rfl rfl (.tmp rfl .nil)) subA (hN (by unfold boundR; rw [if_neg (fun h => by omega)]))
  replace c17 := of_decide_eq_false c17
  refine qt [12] ?_
  refine Gq Ja ?_
  refine qs 5 ?_
  refine GP (fun _ => false) [(b3, _, _), (ba, _, _)] bxA HZ (fun hx hX => ?_)
  have hkB := (Gu (hX (fI B a3 k3 c3) memA)).1
  have hkT := (Gu (hX (fL T a k c) memA)).1
  have hnB : t.n.toNat < B.length := by omega
  obtain ⟨p1, o1, e1, at1⟩ := GA (hX (fI B a3 k3 c3) memA) hnB
  subst e1
  obtain ⟨v1, hv1, hc1⟩ := at1 0 _ rfl
  cases hc1
  obtain ⟨hb0, hb1, hb7⟩ := hB.2 _ (List.getElem_mem hnB)
  obtain ⟨hnT, hte⟩ := GS hb0 hb1
  obtain ⟨p2, o2, e2, at2⟩ := GA (hX (fL T a k c) memA) hnT
  subst e2
  obtain ⟨w1, x1, y1, w2, x2, y2, hv2, hw1, hw2⟩ := ty_cells at2
  refine Hx hw1 memA (Hx hw2 memA ?_)
  refine qt [0, 1, 2, 3, 4, 5, 6, 7, 8, 9, 10] ?_
  refine GD (i := 11) HZ (GE (k := t.n.toNat) HZ HZ Jb Jb) Ja HZ HZ ?_
  refine GR (i := 12) HZ (Ho HZ hv1) Ja Ja HZ HZ HZ ?_
  refine GD (i := 13) HZ (GE (k := B[t.n.toNat].toNat) HZ HZ Jb Jb) Ja HZ HZ ?_
  refine GR (i := 14) HZ (HN HZ HZ hv2) Ja Ja HZ HZ HZ ?_
  refine Gm (i := 15) Ja HZ HZ (fun _ => ?_)
  refine Gx HZ HZ HZ HZ ?_
  refine Gi bxA memB ?_
  refine qt [16] ?_
  refine Gq Ja ?_
  refine qs 2 ?_
  exact Gn (rs := [.cell 4 _, .tmp 5]) (L' := L) (F' := fW T[B[t.n.toNat].toNat] w1 x1 y1 :: fK T[B[t.n.toNat].toNat] w2 x2 y2 :: F) Tryz.results131 (.agg (j := 0) rfl rfl rfl (.tmp rfl .nil)) (Sub.drop.trans (Sub.drop.trans (Gh (mem2 memA memA (fun x hx => by repeat (first | exact hx | refine List.mem_cons_of_mem _ ?_)))))) (hS _ _ _ _ _ _ _ (by unfold boundR; rw [if_pos ⟨c8, by omega⟩, GK 0 hnB, hte]))
theorem tallI_c {σ μ : Type} (stp : σ → Int → Except Int (Option σ)) (l : List Int) (hl : l.length ≤ 1000) (I : σ → μ → Prop) (Lm : μ → Int → List Res) (Fm : σ → μ → List Fact) (Fb : List Fact) (aC : μ → Int → List Value) {ba ia : Nat} (HA : ∀ x e, (Lm x e)[ia]? = some (Res.cells ba (aC x e).toArray 140)) (HC : ∀ x e, (aC x e)[4]? = some (.int .i64 e)) {a : Option Addr} {k c : Nat} (HL : ∀ s x, fI l a k c ∈ Fm s x) {f : FuncId} [hf : FnT Tryz.prog f] {fi cs : List Value}
    (hg : ∀ (A : List Res) q (hq : q < l.length) s x {R' : Value → List Res → List Fact → Prop}, I s x → (∀ s' x', stp s l[q] = .ok (some s') → I s' x' → R' (.bool true) (A ++ Lm x' 0) (Fm s' x')) → (∀ e x', badO (stp s l[q]) e → R' (.bool false) (A ++ Lm x' e) Fb) → ACalls Tryz.prog W0 f (fi ++ [Value.int .i64 l[q]] ++ cs).toArray (A ++ Lm x 0) (Fm s x) R')
    (s0 : σ) (x0 : μ) (hI0 : I s0 x0) (hS : ∀ s x, allR stp l s0 = .ok (some s) → I s x → R (.bool true) (Lm x 0) (Fm s x)) (hN : ∀ e x, badO (allR stp l s0) e → R (.bool false) (Lm x e) Fb) :
    ACalls Tryz.prog W0 130 #[.pointer (some ⟨ba, 0, none⟩), .slice a k c, .func (.func f) fi.toArray cs.toArray] (Lm x0 0) (Fm s0 x0) R := by
  refine Gg Tryz.func130 HZ Tryz.ntmps130 HZ ?_
  refine qs 9 ?_
  refine Ga (Gt HZ HZ (fun hl10 => ?_) (enc := eI) (lst := l) (hm := HL _ _))
  refine qs 4 ?_
  refine GB (fun (y : Nat × σ × μ) => y.1 ≤ l.length ∧ I y.2.1 y.2.2 ∧ allR stp (l.take y.1) s0 = .ok (some y.2.1)) (fun y => [(0, .pointer (some ⟨ba, 0, none⟩)), (2, .func (.func f) fi.toArray cs.toArray), (9, .slice a k c), (10, .int .i64 l.length), (11, .int .i64 (y.1 : Int))]) (fun y => Lm y.2.2 0) (fun y => Fm y.2.1 y.2.2) (fun y => l.length - y.1) (0, s0, x0) ⟨Nat.zero_le _, hI0, rfl⟩ srA (Gf _ _) ?_
  rintro ⟨q, s, x⟩ ⟨hq, hI, hal⟩
  simp only at hq hI hal ⊢
  refine qs 2 ?_
  refine Ga (Gw HZ HZ HZ (fun c12 => ?_) (fun c12 => ?_))
  ·refine qs 10 ?_
   have hql : q < l.length := by omega
   refine Ga (Gd HZ HZ HZ HZ (enc := eI) (lst := l) (HL _ _) hql (fun _ _ => ?_))
   refine Ga (Gs HZ HZ ?_)
   intros
   refine qs 7 ?_
   refine Ga (AO.callB (fi := fi) (cs := cs) HZ HZ HZ (Hm subF (hg [] q hql s x hI (fun s' x' hx hI' => ?_) (fun e x' hx => ?_))))
   ·refine qs 3 ?_
    refine Gc HZ HZ (GF HZ HZ ?_)
    refine qs 1 ?_
    refine Gc HZ HZ (Gy (cs := aC x' 0) HZ HZ ?_ (hi := HA x' 0) (hv := HC x' 0))
    refine Gc HZ HZ (GG HZ HZ HZ (fun c24 => absurd HZ c24) (fun _ => ?_))
    refine qs 11 ?_
    exact Gk (q + 1, s', x') ⟨by simp only; omega, hI', by simp only; rw [all_step hql hal, hx]⟩ (by simp only; omega) srA (Gf _ _)
   refine qs 22 ?_
   exact Gb Tryz.results130 rfl (Gf _ _) (hN e x' (all_bad hql hal hx))
  refine qs 15 ?_
  obtain rfl : q = l.length := by omega
  rw [List.take_length] at hal
  exact Gb Tryz.results130 rfl (Gf _ _) (hS s x hal hI)
theorem tallT_c {σ μ : Type} (stp : σ → Tm → Except Int (Option σ)) (l : List Tm) (hl : l.length ≤ 1000) (I : σ → μ → Prop) (Lm : μ → Int → List Res) (Fm : σ → μ → List Fact) (Fb : List Fact) (aC : μ → Int → List Value) {ba ia : Nat} (HA : ∀ x e, (Lm x e)[ia]? = some (Res.cells ba (aC x e).toArray 140)) (HC : ∀ x e, (aC x e)[4]? = some (.int .i64 e)) {a : Option Addr} {k c : Nat} (HL : ∀ s x, fTm l a k c ∈ Fm s x) {f : FuncId} [hf : FnT Tryz.prog f] {cs : List Value}
    (hg : ∀ (A : List Res) q (hq : q < l.length) s x {R' : Value → List Res → List Fact → Prop}, I s x → (∀ s' x', stp s l[q] = .ok (some s') → I s' x' → R' (.bool true) (A ++ Lm x' 0) (Fm s' x')) → (∀ e x', badO (stp s l[q]) e → R' (.bool false) (A ++ Lm x' e) Fb) → ACalls Tryz.prog W0 f (vTm l[q] :: cs).toArray (A ++ Lm x 0) (Fm s x) R')
    (s0 : σ) (x0 : μ) (hI0 : I s0 x0) (hS : ∀ s x, allR stp l s0 = .ok (some s) → I s x → R (.bool true) (Lm x 0) (Fm s x)) (hN : ∀ e x, badO (allR stp l s0) e → R (.bool false) (Lm x e) Fb) :
    ACalls Tryz.prog W0 132 #[.pointer (some ⟨ba, 0, none⟩), .slice a k c, .func (.func f) #[] cs.toArray] (Lm x0 0) (Fm s0 x0) R := by
  refine Gg Tryz.func132 HZ Tryz.ntmps132 HZ ?_
  refine qs 9 ?_
  refine Ga (Gt HZ HZ (fun hl10 => ?_) (enc := eTm) (lst := l) (hm := HL _ _))
  refine qs 4 ?_
  refine GB (fun (y : Nat × σ × μ) => y.1 ≤ l.length ∧ I y.2.1 y.2.2 ∧ allR stp (l.take y.1) s0 = .ok (some y.2.1)) (fun y => [(0, .pointer (some ⟨ba, 0, none⟩)), (2, .func (.func f) #[] cs.toArray), (9, .slice a k c), (10, .int .i64 l.length), (11, .int .i64 (y.1 : Int))]) (fun y => Lm y.2.2 0) (fun y => Fm y.2.1 y.2.2) (fun y => l.length - y.1) (0, s0, x0) ⟨Nat.zero_le _, hI0, rfl⟩ srA (Gf _ _) ?_
  rintro ⟨q, s, x⟩ ⟨hq, hI, hal⟩
  simp only at hq hI hal ⊢
  refine qs 2 ?_
  refine Ga (Gw HZ HZ HZ (fun c12 => ?_) (fun c12 => ?_))
  ·refine qs 10 ?_
   have hql : q < l.length := by omega
   refine Ga (Gd HZ HZ HZ HZ (enc := eTm) (lst := l) (HL _ _) hql (fun _ _ => ?_))
   refine Ga (GN HZ HZ ?_)
   refine Ga (Gj HZ (fun b8 => ?_))
   refine qs 7 ?_
   refine Ga (AO.callC (cs := cs) HZ HZ HZ (Hm subF (hg [_] q hql s x hI (fun s' x' hx hI' => ?_) (fun e x' hx => ?_))))
   ·refine qs 3 ?_
    refine Gc HZ HZ (GF HZ HZ ?_)
    refine qs 1 ?_
    refine Gc HZ HZ (Gy (cs := aC x' 0) HZ HZ ?_ (i := ia + 1) (hi := HA x' 0) (hv := HC x' 0))
    refine Gc HZ HZ (GG HZ HZ HZ (fun c24 => absurd HZ c24) (fun _ => ?_))
    refine qs 11 ?_
    exact Gk (q + 1, s', x') ⟨by simp only; omega, hI', by simp only; rw [all_step hql hal, hx]⟩ (by simp only; omega) srA Gv
   refine qs 22 ?_
   exact Gb Tryz.results132 rfl Gv (hN e x' (all_bad hql hal hx))
  refine qs 15 ?_
  obtain rfl : q = l.length := by omega
  rw [List.take_length] at hal
  exact Gb Tryz.results132 rfl (Gf _ _) (hS s x hal hI)
end
end Go.Sy
namespace Go.Sy
open Go Go.Proofs Go.RowKit
theorem had_not {T : List Ty} {w : Wht} {e : Ent} {s : List UInt8} (h : (tyAt T w.under).kind ≠ 6) : had1 T w e s [] = hadM w e s w.ms.length := by unfold had1; simp only; rw [if_neg h, List.nil_append]
theorem had_is {T : List Ty} {w : Wht} {e : Ent} {s : List UInt8} (h : (tyAt T w.under).kind = 6) : had1 T w e s [] = hadF (tyAt T w.under) e s (hadM w e s w.ms.length) (tyAt T w.under).words.length := by unfold had1; simp only; rw [if_pos h, List.nil_append]
theorem hadE_yes {T : List Ty} {w : Wht} {e : Ent} {s : List UInt8} (h : e.many = true) : hadE T w e s = had1 T w e s [] ++ had1 T w e s [] := by unfold hadE; rw [if_pos h]
theorem hadE_no {T : List Ty} {w : Wht} {e : Ent} {s : List UInt8} (h : ¬ e.many = true) : hadE T w e s = had1 T w e s [] := by unfold hadE; rw [if_neg h]
attribute [local irreducible] AC AT AO AK AH ACalls Sub Res.cells Res.obj Res.nix Res.own Res.map Exit.then Exit.inBlock bodyPost Code.wp Code.wpIn WL Next Post Kont
section
variable {W0 : World} {L : List Res} {F : List Fact} {R : Value → List Res → List Fact → Prop}
set_option maxRecDepth 100000
set_option maxHeartbeats 16000000
theorem had_c (T : List Ty) (hr : rightP T) (w : Wht) (hwh : whP T w) (e : Ent) (hep : e.path.length ≤ 1000) (s : List UInt8) {a a2 a3 a4 : Option Addr} {k c k2 c2 k3 c3 k4 c4 bw iw : Nat} {bad : Int} (hw : L[iw]? = some (Res.cells bw #[.slice a k c, .slice a2 k2 c2, .int .i64 bad] 147)) (mL : fL T a k c ∈ F) (mP : fI e.path a3 k3 c3 ∈ F) (mM : fMs w.ms a4 k4 c4 ∈ F)
    (h : ∀ a k c, R (.slice a k c) L (fSl (hadE T w e s) a k c :: F)) :
    ACalls Tryz.prog W0 116 #[.pointer (some ⟨bw, 0, none⟩), vEn e a3 k3 c3, vWh w a4 k4 c4, S s] L F R := by
  have hml : 1000000 ≤ maxLen := by decide
  have hms := hwh.2.2
  obtain ⟨hn, hty⟩ := GS hwh.1 hwh.2.1
  have hok := Hj hr _ (List.getElem_mem hn)
  refine Gg Tryz.func116 HZ Tryz.ntmps116 HZ ?_
  refine qs 2 ?_
  refine Ga (GL HZ HZ (fun b5 => (Ga (GL HZ HZ (fun b6 => ?_)))))
  refine qs 13 ?_
  refine Ga (Gt HZ HZ (fun hl17 => ?_) (enc := eMt) (lst := w.ms) (hm := memA))
  refine qs 4 ?_
  refine GB (fun (x : Nat × Option Addr × Nat × Nat) => x.1 ≤ w.ms.length) (fun x => [(0, .pointer (some ⟨bw, 0, none⟩)), (3, S s), (5, .pointer (some ⟨b5, 0, none⟩)), (6, .pointer (some ⟨b6, 0, none⟩)), (9, .slice x.2.1 x.2.2.1 x.2.2.2), (16, .slice a4 k4 c4), (17, .int .i64 w.ms.length), (18, .int .i64 (x.1 : Int))]) (fun x => Res.own (.slice x.2.1 x.2.2.1 x.2.2.2) 47 5 ((hadM w e s x.1).map eSl) :: _) (fun _ => F) (fun x => w.ms.length - x.1) (0, none, 0, 0) (by simp) srA GZ ?_
  rintro ⟨q, a5, k5, c5⟩ hq
  simp only at hq ⊢
  refine qs 2 ?_
  refine Ga (Gw HZ HZ HZ (fun c19 => ?_) (fun c19 => ?_))
  ·refine qs 10 ?_
   have hql : q < w.ms.length := by omega
   have hhl := hadM_len (w := w) (e := e) (s := s) q
   refine Ga (Gd HZ HZ HZ HZ (enc := eMt) (lst := w.ms) memA hql (fun _ _ => ?_))
   refine Ga (GN HZ HZ ?_)
   refine Ga (Gj HZ (fun b11 => ?_))
   refine qs 8 ?_
   refine Ga (Hi HZ HZ HZ (fun c25 => ?_) (fun c25 => ?_))
   ·refine qs 13 ?_
    refine Ga (GO HZ HZ HZ ?_)
    refine Ga (Gl HZ HZ HZ HZ HZ (fun b36 => ?_))
    refine Ga (GJ (i := 1) (enc := eSl) (lst := hadM w e s q) [⟨true, w.ms[q].sig, w.ms[q].ptr, e.via, e.path⟩] HZ HZ HZ HZ (.val (.val (.val (.val (.slc .nil memA))))) HZ HZ (fun _ => rfl) Jb Jb (fun a37 k37 c37 => ?_))
    rw [← hadM_yes hql c25]
    refine qs 8 ?_
    exact Gk (q + 1, a37, k37, c37) (by simp only; omega) (by simp only; omega) srA (Sub.drop.trans subF)
   refine qs 10 ?_
   refine Gk (q + 1, a5, k5, c5) (by simp only; omega) (by simp only; omega) srA ?_
   rw [hadM_no hql c25]
   exact Sub.drop.trans subF
  refine qs 11 ?_
  refine GP (fun i => Nat.beq i 10) [(bw, _, _), (b6, _, _)] bxA HZ (fun hx hX => ?_)
  obtain rfl : q = w.ms.length := by omega
  have hu0 := hwh.1
  have hll := (Gu (hX (fL T a k c) memA)).1
  obtain ⟨p1, o1, e1, at1⟩ := GA (hX (fL T a k c) memA) hn
  subst e1
  obtain ⟨w1, x1, y1, w2, x2, y2, hv1, hw1, hw2⟩ := ty_cells at1
  refine Hx hw1 memA (Hx hw2 memA ?_)
  refine qt [0, 1, 2, 3, 4, 5, 6] ?_
  refine GD (i := 7) HZ (GE (k := w.under.toNat) HZ HZ Jb Jb) Ja HZ HZ ?_
  refine GR (i := 8) HZ (HN HZ HZ hv1) Ja Ja HZ HZ HZ ?_
  refine Gm (i := 9) Ja HZ HZ (fun _ => ?_)
  refine Gj HZ (fun b12 => ?_)
  refine Gi bxA memB ?_
  refine Gm (i := 10) Ja HZ HZ (fun _ => ?_)
  refine Gx HZ HZ HZ HZ ?_
  refine GC HZ ?_
  refine Gq Ja ?_
  refine qs 5 ?_
  refine Ga (Gr HZ HZ HZ (fun c50 => ?_) (fun c50 => ?_))
  ·refine qs 7 ?_
   refine Ga (Gt HZ HZ (fun hl53 => ?_) (enc := eS) (lst := T[w.under.toNat].words) (hm := memA))
   refine qs 4 ?_
   have hst := struct_of hr hn c50
   have h1 : had1 T w e s [] = hadF T[w.under.toNat] e s (hadM w e s w.ms.length) T[w.under.toNat].words.length := by rw [had_is (by rw [hty]; exact c50), hty]
   have hhl := hadM_len (w := w) (e := e) (s := s) w.ms.length
   have hwl := hok.words
   generalize hmm : hadM w e s w.ms.length = mm at hhl h1 ⊢
   refine GB (fun (x : Nat × Option Addr × Nat × Nat) => x.1 ≤ T[w.under.toNat].words.length) (fun x => [(0, .pointer (some ⟨bw, 0, none⟩)), (3, S s), (5, .pointer (some ⟨b5, 0, none⟩)), (6, .pointer (some ⟨b6, 0, none⟩)), (9, .slice x.2.1 x.2.2.1 x.2.2.2), (12, .pointer (some ⟨b12, 0, none⟩)), (52, .slice w1 x1 y1), (53, .int .i64 T[w.under.toNat].words.length), (54, .int .i64 (x.1 : Int))]) (fun x => _ :: Res.own (.slice x.2.1 x.2.2.1 x.2.2.2) 47 5 ((hadF T[w.under.toNat] e s mm x.1).map eSl) :: _) (fun _ => _) (fun x => T[w.under.toNat].words.length - x.1) (0, a5, k5, c5) (by simp) srA (Gf _ _) ?_
   rintro ⟨q, a6, k6, c6⟩ hq
   simp only at hq ⊢
   refine qs 2 ?_
   refine Ga (Gw HZ HZ HZ (fun c55 => ?_) (fun c55 => ?_))
   ·refine qs 11 ?_
    have hql : q < T[w.under.toNat].words.length := by omega
    have hqk : q < T[w.under.toNat].kids.length := by omega
    have hfl := hadF_len (t := T[w.under.toNat]) (e := e) (s := s) (l := mm) q
    refine Ga (Gd HZ HZ HZ HZ (enc := eS) (lst := T[w.under.toNat].words) memA hql (fun _ _ => ?_))
    refine Ga (Gs HZ HZ ?_)
    intros
    refine qs 7 ?_
    refine Ga (Ge HZ HZ (sfield_c T[w.under.toNat].words[q] ?_))
    refine qs 1 ?_
    refine Ga (Hi HZ HZ HZ (fun c62 => ?_) (fun c62 => ?_))
    ·refine qs 3 ?_
     refine GP (fun _ => false) [(b12, _, _), (b5, _, _)] bxA HZ (fun hx hX => ?_)
     have hkk := (Gu (hX (fK T[w.under.toNat] w2 x2 y2) memA)).1
     obtain ⟨p2, o2, e2, atq⟩ := GA (hX (fK T[w.under.toNat] w2 x2 y2) memA) hqk
     subst e2
     obtain ⟨vq, hvq, hcq⟩ := atq 0 _ rfl
     cases hcq
     refine qt [0, 1, 2, 3] ?_
     refine GD (i := 4) HZ (GE (k := q) HZ HZ HZ Jb) Ja HZ HZ ?_
     refine GR (i := 5) HZ (Ho HZ hvq) Ja Ja HZ HZ HZ ?_
     refine qt [6, 7, 8, 9, 11] ?_
     refine HE (i := 10) (j := 12) Ja HZ HZ HZ HZ (fun _ => ?_) (fun _ => ?_)
     ·refine Ge HZ HZ (clipI_c e.path memA (fun a73 => ?_))
      refine Gi bxA memB ?_
      refine Gm (i := 12) Ja HZ HZ (fun _ => ?_)
      refine Gl HZ HZ HZ HZ HZ (fun b75 => ?_)
      refine Gi bxA memB ?_
      refine Gm (i := 13) Ja HZ HZ (fun _ => ?_)
      refine Hn (enc := eI) (lst := e.path) [(q : Int)] HZ HZ HZ (show fI e.path _ _ _ ∈ _ from memA) (fun x d hd v hv => Hq hd hv) (.val .nil) HZ HZ (by decide) (fun _ => rfl) Jb Jb (fun a76 k76 c76 => ?_)
      refine GH (Gz (i := 0) HZ) ?_
      refine Gi bxA memB ?_
      refine Gm (i := 14) Ja HZ HZ (fun _ => ?_)
      refine GO HZ HZ HZ ?_
      refine Gi bxA memB ?_
      refine Gm (i := 15) Ja HZ HZ (fun _ => ?_)
      refine Gl HZ HZ HZ HZ HZ (fun b78 => ?_)
      refine Gi bxA memB ?_
      refine Gm (i := 16) Ja HZ HZ (fun _ => ?_)
      refine GJ (i := 2) (enc := eSl) (lst := hadF T[w.under.toNat] e s mm q) [⟨false, T[w.under.toNat].kids[q], false, e.via, e.path ++ [(q : Int)]⟩] HZ HZ HZ HZ (.val (.val (.val (.val (.slc .nil memA))))) HZ HZ (fun _ => rfl) Jb Jb (fun a79 k79 c79 => ?_)
      rw [← hadF_yes hql hqk c62]
      refine Gi bxA memB ?_
      refine qt [17] ?_
      refine Gq Ja ?_
      refine qs 6 ?_
      exact Gk (q + 1, a79, k79, c79) (by simp only; omega) (by simp only; omega) srA (Sub.drop.trans subF)
     refine Gl HZ HZ HZ HZ HZ (fun b75 => ?_)
     refine Gi bxA memB ?_
     refine Gm (i := 10) Ja HZ HZ (fun _ => ?_)
     refine Ge HZ HZ (clipI_c e.path memA (fun a73 => ?_))
     refine Gi bxA memB ?_
     refine Gm (i := 13) Ja HZ HZ (fun _ => ?_)
     refine Hn (enc := eI) (lst := e.path) [(q : Int)] HZ HZ HZ (show fI e.path _ _ _ ∈ _ from memA) (fun x d hd v hv => Hq hd hv) (.val .nil) HZ HZ (by decide) (fun _ => rfl) Jb Jb (fun a76 k76 c76 => ?_)
     refine GH (Gz (i := 0) HZ) ?_
     refine Gi bxA memB ?_
     refine Gm (i := 14) Ja HZ HZ (fun _ => ?_)
     refine GO HZ HZ HZ ?_
     refine Gi bxA memB ?_
     refine Gm (i := 15) Ja HZ HZ (fun _ => ?_)
     refine Gl HZ HZ HZ HZ HZ (fun b78 => ?_)
     refine Gi bxA memB ?_
     refine Gm (i := 16) Ja HZ HZ (fun _ => ?_)
     refine GJ (i := 2) (enc := eSl) (lst := hadF T[w.under.toNat] e s mm q) [⟨false, T[w.under.toNat].kids[q], false, e.via, e.path ++ [(q : Int)]⟩] HZ HZ HZ HZ (.val (.val (.val (.val (.slc .nil memA))))) HZ HZ (fun _ => rfl) Jb Jb (fun a79 k79 c79 => ?_)
     rw [← hadF_yes hql hqk c62]
     refine Gi bxA memB ?_
     refine qt [17] ?_
     refine Gq Ja ?_
     refine qs 6 ?_
     exact Gk (q + 1, a79, k79, c79) (by simp only; omega) (by simp only; omega) srA (Sub.drop.trans subF)
    refine qs 10 ?_
    refine Gk (q + 1, a6, k6, c6) (by simp only; omega) (by simp only; omega) srA ?_
    rw [hadF_no hql c62]
    exact subF
   refine qs 16 ?_
   refine AC.cond HZ (fun c82 => ?_) (fun c82 => ?_)
   ·refine qs 3 ?_
    have hfl := hadF_len (t := T[w.under.toNat]) (e := e) (s := s) (l := mm) q
    obtain rfl : q = T[w.under.toNat].words.length := by omega
    refine Ga (AO.appendSelf (i := 1) (enc := eSl) (lst := hadF T[w.under.toNat] e s mm T[w.under.toNat].words.length) HZ HZ HZ HZ eSl_one (fun _ => rfl) Jb Jb (fun a85 k85 c85 => ?_))
    refine qs 10 ?_
    rw [hadE_yes c82, h1] at h
    exact Gb (L' := L) (F' := fSl (hadF T[w.under.toNat] e s mm T[w.under.toNat].words.length ++ hadF T[w.under.toNat] e s mm T[w.under.toNat].words.length) a85 k85 c85 :: F) Tryz.results116 rfl ((Gz (i := 1) rfl).trans (Sub.drop.trans (Sub.drop.trans (Sub.drop.trans (Sub.drop.trans (GX (fun x hx => by repeat (first | exact hx | refine List.mem_cons_of_mem _ ?_)))))))) (h _ _ _)
   refine qs 9 ?_
   obtain rfl : q = T[w.under.toNat].words.length := by omega
   rw [hadE_no (by simp [c82]), h1] at h
   exact Gb (L' := L) (F' := fSl (hadF T[w.under.toNat] e s mm T[w.under.toNat].words.length) a6 k6 c6 :: F) Tryz.results116 rfl ((Gz (i := 1) rfl).trans (Sub.drop.trans (Sub.drop.trans (Sub.drop.trans (Sub.drop.trans (GX (fun x hx => by repeat (first | exact hx | refine List.mem_cons_of_mem _ ?_)))))))) (h _ _ _)
  refine qs 12 ?_
  refine AC.cond HZ (fun c82 => ?_) (fun c82 => ?_)
  ·refine qs 3 ?_
   have hhl := hadM_len (w := w) (e := e) (s := s) w.ms.length
   refine Ga (AO.appendSelf (i := 1) (enc := eSl) (lst := hadM w e s w.ms.length) HZ HZ HZ HZ eSl_one (fun _ => rfl) Jb Jb (fun a85 k85 c85 => ?_))
   refine qs 10 ?_
   rw [hadE_yes c82, had_not (by rw [hty]; exact c50)] at h
   exact Gb (L' := L) (F' := fSl (hadM w e s w.ms.length ++ hadM w e s w.ms.length) a85 k85 c85 :: F) Tryz.results116 rfl ((Gz (i := 1) rfl).trans (Sub.drop.trans (Sub.drop.trans (Sub.drop.trans (Sub.drop.trans (GX (fun x hx => by repeat (first | exact hx | refine List.mem_cons_of_mem _ ?_)))))))) (h _ _ _)
  refine qs 9 ?_
  rw [hadE_no (by simp [c82]), had_not (by rw [hty]; exact c50)] at h
  exact Gb (L' := L) (F' := fSl (hadM w e s w.ms.length) a5 k5 c5 :: F) Tryz.results116 rfl ((Gz (i := 1) rfl).trans (Sub.drop.trans (Sub.drop.trans (Sub.drop.trans (Sub.drop.trans (GX (fun x hx => by repeat (first | exact hx | refine List.mem_cons_of_mem _ ?_)))))))) (h _ _ _)
end
end Go.Sy
namespace Go.Sy
open Go Go.Proofs Go.RowKit
def placeP (out : List Ent) (mp : Int → Option Int) : Prop := (∀ t j, mp t = some j → ∃ n : Nat, j = n ∧ ∃ hn : n < out.length, out[n].typ = t) ∧ ∀ t, mp t = none → t ∉ typs out
theorem place_nil : placeP [] (fun _ => none) := ⟨fun t j h => (by cases h), fun t _ => by simp [typs]⟩
theorem place_in {out : List Ent} {mp : Int → Option Int} (h : placeP out mp) {t j : Int} (hj : mp t = some j) : t ∈ typs out := by
  obtain ⟨n, _, hn, e⟩ := h.1 t j hj
  exact List.mem_map.2 ⟨out[n], List.getElem_mem hn, e⟩
theorem place_many {out : List Ent} {mp : Int → Option Int} (h : placeP out mp) (t0 : Int) : placeP (out.map (manyE t0)) mp := by
  refine ⟨fun t j hj => ?_, fun t ht => by rw [typs_many]; exact h.2 t ht⟩
  obtain ⟨n, e, hn, e2⟩ := h.1 t j hj
  exact ⟨n, e, by simpa using hn, by simp only [List.getElem_map]; rw [(manyE_path _ _).2]; exact e2⟩
theorem place_new {out : List Ent} {mp : Int → Option Int} (h : placeP out mp) (x : Ent) : placeP (out ++ [x]) (upd mp x.typ (out.length : Int)) := by
  refine ⟨fun t j hj => ?_, fun t ht => ?_⟩
  · by_cases c : t = x.typ
    · subst c
      rw [upd_self] at hj
      injection hj with hj
      exact ⟨out.length, hj.symm, by simp, by simp⟩
    rw [upd_ne _ c] at hj
    obtain ⟨n, e, hn, e2⟩ := h.1 t j hj
    exact ⟨n, e, by simp; omega, by rw [List.getElem_append_left hn]; exact e2⟩
  by_cases c : t = x.typ
  · subst c; rw [upd_self] at ht; cases ht
  rw [upd_ne _ c] at ht
  have := h.2 t ht
  unfold typs at this ⊢
  rw [List.map_append, List.mem_append]
  rintro (h1 | h1)
  · exact this h1
  simp at h1; exact c h1
def seenP (l : List Int) (m : Int → Option Bool) : Prop := ∀ t, m t = some true ↔ t ∈ l
theorem seen_nil : seenP [] (fun _ => none) := fun t => by simp
theorem seen_new {l : List Int} {m : Int → Option Bool} (h : seenP l m) (t0 : Int) : seenP (l ++ [t0]) (upd m t0 true) := fun t => by
  by_cases c : t = t0
  · subst c; rw [upd_self]; simp
  rw [upd_ne _ c, h t]; simp [c]
theorem many_set {out : List Ent} (hnd : (typs out).Nodup) {n : Nat} (hn : n < out.length) : out.map (manyE out[n].typ) = out.set n ⟨out[n].typ, out[n].via, true, out[n].path⟩ := by
  apply List.ext_getElem
  · simp
  intro j h1 h2
  simp only [List.length_map] at h1
  rw [List.getElem_map]
  by_cases c : n = j
  · subst c
    rw [List.getElem_set_self]
    unfold manyE; rw [if_pos rfl]
  rw [List.getElem_set_ne c]
  unfold manyE
  rw [if_neg]
  intro e
  have hj : j < (typs out).length := by simpa [typs] using h1
  have hn' : n < (typs out).length := by simpa [typs] using hn
  have e2 : (typs out)[j] = (typs out)[n] := by simpa [typs] using e
  exact c ((List.getElem_inj hnd).1 e2).symm
theorem eEn_many {out : List Ent} (hnd : (typs out).Nodup) {n : Nat} (hn : n < out.length) : (out.map eEn).set n ((eEn out[n]).set 2 (.val (.bool true))) = (out.map (manyE out[n].typ)).map eEn := by
  rw [many_set hnd hn, List.map_set]; rfl
section
variable {T : List Ty} {e : Ent} {t : Ty} {seen : List Int} {out : List Ent} {k : Nat} {x : Ent}
theorem inner_no (hk : k < t.words.length) (h : ¬ plusW t.words[k] = true) : innerN T e t seen out (k + 1) = innerN T e t seen out k := by simp only [innerN]; rw [GK [] hk, if_neg h]
theorem inner_yes (hk : k < t.words.length) (h : plusW t.words[k] = true) (hx : entE T e t k = x) : innerN T e t seen out (k + 1) = addE (innerN T e t seen out k) seen x := by simp only [innerN]; rw [GK [] hk, if_pos h, hx]
theorem add_many (h : x.typ ∈ typs out) : addE out seen x = out.map (manyE x.typ) := by unfold addE; rw [if_pos h]
theorem add_seen (h : x.typ ∉ typs out) (h2 : x.typ ∈ seen) : addE out seen x = out := by unfold addE; rw [if_neg h, if_pos h2]
theorem add_new (h : x.typ ∉ typs out) (h2 : x.typ ∉ seen) : addE out seen x = out ++ [x] := by unfold addE; rw [if_neg h, if_neg h2]
end
theorem ent_ptr {T : List Ty} {e : Ent} {t : Ty} {k : Nat} (hk : k < t.kids.length) {y : Nat} (hy : t.kids[k] = (y : Int)) (hyl : y < T.length) (h1 : T[y].kind = 1) (h0 : 0 < T[y].kids.length) : entE T e t k = ⟨T[y].kids[0], true, e.many, e.path ++ [(k : Int)]⟩ := by
  unfold entE; rw [GK _ hk, hy, HQ hyl, if_pos h1, GK _ h0]
theorem ent_not {T : List Ty} {e : Ent} {t : Ty} {k : Nat} (hk : k < t.kids.length) {y : Nat} (hy : t.kids[k] = (y : Int)) (hyl : y < T.length) (h1 : T[y].kind ≠ 1) : entE T e t k = ⟨(y : Int), e.via, e.many, e.path ++ [(k : Int)]⟩ := by
  unfold entE; rw [GK _ hk, hy, HQ hyl, if_neg h1]
theorem outer_no {T : List Ty} {lev : List Ent} {ws : List Wht} {seen : List Int} {q n : Nat} (hq : q < ws.length) (hn : ws[q].under = (n : Int)) (hnl : n < T.length) (h : T[n].kind ≠ 6) : outerN T lev ws seen (q + 1) = outerN T lev ws seen q := by
  simp only [outerN]; rw [GK default hq, hn, HQ hnl, if_neg h]
theorem outer_yes {T : List Ty} {lev : List Ent} {ws : List Wht} {seen : List Int} {q n : Nat} (hq : q < ws.length) (hql : q < lev.length) (hn : ws[q].under = (n : Int)) (hnl : n < T.length) (h : T[n].kind = 6) : outerN T lev ws seen (q + 1) = innerN T lev[q] T[n] seen (outerN T lev ws seen q) T[n].words.length := by
  simp only [outerN]; rw [GK default hq, GK default hql, hn, HQ hnl, if_pos h]
attribute [local irreducible] AC AT AO AK AH ACalls Sub Res.cells Res.obj Res.nix Res.own Res.map Exit.then Exit.inBlock bodyPost Code.wp Code.wpIn WL Next Post Kont
section
variable {W0 : World} {L : List Res} {F : List Fact} {R : Value → List Res → List Fact → Prop}
set_option maxRecDepth 100000
set_option maxHeartbeats 16000000
theorem next_c (T : List Ty) (hr : rightP T) (p : Nat) (hp : p ≤ 900) (lev : List Ent) (ws : List Wht) (hl : levP T p lev) (hlen : ws.length = lev.length) (hws : ∀ w ∈ ws, whP T w) (seen : List Int) (m : Int → Option Bool) (hm : seenP seen m)
    {a a2 a3 a4 : Option Addr} {k c k2 c2 k3 c3 k4 c4 bw iw bs is : Nat} {bad : Int} (hw : L[iw]? = some (Res.cells bw #[.slice a k c, .slice a2 k2 c2, .int .i64 bad] 147)) (hs : L[is]? = some (Res.map bs vI Value.bool m)) (mL : fL T a k c ∈ F) (mE : fEn lev a3 k3 c3 ∈ F) (mW : fWh ws a4 k4 c4 ∈ F)
    (h : ∀ m' a k c, seenP (seen ++ typs (nextL T lev ws seen)) m' → R (.slice a k c) (L.set is (Res.map bs vI Value.bool m')) (fEn (nextL T lev ws seen) a k c :: F)) :
    ACalls Tryz.prog W0 152 #[.pointer (some ⟨bw, 0, none⟩), .slice a3 k3 c3, .slice a4 k4 c4, .map (some bs)] L F R := by
  have hml : 1000000 ≤ maxLen := by decide
  have hT4 := hr.2.1
  have hlf := hl.few
  have hL0 : L.set is (Res.map bs vI Value.bool m) = L := (List.getElem?_eq_some_iff.1 hs).2 ▸ List.set_getElem_self _
  refine Gg Tryz.func152 HZ Tryz.ntmps152 HZ ?_
  refine qs 12 ?_
  refine Ga (AO.makeMap vI vI HZ (fun b22 => ?_))
  refine qs 7 ?_
  refine Ga (Gt HZ HZ (fun hl24 => ?_) (enc := eEn) (lst := lev) (hm := memA))
  refine qs 4 ?_
  refine GB (fun (x : Nat × (List Ent × (Int → Option Int)) × (Option Addr × Nat × Nat)) => x.1 ≤ lev.length ∧ x.2.1.1 = outerN T lev ws seen x.1 ∧ levP T (p + 1) x.2.1.1 ∧ placeP x.2.1.1 x.2.1.2) (fun x => [(0, .pointer (some ⟨bw, 0, none⟩)), (2, .slice a4 k4 c4), (3, .map (some bs)), (9, .slice x.2.2.1 x.2.2.2.1 x.2.2.2.2), (10, .map (some b22)), (23, .slice a3 k3 c3), (24, .int .i64 lev.length), (25, .int .i64 (x.1 : Int))]) (fun x => Res.own (.slice x.2.2.1 x.2.2.2.1 x.2.2.2.2) 182 4 (x.2.1.1.map eEn) :: Res.map b22 vI vI x.2.1.2 :: L) (fun _ => F) (fun x => lev.length - x.1) (0, ([], fun _ => none), (none, 0, 0)) ⟨Nat.zero_le _, rfl, outerN_ok (seen := seen) hr hl hlen hws 0 (Nat.zero_le _), place_nil⟩ srA GZ ?_
  rintro ⟨q, ⟨out, mp⟩, ⟨a9, k9, c9⟩⟩ ⟨hq, hout, hlo, hpl⟩
  simp only at hq hout hlo hpl ⊢
  refine qs 2 ?_
  refine Ga (Gw HZ HZ HZ (fun c26 => ?_) (fun c26 => ?_))
  ·refine qs 11 ?_
   have hql : q < lev.length := by omega
   have hqw : q < ws.length := by omega
   obtain ⟨⟨hy0, hy1⟩, hy2⟩ := hl.1 _ (List.getElem_mem hql)
   have hwq := hws _ (List.getElem_mem hqw)
   obtain ⟨n, hn⟩ : ∃ n : Nat, ws[q].under = (n : Int) := ⟨ws[q].under.toNat, by have := hwq.1; omega⟩
   have hnl : n < T.length := by have := hwq.2.1; omega
   have hrt := GT hr hnl
   have hok := Hj hr _ (List.getElem_mem hnl)
   refine Ga (Gd HZ HZ HZ HZ (enc := eEn) (lst := lev) memA hql (fun _ _ => ?_))
   refine Ga (GN HZ HZ ?_)
   intro a29 k29 z29
   refine Ga (Gj HZ (fun b12 => ?_))
   refine qs 5 ?_
   refine GP (fun i => Nat.beq i 13) [(bw, _, _)] bxA HZ (fun hx hX => ?_)
   have hll := (Gu (hX (fL T a k c) memA)).1
   have hww := (Gu (hX (fWh ws a4 k4 c4) memA)).1
   obtain ⟨p0, o0, e0, at0⟩ := GA (hX (fWh ws a4 k4 c4) memA) hqw
   subst e0
   obtain ⟨v0, hv0, hc0⟩ := at0 0 _ rfl
   cases hc0
   obtain ⟨p1, o1, e1, at1⟩ := GA (hX (fL T a k c) memA) hnl
   subst e1
   obtain ⟨w1, x1, y1, w2, x2, y2, hv1, hw1, hw2⟩ := ty_cells at1
   refine Hx hw1 memA (Hx hw2 memA ?_)
   refine qt [0, 1, 2, 3, 4, 5, 6] ?_
   refine GD (i := 7) HZ (GE (k := q) HZ HZ HZ Jb) Ja HZ HZ ?_
   refine qt [8] ?_
   refine GR (i := 9) HZ (Ho HZ hv0) Ja Ja HZ HZ HZ ?_
   refine GD (i := 10) HZ (GE (k := n) HZ HZ hn Jb) Ja HZ HZ ?_
   refine GR (i := 11) HZ (HN HZ HZ hv1) Ja Ja HZ HZ HZ ?_
   refine Gm (i := 12) Ja HZ HZ (fun _ => ?_)
   refine Gj HZ (fun b13 => ?_)
   refine Gi bxA memB ?_
   refine Gm (i := 13) Ja HZ HZ (fun _ => ?_)
   refine Gx HZ HZ HZ HZ ?_
   refine GC HZ ?_
   refine Gq Ja ?_
   refine qs 6 ?_
   refine Ga (GG HZ HZ HZ (fun c44 => ?_) (fun c44 => ?_))
   ·refine qs 11 ?_
    refine Gk (q + 1, (out, mp), (a9, k9, c9)) ⟨by simp only; omega, by simp only; rw [outer_no hqw hn hnl c44]; exact hout, hlo, hpl⟩ (by simp only; omega) srA (Sub.drop.trans (Sub.drop.trans subF))
   refine qs 9 ?_
   refine Ga (Gt HZ HZ (fun hl47 => ?_) (enc := eS) (lst := T[n].words) (hm := memA))
   refine qs 4 ?_
   have hst := struct_of hr hnl c44
   have hwl := hok.words
   have hkin : ∀ x ∈ T[n].kids, 0 ≤ x ∧ x < T.length := fun x hx => by have := hrt.kids x hx; omega
   refine GB (fun (x : Nat × (List Ent × (Int → Option Int)) × (Option Addr × Nat × Nat)) => x.1 ≤ T[n].words.length ∧ x.2.1.1 = innerN T lev[q] T[n] seen out x.1 ∧ levP T (p + 1) x.2.1.1 ∧ placeP x.2.1.1 x.2.1.2) (fun x => [(0, .pointer (some ⟨bw, 0, none⟩)), (2, .slice _ k4 c4), (3, .map (some bs)), (9, .slice x.2.2.1 x.2.2.2.1 x.2.2.2.2), (10, .map (some b22)), (12, .pointer (some ⟨b12, 0, none⟩)), (13, .pointer (some ⟨b13, 0, none⟩)), (23, .slice a3 k3 c3), (24, .int .i64 lev.length), (25, .int .i64 (q : Int)), (46, .slice w1 x1 y1), (47, .int .i64 T[n].words.length), (48, .int .i64 (x.1 : Int))]) (fun x => _ :: _ :: Res.own (.slice x.2.2.1 x.2.2.2.1 x.2.2.2.2) 182 4 (x.2.1.1.map eEn) :: Res.map b22 vI vI x.2.1.2 :: L) (fun _ => _) (fun x => T[n].words.length - x.1) (0, (out, mp), (a9, k9, c9)) ⟨Nat.zero_le _, rfl, hlo, hpl⟩ srA (Gf _ _) ?_
   rintro ⟨j, ⟨ou, mq⟩, ⟨a8, k8, c8⟩⟩ ⟨hj, hou, hlu, hpu⟩
   simp only at hj hou hlu hpu ⊢
   refine qs 2 ?_
   refine Ga (Gw HZ HZ HZ (fun c49 => ?_) (fun c49 => ?_))
   ·refine qs 11 ?_
    have hjl : j < T[n].words.length := by omega
    have hjk : j < T[n].kids.length := by omega
    have hof := hlu.few
    have hkj := hkin _ (List.getElem_mem hjk)
    obtain ⟨y, hy⟩ : ∃ y : Nat, T[n].kids[j] = (y : Int) := ⟨T[n].kids[j].toNat, by omega⟩
    have hyl : y < T.length := by omega
    refine Ga (Gd HZ HZ HZ HZ (enc := eS) (lst := T[n].words) memA hjl (fun _ _ => ?_))
    refine Ga (Gs HZ HZ ?_)
    intros
    refine qs 8 ?_
    refine Ga (Ge HZ HZ (hasp_c T[n].words[j] ?_))
    refine qs 3 ?_
    refine AC.cond HZ (fun c55 => ?_) (fun c55 => ?_)
    ·refine qs 8 ?_
     exact Gk (j + 1, (ou, mq), (a8, k8, c8)) ⟨by simp only; omega, by simp only; rw [inner_no hjl (by simpa using c55)]; exact hou, hlu, hpu⟩ (by simp only; omega) srA subF
    refine qs 3 ?_
    refine AC.cut (fun (x : Nat × Option Addr × Nat × Nat) ρ => (16, .pointer (some ⟨x.1, 0, none⟩)) :: ρ) (fun x L => Res.cells x.1 #[.int .i64 (y : Int), .bool lev[q].via, .bool lev[q].many, .slice x.2.1 x.2.2.1 x.2.2.2] 182 :: L) (fun x F => fI (lev[q].path ++ [(j : Int)]) x.2.1 x.2.2.1 x.2.2.2 :: F) ?_ (fun key => ?_)
    ·rintro ⟨b16, a70, k70, c70⟩
     refine qs 3 ?_
     refine GP (fun i => Nat.beq i 10) [(bw, _, _), (b16, _, _)] bxA HZ (fun hx hX => ?_)
     have hll2 := (Gu (hX (fL T _ k c) memA)).1
     obtain ⟨p3, o3, e3, at3⟩ := GA (hX (fL T _ k c) memA) hyl
     cases e3
     obtain ⟨w4, x4, y4, w5, x5, y5, hv3, hw4, hw5⟩ := ty_cells at3
     refine Hx hw4 memA (Hx hw5 memA ?_)
     refine qt [0, 1, 2, 3, 4, 5, 6] ?_
     refine GD (i := 7) HZ (GE (k := y) HZ HZ HZ Jb) Ja HZ HZ ?_
     refine GR (i := 8) HZ (HN HZ HZ hv3) Ja Ja HZ HZ HZ ?_
     refine Gm (i := 9) Ja HZ HZ (fun _ => ?_)
     refine Gj HZ (fun b17 => ?_)
     refine Gi bxA memB ?_
     refine Gm (i := 10) Ja HZ HZ (fun _ => ?_)
     refine Gx HZ HZ HZ HZ ?_
     refine GC HZ ?_
     refine Gq Ja ?_
     refine qs 5 ?_
     refine Ga (Gr HZ HZ HZ (fun c83 => ?_) (fun c83 => ?_))
     ·refine qs 6 ?_
      have hk1 := ptr_of hr hyl c83
      have hk0 : 0 < T[y].kids.length := by omega
      refine Ga (Gd (k := 0) HZ HZ HZ HZ (show fK T[y] _ _ _ ∈ _ from memA) hk0 (fun _ _ => ?_))
      refine Ga (Gs HZ HZ ?_)
      intros
      refine qs 11 ?_
      have hx := ent_ptr (e := lev[q]) hjk hy hyl c83 hk0
      have hxk := entE_ok hr (e := lev[q]) hy2 hjk hkin
      rw [hx] at hxk
      refine Ga (AO.lookupOk (kenc := vI) (venc := vI) (m := mq) (i := 5) T[y].kids[0] HZ HZ HZ HZ (fun d hd => ?_) (fun hd => ?_))
      ·refine qs 16 ?_
       obtain ⟨f, rfl, hfl, hft⟩ := hpu.1 _ _ hd
       refine Ga (Hb (i := 4) (q := f) HZ HZ HZ HZ HZ (by rw [List.length_map]; exact hfl) (fun bo ho => ?_))
       cases ho
       refine qs 1 ?_
       refine Ga (AO.storeOR (v := .bool true) (i := 4) (q := f) (j := 2) HZ HZ HZ HZ HZ (show (ou.map eEn)[f]? = some (eEn ou[f]) by rw [List.getElem?_map, List.getElem?_eq_getElem hfl]; rfl) (by simp) ?_)
       rw [eEn_many hlu.2 hfl, hft]
       refine qs 7 ?_
       have hin := place_in hpu hd
       exact Gk (j + 1, (ou.map (manyE _), mq), (_, k8, c8)) ⟨by simp only; omega, by simp only; rw [inner_yes hjl (by simpa using c55) hx, ← hou, add_many hin], by have := addE_ok (seen := seen) hlu hxk; rwa [add_many hin] at this, place_many hpu _⟩ (by simp only; omega) srA (Sub.drop.trans (Sub.drop.trans subF))
      refine qs 18 ?_
      refine Ga (AO.lookupB (kenc := vI) (m := m) (i := is + 6) T[y].kids[0] HZ HZ HZ (by repeat (first | exact has0 | assumption | apply hasS)) (fun hse => ?_) (fun hse => ?_))
      ·refine qs 11 ?_
       have hni := hpu.2 _ hd
       have hin := (hm _).1 hse
       exact Gk (j + 1, (ou, mq), (a8, k8, c8)) ⟨by simp only; omega, by simp only; rw [inner_yes hjl (by simpa using c55) hx, ← hou, add_seen hni hin], hlu, hpu⟩ (by simp only; omega) srA (Sub.drop.trans (Sub.drop.trans subF))
      refine qs 10 ?_
      refine Ga (AO.lenO (i := 4) HZ HZ HZ (fun hk111 => ?_))
      rw [List.length_map]
      refine Ga (Hu (kenc := vI) (venc := vI) (m := mq) (i := 5) T[y].kids[0] (ou.length : Int) HZ HZ HZ HZ ?_)
      refine qs 5 ?_
      refine Ga (Gl HZ HZ HZ HZ HZ (fun b114 => ?_))
      refine Ga (GJ (i := 4) (enc := eEn) (lst := ou) [⟨T[y].kids[0], true, lev[q].many, lev[q].path ++ [(j : Int)]⟩] HZ HZ HZ HZ (.val (.val (.val (.slc .nil memA)))) HZ HZ (fun _ => rfl) Jb Jb (fun a115 k115 c115 => ?_))
      refine qs 8 ?_
      have hni := hpu.2 _ hd
      have hin := fun e => hse ((hm _).2 e)
      exact Gk (j + 1, (ou ++ [_], upd mq _ _), (a115, k115, c115)) ⟨by simp only; omega, by simp only; rw [inner_yes hjl (by simpa using c55) hx, ← hou, add_new hni hin], by have := addE_ok (seen := seen) hlu hxk; rwa [add_new hni hin] at this, place_new hpu _⟩ (by simp only; omega) srA (Sub.drop.trans (Sub.drop.trans subF))
     refine qs 10 ?_
     have hx := ent_not (e := lev[q]) hjk hy hyl c83
     have hxk := entE_ok hr (e := lev[q]) hy2 hjk hkin
     rw [hx] at hxk
     refine Ga (AO.lookupOk (kenc := vI) (venc := vI) (m := mq) (i := 5) (y : Int) HZ HZ HZ HZ (fun d hd => ?_) (fun hd => ?_))
     ·refine qs 16 ?_
      obtain ⟨f, rfl, hfl, hft⟩ := hpu.1 _ _ hd
      refine Ga (Hb (i := 4) (q := f) HZ HZ HZ HZ HZ (by rw [List.length_map]; exact hfl) (fun bo ho => ?_))
      cases ho
      refine qs 1 ?_
      refine Ga (AO.storeOR (v := .bool true) (i := 4) (q := f) (j := 2) HZ HZ HZ HZ HZ (show (ou.map eEn)[f]? = some (eEn ou[f]) by rw [List.getElem?_map, List.getElem?_eq_getElem hfl]; rfl) (by simp) ?_)
      rw [eEn_many hlu.2 hfl, hft]
      refine qs 7 ?_
      have hin := place_in hpu hd
      exact Gk (j + 1, (ou.map (manyE _), mq), (_, k8, c8)) ⟨by simp only; omega, by simp only; rw [inner_yes hjl (by simpa using c55) hx, ← hou, add_many hin], by have := addE_ok (seen := seen) hlu hxk; rwa [add_many hin] at this, place_many hpu _⟩ (by simp only; omega) srA (Sub.drop.trans (Sub.drop.trans subF))
     refine qs 18 ?_
     refine Ga (AO.lookupB (kenc := vI) (m := m) (i := is + 6) (y : Int) HZ HZ HZ (by repeat (first | exact has0 | assumption | apply hasS)) (fun hse => ?_) (fun hse => ?_))
     ·refine qs 11 ?_
      have hni := hpu.2 _ hd
      have hin := (hm _).1 hse
      exact Gk (j + 1, (ou, mq), (a8, k8, c8)) ⟨by simp only; omega, by simp only; rw [inner_yes hjl (by simpa using c55) hx, ← hou, add_seen hni hin], hlu, hpu⟩ (by simp only; omega) srA (Sub.drop.trans (Sub.drop.trans subF))
     refine qs 10 ?_
     refine Ga (AO.lenO (i := 4) HZ HZ HZ (fun hk111 => ?_))
     rw [List.length_map]
     refine Ga (Hu (kenc := vI) (venc := vI) (m := mq) (i := 5) (y : Int) (ou.length : Int) HZ HZ HZ HZ ?_)
     refine qs 5 ?_
     refine Ga (Gl HZ HZ HZ HZ HZ (fun b114 => ?_))
     refine Ga (GJ (i := 4) (enc := eEn) (lst := ou) [⟨(y : Int), lev[q].via, lev[q].many, lev[q].path ++ [(j : Int)]⟩] HZ HZ HZ HZ (.val (.val (.val (.slc .nil memA)))) HZ HZ (fun _ => rfl) Jb Jb (fun a115 k115 c115 => ?_))
     refine qs 8 ?_
     have hni := hpu.2 _ hd
     have hin := fun e => hse ((hm _).2 e)
     exact Gk (j + 1, (ou ++ [_], upd mq _ _), (a115, k115, c115)) ⟨by simp only; omega, by simp only; rw [inner_yes hjl (by simpa using c55) hx, ← hou, add_new hni hin], by have := addE_ok (seen := seen) hlu hxk; rwa [add_new hni hin] at this, place_new hpu _⟩ (by simp only; omega) srA (Sub.drop.trans (Sub.drop.trans subF))
    refine GP (fun i => Nat.beq i 17) [(b12, _, _), (b13, _, _)] bxA HZ (fun hx hX => ?_)
    have hkk := (Gu (hX (fK T[n] w2 x2 y2) memA)).1
    obtain ⟨p2, o2, e2, atq⟩ := GA (hX (fK T[n] w2 x2 y2) memA) hjk
    subst e2
    obtain ⟨vq, hvq, hcq⟩ := atq 0 _ rfl
    cases hcq
    rw [hy] at hvq
    refine qt [0, 1, 2] ?_
    refine GD (i := 3) HZ (GE (k := j) HZ HZ HZ Jb) Ja HZ HZ ?_
    refine GR (i := 4) HZ (Ho HZ hvq) Ja Ja HZ HZ HZ ?_
    refine qt [5, 6, 7, 8, 9, 10, 12] ?_
    refine AH.ups (is := [11, 13, 16]) Ja (by decide) (UpsH.cons HZ HZ (fun _ => ?_) (UpsH.cons HZ HZ (fun _ => ?_) (UpsH.cons HZ HZ (fun _ => ?_) UpsH.nil)))
    ·refine Ge HZ HZ (clipI_c lev[q].path (show fI lev[q].path _ _ _ ∈ _ from memA) (fun a67 => ?_))
     refine Gi bxA memB ?_
     refine HE (i := 13) (j := 16) Ja HZ HZ HZ HZ (fun _ => ?_) (fun _ => ?_)
     ·refine Gl HZ HZ HZ HZ HZ (fun b69 => ?_)
      refine Gi bxA memB ?_
      refine HE (i := 14) (j := 16) Ja HZ HZ HZ HZ (fun _ => ?_) (fun _ => ?_)
      ·first | refine Hn (enc := eI) (lst := lev[q].path) [(j : Int)] HZ HZ HZ (show fI lev[q].path _ _ _ ∈ _ from memA) (fun x d hd v hv => Hq hd hv) (.val .nil) HZ HZ (by decide) (fun _ => rfl) Jb Jb (fun a70 k70 c70 => ?_) | refine AO.thin Sub.swap2 (Hn (enc := eI) (lst := lev[q].path) [(j : Int)] HZ HZ HZ (show fI lev[q].path _ _ _ ∈ _ from memA) (fun x d hd v hv => Hq hd hv) (.val .nil) HZ HZ (by decide) (fun _ => rfl) Jb Jb (fun a70 k70 c70 => ?_))
       refine GH (Gz (i := 0) HZ) ?_
       refine Gi bxA memB ?_
       refine HE (i := 15) (j := 16) Ja HZ HZ HZ HZ (fun _ => ?_) (fun _ => ?_)
       ·refine GO HZ HZ HZ ?_
        refine Gi bxA memB ?_
        refine Gm (i := 16) Ja HZ HZ (fun _ => ?_)
        refine Gj HZ (fun b16 => ?_)
        refine Gi bxA memB ?_
        refine Gm (i := 17) Ja HZ HZ (fun _ => ?_)
        refine Gx HZ HZ HZ HZ ?_
        refine GC HZ ?_
        refine Gq Ja ?_
        exact HH srA (by first | exact Sub.drop.trans (Gh (mem1 memA (fun x hx => by repeat (first | exact hx | refine List.mem_cons_of_mem _ ?_)))) | exact Sub.drop1.trans (Gh (mem1 memA (fun x hx => by repeat (first | exact hx | refine List.mem_cons_of_mem _ ?_))))) (key (b16, a70, k70, c70))
       refine Gj HZ (fun b16 => ?_)
       refine Gi bxA memB ?_
       refine Gm (i := 15) Ja HZ HZ (fun _ => ?_)
       refine GO HZ HZ HZ ?_
       refine Gi bxA memB ?_
       refine Gm (i := 17) Ja HZ HZ (fun _ => ?_)
       refine Gx HZ HZ HZ HZ ?_
       refine GC HZ ?_
       refine Gq Ja ?_
       exact HH srA (by first | exact Sub.drop.trans (Gh (mem1 memA (fun x hx => by repeat (first | exact hx | refine List.mem_cons_of_mem _ ?_)))) | exact Sub.drop1.trans (Gh (mem1 memA (fun x hx => by repeat (first | exact hx | refine List.mem_cons_of_mem _ ?_))))) (key (b16, a70, k70, c70))
      refine Gj HZ (fun b16 => ?_)
      refine Gi bxA memB ?_
      refine Gm (i := 14) Ja HZ HZ (fun _ => ?_)
      first | refine Hn (enc := eI) (lst := lev[q].path) [(j : Int)] HZ HZ HZ (show fI lev[q].path _ _ _ ∈ _ from memA) (fun x d hd v hv => Hq hd hv) (.val .nil) HZ HZ (by decide) (fun _ => rfl) Jb Jb (fun a70 k70 c70 => ?_) | refine AO.thin Sub.swap2 (Hn (enc := eI) (lst := lev[q].path) [(j : Int)] HZ HZ HZ (show fI lev[q].path _ _ _ ∈ _ from memA) (fun x d hd v hv => Hq hd hv) (.val .nil) HZ HZ (by decide) (fun _ => rfl) Jb Jb (fun a70 k70 c70 => ?_))
      refine GH (Gz (i := 0) HZ) ?_
      refine Gi bxA memB ?_
      refine Gm (i := 15) Ja HZ HZ (fun _ => ?_)
      refine GO HZ HZ HZ ?_
      refine Gi bxA memB ?_
      refine Gm (i := 17) Ja HZ HZ (fun _ => ?_)
      refine Gx HZ HZ HZ HZ ?_
      refine GC HZ ?_
      refine Gq Ja ?_
      exact HH srA (by first | exact Sub.drop.trans (Gh (mem1 memA (fun x hx => by repeat (first | exact hx | refine List.mem_cons_of_mem _ ?_)))) | exact Sub.drop1.trans (Gh (mem1 memA (fun x hx => by repeat (first | exact hx | refine List.mem_cons_of_mem _ ?_))))) (key (b16, a70, k70, c70))
     refine Gj HZ (fun b16 => ?_)
     refine Gi bxA memB ?_
     refine Gm (i := 13) Ja HZ HZ (fun _ => ?_)
     refine Gl HZ HZ HZ HZ HZ (fun b69 => ?_)
     refine Gi bxA memB ?_
     refine Gm (i := 14) Ja HZ HZ (fun _ => ?_)
     first | refine Hn (enc := eI) (lst := lev[q].path) [(j : Int)] HZ HZ HZ (show fI lev[q].path _ _ _ ∈ _ from memA) (fun x d hd v hv => Hq hd hv) (.val .nil) HZ HZ (by decide) (fun _ => rfl) Jb Jb (fun a70 k70 c70 => ?_) | refine AO.thin Sub.swap2 (Hn (enc := eI) (lst := lev[q].path) [(j : Int)] HZ HZ HZ (show fI lev[q].path _ _ _ ∈ _ from memA) (fun x d hd v hv => Hq hd hv) (.val .nil) HZ HZ (by decide) (fun _ => rfl) Jb Jb (fun a70 k70 c70 => ?_))
     refine GH (Gz (i := 0) HZ) ?_
     refine Gi bxA memB ?_
     refine Gm (i := 15) Ja HZ HZ (fun _ => ?_)
     refine GO HZ HZ HZ ?_
     refine Gi bxA memB ?_
     refine Gm (i := 17) Ja HZ HZ (fun _ => ?_)
     refine Gx HZ HZ HZ HZ ?_
     refine GC HZ ?_
     refine Gq Ja ?_
     exact HH srA (by first | exact Sub.drop.trans (Gh (mem1 memA (fun x hx => by repeat (first | exact hx | refine List.mem_cons_of_mem _ ?_)))) | exact Sub.drop1.trans (Gh (mem1 memA (fun x hx => by repeat (first | exact hx | refine List.mem_cons_of_mem _ ?_))))) (key (b16, a70, k70, c70))
    ·refine Gl HZ HZ HZ HZ HZ (fun b69 => ?_)
     refine Gi bxA memB ?_
     refine HE (i := 11) (j := 16) Ja HZ HZ HZ HZ (fun _ => ?_) (fun _ => ?_)
     ·refine Ge HZ HZ (clipI_c lev[q].path (show fI lev[q].path _ _ _ ∈ _ from memA) (fun a67 => ?_))
      refine Gi bxA memB ?_
      refine HE (i := 14) (j := 16) Ja HZ HZ HZ HZ (fun _ => ?_) (fun _ => ?_)
      ·first | refine Hn (enc := eI) (lst := lev[q].path) [(j : Int)] HZ HZ HZ (show fI lev[q].path _ _ _ ∈ _ from memA) (fun x d hd v hv => Hq hd hv) (.val .nil) HZ HZ (by decide) (fun _ => rfl) Jb Jb (fun a70 k70 c70 => ?_) | refine AO.thin Sub.swap2 (Hn (enc := eI) (lst := lev[q].path) [(j : Int)] HZ HZ HZ (show fI lev[q].path _ _ _ ∈ _ from memA) (fun x d hd v hv => Hq hd hv) (.val .nil) HZ HZ (by decide) (fun _ => rfl) Jb Jb (fun a70 k70 c70 => ?_))
       refine GH (Gz (i := 0) HZ) ?_
       refine Gi bxA memB ?_
       refine HE (i := 15) (j := 16) Ja HZ HZ HZ HZ (fun _ => ?_) (fun _ => ?_)
       ·refine GO HZ HZ HZ ?_
        refine Gi bxA memB ?_
        refine Gm (i := 16) Ja HZ HZ (fun _ => ?_)
        refine Gj HZ (fun b16 => ?_)
        refine Gi bxA memB ?_
        refine Gm (i := 17) Ja HZ HZ (fun _ => ?_)
        refine Gx HZ HZ HZ HZ ?_
        refine GC HZ ?_
        refine Gq Ja ?_
        exact HH srA (by first | exact Sub.drop.trans (Gh (mem1 memA (fun x hx => by repeat (first | exact hx | refine List.mem_cons_of_mem _ ?_)))) | exact Sub.drop1.trans (Gh (mem1 memA (fun x hx => by repeat (first | exact hx | refine List.mem_cons_of_mem _ ?_))))) (key (b16, a70, k70, c70))
       refine Gj HZ (fun b16 => ?_)
       refine Gi bxA memB ?_
       refine Gm (i := 15) Ja HZ HZ (fun _ => ?_)
       refine GO HZ HZ HZ ?_
       refine Gi bxA memB ?_
       refine Gm (i := 17) Ja HZ HZ (fun _ => ?_)
       refine Gx HZ HZ HZ HZ ?_
       refine GC HZ ?_
       refine Gq Ja ?_
       exact HH srA (by first | exact Sub.drop.trans (Gh (mem1 memA (fun x hx => by repeat (first | exact hx | refine List.mem_cons_of_mem _ ?_)))) | exact Sub.drop1.trans (Gh (mem1 memA (fun x hx => by repeat (first | exact hx | refine List.mem_cons_of_mem _ ?_))))) (key (b16, a70, k70, c70))
      refine Gj HZ (fun b16 => ?_)
      refine Gi bxA memB ?_
      refine Gm (i := 14) Ja HZ HZ (fun _ => ?_)
      first | refine Hn (enc := eI) (lst := lev[q].path) [(j : Int)] HZ HZ HZ (show fI lev[q].path _ _ _ ∈ _ from memA) (fun x d hd v hv => Hq hd hv) (.val .nil) HZ HZ (by decide) (fun _ => rfl) Jb Jb (fun a70 k70 c70 => ?_) | refine AO.thin Sub.swap2 (Hn (enc := eI) (lst := lev[q].path) [(j : Int)] HZ HZ HZ (show fI lev[q].path _ _ _ ∈ _ from memA) (fun x d hd v hv => Hq hd hv) (.val .nil) HZ HZ (by decide) (fun _ => rfl) Jb Jb (fun a70 k70 c70 => ?_))
      refine GH (Gz (i := 0) HZ) ?_
      refine Gi bxA memB ?_
      refine Gm (i := 15) Ja HZ HZ (fun _ => ?_)
      refine GO HZ HZ HZ ?_
      refine Gi bxA memB ?_
      refine Gm (i := 17) Ja HZ HZ (fun _ => ?_)
      refine Gx HZ HZ HZ HZ ?_
      refine GC HZ ?_
      refine Gq Ja ?_
      exact HH srA (by first | exact Sub.drop.trans (Gh (mem1 memA (fun x hx => by repeat (first | exact hx | refine List.mem_cons_of_mem _ ?_)))) | exact Sub.drop1.trans (Gh (mem1 memA (fun x hx => by repeat (first | exact hx | refine List.mem_cons_of_mem _ ?_))))) (key (b16, a70, k70, c70))
     refine Gj HZ (fun b16 => ?_)
     refine Gi bxA memB ?_
     refine Gm (i := 11) Ja HZ HZ (fun _ => ?_)
     refine Ge HZ HZ (clipI_c lev[q].path (show fI lev[q].path _ _ _ ∈ _ from memA) (fun a67 => ?_))
     refine Gi bxA memB ?_
     refine Gm (i := 14) Ja HZ HZ (fun _ => ?_)
     first | refine Hn (enc := eI) (lst := lev[q].path) [(j : Int)] HZ HZ HZ (show fI lev[q].path _ _ _ ∈ _ from memA) (fun x d hd v hv => Hq hd hv) (.val .nil) HZ HZ (by decide) (fun _ => rfl) Jb Jb (fun a70 k70 c70 => ?_) | refine AO.thin Sub.swap2 (Hn (enc := eI) (lst := lev[q].path) [(j : Int)] HZ HZ HZ (show fI lev[q].path _ _ _ ∈ _ from memA) (fun x d hd v hv => Hq hd hv) (.val .nil) HZ HZ (by decide) (fun _ => rfl) Jb Jb (fun a70 k70 c70 => ?_))
     refine GH (Gz (i := 0) HZ) ?_
     refine Gi bxA memB ?_
     refine Gm (i := 15) Ja HZ HZ (fun _ => ?_)
     refine GO HZ HZ HZ ?_
     refine Gi bxA memB ?_
     refine Gm (i := 17) Ja HZ HZ (fun _ => ?_)
     refine Gx HZ HZ HZ HZ ?_
     refine GC HZ ?_
     refine Gq Ja ?_
     exact HH srA (by first | exact Sub.drop.trans (Gh (mem1 memA (fun x hx => by repeat (first | exact hx | refine List.mem_cons_of_mem _ ?_)))) | exact Sub.drop1.trans (Gh (mem1 memA (fun x hx => by repeat (first | exact hx | refine List.mem_cons_of_mem _ ?_))))) (key (b16, a70, k70, c70))
    refine Gj HZ (fun b16 => ?_)
    refine Gi bxA memB ?_
    refine HE (i := 11) (j := 13) Ja HZ HZ HZ HZ (fun _ => ?_) (fun _ => ?_)
    ·refine Ge HZ HZ (clipI_c lev[q].path (show fI lev[q].path _ _ _ ∈ _ from memA) (fun a67 => ?_))
     refine Gi bxA memB ?_
     refine Gm (i := 13) Ja HZ HZ (fun _ => ?_)
     refine Gl HZ HZ HZ HZ HZ (fun b69 => ?_)
     refine Gi bxA memB ?_
     refine Gm (i := 14) Ja HZ HZ (fun _ => ?_)
     first | refine Hn (enc := eI) (lst := lev[q].path) [(j : Int)] HZ HZ HZ (show fI lev[q].path _ _ _ ∈ _ from memA) (fun x d hd v hv => Hq hd hv) (.val .nil) HZ HZ (by decide) (fun _ => rfl) Jb Jb (fun a70 k70 c70 => ?_) | refine AO.thin Sub.swap2 (Hn (enc := eI) (lst := lev[q].path) [(j : Int)] HZ HZ HZ (show fI lev[q].path _ _ _ ∈ _ from memA) (fun x d hd v hv => Hq hd hv) (.val .nil) HZ HZ (by decide) (fun _ => rfl) Jb Jb (fun a70 k70 c70 => ?_))
     refine GH (Gz (i := 0) HZ) ?_
     refine Gi bxA memB ?_
     refine Gm (i := 15) Ja HZ HZ (fun _ => ?_)
     refine GO HZ HZ HZ ?_
     refine Gi bxA memB ?_
     refine Gm (i := 17) Ja HZ HZ (fun _ => ?_)
     refine Gx HZ HZ HZ HZ ?_
     refine GC HZ ?_
     refine Gq Ja ?_
     exact HH srA (by first | exact Sub.drop.trans (Gh (mem1 memA (fun x hx => by repeat (first | exact hx | refine List.mem_cons_of_mem _ ?_)))) | exact Sub.drop1.trans (Gh (mem1 memA (fun x hx => by repeat (first | exact hx | refine List.mem_cons_of_mem _ ?_))))) (key (b16, a70, k70, c70))
    refine Gl HZ HZ HZ HZ HZ (fun b69 => ?_)
    refine Gi bxA memB ?_
    refine Gm (i := 11) Ja HZ HZ (fun _ => ?_)
    refine Ge HZ HZ (clipI_c lev[q].path (show fI lev[q].path _ _ _ ∈ _ from memA) (fun a67 => ?_))
    refine Gi bxA memB ?_
    refine Gm (i := 14) Ja HZ HZ (fun _ => ?_)
    first | refine Hn (enc := eI) (lst := lev[q].path) [(j : Int)] HZ HZ HZ (show fI lev[q].path _ _ _ ∈ _ from memA) (fun x d hd v hv => Hq hd hv) (.val .nil) HZ HZ (by decide) (fun _ => rfl) Jb Jb (fun a70 k70 c70 => ?_) | refine AO.thin Sub.swap2 (Hn (enc := eI) (lst := lev[q].path) [(j : Int)] HZ HZ HZ (show fI lev[q].path _ _ _ ∈ _ from memA) (fun x d hd v hv => Hq hd hv) (.val .nil) HZ HZ (by decide) (fun _ => rfl) Jb Jb (fun a70 k70 c70 => ?_))
    refine GH (Gz (i := 0) HZ) ?_
    refine Gi bxA memB ?_
    refine Gm (i := 15) Ja HZ HZ (fun _ => ?_)
    refine GO HZ HZ HZ ?_
    refine Gi bxA memB ?_
    refine Gm (i := 17) Ja HZ HZ (fun _ => ?_)
    refine Gx HZ HZ HZ HZ ?_
    refine GC HZ ?_
    refine Gq Ja ?_
    exact HH srA (by first | exact Sub.drop.trans (Gh (mem1 memA (fun x hx => by repeat (first | exact hx | refine List.mem_cons_of_mem _ ?_)))) | exact Sub.drop1.trans (Gh (mem1 memA (fun x hx => by repeat (first | exact hx | refine List.mem_cons_of_mem _ ?_))))) (key (b16, a70, k70, c70))
   refine qs 14 ?_
   obtain rfl : j = T[n].words.length := by omega
   exact Gk (q + 1, (ou, mq), (a8, k8, c8)) ⟨by simp only; omega, by simp only; rw [outer_yes hqw hql hn hnl c44, ← hout]; exact hou, hlu, hpu⟩ (by simp only; omega) srA (Sub.drop.trans (Sub.drop.trans subF))
  refine qs 12 ?_
  obtain rfl : q = lev.length := by omega
  have hof := hlo.few
  refine GH (Gz (i := 0) HZ) ?_
  refine Ga (HV HZ HZ ?_)
  refine Ga (Gt HZ HZ (fun hl119 => ?_) (enc := eEn) (lst := out) (hm := memA))
  refine qs 4 ?_
  refine GB (fun (x : Nat × (Int → Option Bool)) => x.1 ≤ out.length ∧ seenP (seen ++ typs (out.take x.1)) x.2) (fun x => [(3, .map (some bs)), (9, .slice a9 k9 c9), (118, .slice a9 k9 c9), (119, .int .i64 out.length), (120, .int .i64 (x.1 : Int))]) (fun x => _ :: _ :: L.set is (Res.map bs vI Value.bool x.2)) (fun _ => _) (fun x => out.length - x.1) (0, m) ⟨Nat.zero_le _, by simpa [typs] using hm⟩ srA (Hk (by simp only [hL0]; rfl)) ?_
  rintro ⟨v, mv⟩ ⟨hv, hmv⟩
  simp only at hv hmv ⊢
  refine qs 2 ?_
  refine Ga (Gw HZ HZ HZ (fun c121 => ?_) (fun c121 => ?_))
  ·refine qs 10 ?_
   have hvl : v < out.length := by omega
   refine Ga (Gd HZ HZ HZ HZ (enc := eEn) (lst := out) memA hvl (fun _ _ => ?_))
   refine Ga (GN HZ HZ ?_)
   intro a123 k123 z123
   refine Ga (Gj HZ (fun b21 => ?_))
   refine qs 7 ?_
   refine Ga (Hu (kenc := vI) (venc := Value.bool) (m := mv) (i := is + 3) out[v].typ true HZ HZ HZ (show (L.set is (Res.map bs vI Value.bool mv))[is]? = _ from List.getElem?_set_self (HK hs)) ?_)
   refine GH (Hk (show _ = _ :: _ :: _ :: L.set is (Res.map bs vI Value.bool (upd mv out[v].typ true)) from by show _ :: _ :: _ :: (L.set is _).set is _ = _; rw [List.set_set])) ?_
   refine qs 7 ?_
   exact Gk (v + 1, upd mv out[v].typ true) ⟨by simp only; omega, by
    have := seen_new hmv out[v].typ
    rwa [List.append_assoc, show typs (out.take v) ++ [out[v].typ] = typs (out.take (v + 1)) by unfold typs; rw [List.take_succ_eq_append_getElem hvl, List.map_append]; rfl] at this⟩ (by simp only; omega) srA (Sub.drop.trans subF)
  refine qs 16 ?_
  obtain rfl : v = out.length := by omega
  rw [List.take_length] at hmv
  have hnx : nextL T lev ws seen = out := hout.symm
  rw [hnx] at h
  exact Gb (L' := L.set is (Res.map bs vI Value.bool mv)) (F' := fEn out a9 k9 c9 :: F) Tryz.results152 rfl (Sub.drop.trans (Sub.drop.trans (Gh (mem1 memA (fun x hx => by repeat (first | exact hx | refine List.mem_cons_of_mem _ ?_)))))) (h mv a9 k9 c9 hmv)
end
end Go.Sy
namespace Go.Sy
open Go Go.Proofs Go.RowKit
theorem cmp_in {N : List Nmd} {B : List Int} {T : List Ty} {A : List Int} {i : Int} (h : i ∈ A) : ∀ f, cmpR N B f (T, A) i = .ok (some (T, A))
  | 0 => rfl
  | _ + 1 => cmp_asked h
theorem allR_map {σ α β : Type} (f : σ → β → Except Int (Option σ)) (g : α → β) : ∀ (l : List α) (s : σ), allR (fun s x => f s (g x)) l s = allR f (l.map g) s
  | [], s => rfl
  | x :: l, s => by
    simp only [allR, List.map_cons]
    cases f s (g x) with
    | error e => rfl
    | ok o =>
      cases o with
      | none => rfl
      | some s' => exact allR_map f g l s'
theorem seen_put {l : List Int} {m : Int → Option Bool} (h : seenP l m) (i : Int) : seenP (i :: l) (upd m i true) := fun t => by
  by_cases c : t = i
  · subst c; rw [upd_self]; simp
  rw [upd_ne _ c, h t]; simp [c]
theorem CmpI.put {N : List Nmd} {T0 T T1 : List Ty} {A : List Int} {n : Nat} {i : Int} (h : CmpI N T0 n (T, A)) (u1 : rightU T1 N) (u2 : T <+: T1) (h0 : 0 ≤ i) (hi : i < T.length) (c : i ∉ A) : CmpI N T0 (n + 1) (T1, i :: A) := by
  have hl := u2.length_le
  exact ⟨u1, h.pre.trans u2, List.nodup_cons.2 ⟨c, h.once⟩, fun x hx => by
    rcases List.mem_cons.1 hx with e | hx
    · subst e; exact ⟨h0, by simp only; omega⟩
    have := h.there x hx
    simp only at this ⊢; omega, by have := h.many; simp only [List.length_cons] at this ⊢; omega⟩
theorem CmpI.low {N : List Nmd} {T0 T1 : List Ty} {n : Nat} {s : List Ty × List Int} (h : CmpI N T0 n s) (hp : T1 <+: s.1) : CmpI N T1 n s := ⟨h.right, hp, h.once, h.there, h.many⟩
attribute [local irreducible] AC AT AO AK AH ACalls Sub Res.cells Res.obj Res.nix Res.own Res.map Exit.then Exit.inBlock bodyPost Code.wp Code.wpIn WL Next Post Kont
section
variable {W0 : World}
set_option maxRecDepth 100000
set_option maxHeartbeats 16000000
theorem cmp1_c {L : List Res} {F : List Fact} {R : Value → List Res → List Fact → Prop} (x : Tm) {b2 ba i2 : Nat} (H2 : L[i2]? = some (Res.cells b2 #[.pointer (some ⟨ba, 0, none⟩)] 111))
    (hc : ∀ (r : Res) {R2 : Value → List Res → List Fact → Prop}, (∀ b L' F', R (.bool b) L' F' → R2 (.bool b) (r :: L') F') → ACalls Tryz.prog W0 76 #[.pointer (some ⟨ba, 0, none⟩), .int .i64 x.2] (r :: L) F R2) :
    ACalls Tryz.prog W0 133 #[vTm x, .pointer (some ⟨b2, 0, none⟩)] L F R := by
  refine Gg Tryz.func133 HZ Tryz.ntmps133 HZ ?_
  refine qs 2 ?_
  refine Ga (GL HZ HZ (fun b2 => ?_))
  refine qs 5 ?_
  refine Ga (Gy HZ HZ ?_ (i := i2 + 1) (hi := H2) (hv := HZ))
  refine qs 2 ?_
  refine Ga (Ge HZ HZ (hc _ (fun b L' F' hr => ?_)))
  refine qs 4 ?_
  exact Gb (L' := L') (F' := F') Tryz.results133 rfl Gv hr
theorem tcompares_c (g : Glob W0) (N : List Nmd) (hno : ∀ n ∈ N, NmOk n) (B : List Int) {a2 a3 : Option Addr} {k2 c2 k3 c3 : Nat} : ∀ (f : Nat) (Lf : List Value → (Int → Option Bool) → List Res) {ba bm ia im : Nat} (_ : ∀ w m, (Lf w m)[ia]? = some (Res.cells ba w.toArray 140)) (_ : ∀ w m, (Lf w m)[im]? = some (Res.map bm vI Value.bool m)) (_ : ∀ w m w', (Lf w m).set ia (Res.cells ba w'.toArray 140) = Lf w' m) (_ : ∀ w m m', (Lf w m).set im (Res.map bm vI Value.bool m') = Lf w m')
    (n : Nat) (_ : 400 ≤ f + n) (T0 T : List Ty) (A : List Int) (_ : CmpI N T0 n (T, A)) (_ : bndP T B) (i : Int) (_ : 0 ≤ i) (_ : i < T.length) (m : Int → Option Bool) (_ : seenP A m) {a : Option Addr} {k c : Nat} {F : List Fact} {R : Value → List Res → List Fact → Prop} (_ : fL T a k c ∈ F) (_ : fN N a2 k2 c2 ∈ F) (_ : fI B a3 k3 c3 ∈ F) (_ : Fact.slc (.slice none 0 0) 5 [] ∈ F)
    (_ : ∀ T' A' m' a k c, cmpR N B f (T, A) i = .ok (some (T', A')) → seenP A' m' → R (.bool true) (Lf (aCells a k c a2 k2 c2 a3 k3 c3 bm 0) m') (fL T' a k c :: F))
    (_ : ∀ e m' a k c, badO (cmpR N B f (T, A) i) e → R (.bool false) (Lf (aCells a k c a2 k2 c2 a3 k3 c3 bm e) m') F),
    ACalls Tryz.prog W0 76 #[.pointer (some ⟨ba, 0, none⟩), .int .i64 i] (Lf (aCells a k c a2 k2 c2 a3 k3 c3 bm 0) m) F R := by
  intro f
  induction f using Nat.strongRecOn with
  | _ f ih =>
  intro Lf ba bm ia im HA HM SA SM n hf T0 T A hI hB i h0 hi m hm a k c F R mL mN mB mE hO hN
  refine Gg Tryz.func76 HZ Tryz.ntmps76 HZ ?_
  refine qs 2 ?_
  refine Ga (GL HZ HZ (fun b2 => ?_))
  refine qs 7 ?_
  refine Ga (GF HZ HZ ?_)
  refine qs 1 ?_
  refine Ga (Gy (cs := aCells a k c a2 k2 c2 a3 k3 c3 bm 0) HZ HZ ?_ (i := ia + 1) (hi := HA _ _) (hv := HZ))
  refine qs 1 ?_
  refine Ga (AO.lookupB (kenc := vI) (m := m) (i := im + 1) i HZ HZ HZ (HM _ _) (fun hse => ?_) (fun hse => ?_))
  ·refine qs 10 ?_
   exact Gb (L' := Lf (aCells a k c a2 k2 c2 a3 k3 c3 bm 0) m) (F' := fL T a k c :: F) Tryz.results76 rfl (Sub.drop.trans (Gh (mem1 memA (fun x hx => by repeat (first | exact hx | refine List.mem_cons_of_mem _ ?_))))) (hO T A m a k c (cmp_in ((hm i).1 hse) f) hm)
  refine qs 8 ?_
  refine Ga (GF HZ HZ ?_)
  refine qs 1 ?_
  have hiA : i ∉ A := fun h => hse ((hm i).2 h)
  obtain ⟨f, rfl⟩ : ∃ f', f = f' + 1 := ⟨f - 1, by
   have : ¬ 400 ≤ n := fun h => hiA (hI.fuel h h0 hi)
   omega⟩
  refine Ga (Gy (cs := aCells a k c a2 k2 c2 a3 k3 c3 bm 0) HZ HZ ?_ (i := ia + 1) (hi := HA _ _) (hv := HZ))
  refine qs 1 ?_
  refine Ga (Hu (kenc := vI) (venc := Value.bool) (m := m) (i := im + 1) i true HZ HZ HZ (HM _ _) ?_)
  refine AL.weak (SubR.refl _) (Hk (show _ = _ :: Lf _ (upd m i true) from congrArg (_ :: ·) (SM _ _ _))) ?_
  refine qs 6 ?_
  refine Ga (Ge HZ HZ (tunder_c g T N hno hI.right i h0 hi (ia := ia + 1) (HA _ _) mL mN mE (fun e he hud => ?_) (fun T1 q a22 k22 c22 hud => ?_)))
  ·refine qs 7 ?_
   refine Ga (GF HZ HZ ?_)
   refine qs 1 ?_
   refine GH (Hk (show _ = _ :: Lf (aCells a k c a2 k2 c2 a3 k3 c3 bm e) _ from congrArg (_ :: ·) (SA _ _ _))) ?_
   refine Ga (Gy (cs := aCells a k c a2 k2 c2 a3 k3 c3 bm e) HZ HZ ?_ (i := ia + 1) (hi := HA _ _) (hv := HZ))
   refine Ga (GG HZ HZ HZ (fun _ => ?_) (fun c27 => absurd c27 he))
   refine qs 10 ?_
   exact Gb (L' := Lf (aCells a k c a2 k2 c2 a3 k3 c3 bm e) (upd m i true)) (F' := F) Tryz.results76 rfl subA (hN e _ a k c (.inl ⟨he, cmp_err hiA hud⟩))
  refine qs 7 ?_
  refine Ga (GF HZ HZ ?_)
  refine qs 1 ?_
  refine GH (Hk (show _ = _ :: Lf (aCells a22 k22 c22 a2 k2 c2 a3 k3 c3 bm 0) _ from congrArg (_ :: ·) (SA _ _ _))) ?_
  obtain ⟨u1, u2, u3, u4⟩ := undR_ok hI.right h0 hi hud
  have hI1 := hI.put u1 u2 h0 hi hiA
  have hm1 := seen_put hm i
  have hB1 := hB.up u2
  refine Ga (Gy (cs := aCells a22 k22 c22 a2 k2 c2 a3 k3 c3 bm 0) HZ HZ ?_ (i := ia + 1) (hi := HA _ _) (hv := HZ))
  refine Ga (GG HZ HZ HZ (fun c27 => absurd HZ c27) (fun _ => ?_))
  refine qs 8 ?_
  refine Ga (GF HZ HZ ?_)
  refine qs 2 ?_
  refine Ga (Gy (cs := aCells a22 k22 c22 a2 k2 c2 a3 k3 c3 bm 0) HZ HZ ?_ (i := ia + 1) (hi := HA _ _) (hv := HZ))
  refine qs 1 ?_
  obtain ⟨hqn, hqe⟩ := GS u3 u4
  have hokq := Hj u1.1 _ (List.getElem_mem hqn)
  refine Ga (Gd (k := q.toNat) HZ HZ HZ Jb (enc := eTy) (lst := T1) (show fL T1 a22 k22 c22 ∈ _ from memA) hqn (fun _ _ => ?_))
  refine Ga (GN HZ HZ ?_)
  intro a35 k35 z35 d35 e35 f35
  refine Ga (Gj HZ (fun b6 => ?_))
  refine qs 14 ?_
  refine Ga (Gr HZ HZ HZ (fun c39 => ?_) (fun c39 => ?_))
  ·refine qs 15 ?_
   exact Gb (L' := Lf (aCells a22 k22 c22 a2 k2 c2 a3 k3 c3 bm 0) (upd m i true)) (F' := fL T1 a22 k22 c22 :: F) Tryz.results76 rfl (by repeat (first | exact Gh (mem1 memA (fun x hx => by repeat (first | exact hx | refine List.mem_cons_of_mem _ ?_))) | refine GI Gv ?_)) (hO T1 (i :: A) _ a22 k22 c22 (cmp_yes hiA hud (by rw [hqe]; omega)) hm1)
  refine qs 6 ?_
  refine Ga (Gr HZ HZ HZ (fun c40 => ?_) (fun c40 => ?_))
  ·refine qs 15 ?_
   exact Gb (L' := Lf (aCells a22 k22 c22 a2 k2 c2 a3 k3 c3 bm 0) (upd m i true)) (F' := fL T1 a22 k22 c22 :: F) Tryz.results76 rfl (by repeat (first | exact Gh (mem1 memA (fun x hx => by repeat (first | exact hx | refine List.mem_cons_of_mem _ ?_))) | refine GI Gv ?_)) (hO T1 (i :: A) _ a22 k22 c22 (cmp_yes hiA hud (by rw [hqe]; omega)) hm1)
  refine qs 5 ?_
  refine Ga (Gr HZ HZ HZ (fun c41 => ?_) (fun c41 => ?_))
  ·refine qs 12 ?_
   exact Gb (L' := Lf (aCells a22 k22 c22 a2 k2 c2 a3 k3 c3 bm 0) (upd m i true)) (F' := fL T1 a22 k22 c22 :: F) Tryz.results76 rfl (by repeat (first | exact Gh (mem1 memA (fun x hx => by repeat (first | exact hx | refine List.mem_cons_of_mem _ ?_))) | refine GI Gv ?_)) (hO T1 (i :: A) _ a22 k22 c22 (cmp_yes hiA hud (by rw [hqe]; omega)) hm1)
  refine qs 7 ?_
  refine Ga (Gr HZ HZ HZ (fun c43 => ?_) (fun c43 => ?_))
  ·refine qs 13 ?_
   refine Ga (AO.makeFuncB (us := [.pointer (some ⟨ba, 0, none⟩)]) (vs := []) HZ HZ HZ ?_)
   have hkin := kids_there u1.1 u3 u4
   rw [hqe] at hkin
   have hal := cmp_all (B := B) (f := f) hiA hud (by rw [hqe]; omega)
   rw [hqe] at hal
   refine Ga (Ge HZ HZ (Hm (Gh (F' := fL T1 a22 k22 c22 :: fK T1[q.toNat] d35 e35 f35 :: F) (mem2 memA memA (fun x hx => by repeat (first | exact hx | refine List.mem_cons_of_mem _ ?_)))) (tallI_c (σ := List Ty × List Int) (μ := (Int → Option Bool) × Option Addr × Nat × Nat) (cmpR N B f) T1[q.toNat].kids (by have := hokq.kids; omega) (fun s x => CmpI N T1 (n + 1) s ∧ seenP s.2 x.1) (fun x e => _ :: _ :: Lf (aCells x.2.1 x.2.2.1 x.2.2.2 a2 k2 c2 a3 k3 c3 bm e) x.1) (fun s x => fL s.1 x.2.1 x.2.2.1 x.2.2.2 :: fK T1[q.toNat] d35 e35 f35 :: F) F (fun x e => aCells x.2.1 x.2.2.1 x.2.2.2 a2 k2 c2 a3 k3 c3 bm e) (ia := ia + 2) (fun x e => HA _ _) (fun x e => rfl) (fun s x => .tail _ (.head _)) (fi := [.pointer (some ⟨ba, 0, none⟩)]) (cs := [])
   (fun A' q' hq' s x R' hIx hy hn => ACalls.out (R' := fun v L' F' => ∃ F'', Sub L' F' L' F'' ∧ R' v L' F'') (ih f Jb (fun w m => A' ++ (_ :: _ :: Lf w m)) (ia := A'.length + (ia + 2)) (im := A'.length + (im + 2)) (fun w m => (getP _).trans (HA w m)) (fun w m => (getP _).trans (HM w m)) (fun w m w' => (setP _ _).trans (congrArg (fun z => A' ++ (_ :: _ :: z)) (SA w m w'))) (fun w m m' => (setP _ _).trans (congrArg (fun z => A' ++ (_ :: _ :: z)) (SM w m m'))) (n + 1) Jb T1 s.1 s.2 hIx.1 (hB1.up hIx.1.pre) _ (hkin _ (List.getElem_mem hq')).1 (by have := (hkin _ (List.getElem_mem hq')).2; have := hIx.1.pre.length_le; omega) x.1 hIx.2 (.head _) (.tail _ (.tail _ mN)) (.tail _ (.tail _ mB)) (.tail _ (.tail _ mE)) (fun T' A2 m' a k c hx2 hs2 => ⟨_, Gh (mem1 (.head _) (fun z hz => .tail _ (.tail _ hz))), hy (T', A2) (m', a, k, c) hx2 ⟨(cmpR_ok f (n + 1) s _ _ hIx.1 (hB1.up hIx.1.pre) (hkin _ (List.getElem_mem hq')).1 (by have := (hkin _ (List.getElem_mem hq')).2; have := hIx.1.pre.length_le; omega) hx2).1, hs2⟩⟩) (fun e m' a k c hb => ⟨F, Gh (fun z hz => .tail _ (.tail _ hz)), hn e (m', a, k, c) hb⟩)) (fun v L' F' ⟨F'', h1, h2⟩ => ⟨L', F'', h1, h2⟩))
   (T1, i :: A) (upd m i true, a22, k22, c22) ⟨hI1.low List.prefix_rfl, hm1⟩ (fun s x hx2 hs2 => ?_) (fun e x hb => ?_))))
   ·refine qs 6 ?_
    exact Gb (L' := Lf (aCells x.2.1 x.2.2.1 x.2.2.2 a2 k2 c2 a3 k3 c3 bm 0) x.1) (F' := fL s.1 x.2.1 x.2.2.1 x.2.2.2 :: F) Tryz.results76 rfl (by repeat (first | exact Gh (mem1 memA (fun x hx => by repeat (first | exact hx | refine List.mem_cons_of_mem _ ?_))) | refine GI Gv ?_)) (hO s.1 s.2 x.1 _ _ _ (hal.trans hx2) hs2.2)
   refine qs 6 ?_
   exact Gb (L' := Lf (aCells x.2.1 x.2.2.1 x.2.2.2 a2 k2 c2 a3 k3 c3 bm e) x.1) (F' := F) Tryz.results76 rfl subA (hN e x.1 _ _ _ (by rw [hal]; exact hb))
  refine qs 5 ?_
  refine Ga (Gr HZ HZ HZ (fun c44 => ?_) (fun c44 => ?_))
  ·refine qs 10 ?_
   refine Ga (AO.makeFuncB (us := [.pointer (some ⟨ba, 0, none⟩)]) (vs := []) HZ HZ HZ ?_)
   have hkin := kids_there u1.1 u3 u4
   rw [hqe] at hkin
   have hal := cmp_all (B := B) (f := f) hiA hud (by rw [hqe]; omega)
   rw [hqe] at hal
   refine Ga (Ge HZ HZ (Hm (Gh (F' := fL T1 a22 k22 c22 :: fK T1[q.toNat] d35 e35 f35 :: F) (mem2 memA memA (fun x hx => by repeat (first | exact hx | refine List.mem_cons_of_mem _ ?_)))) (tallI_c (σ := List Ty × List Int) (μ := (Int → Option Bool) × Option Addr × Nat × Nat) (cmpR N B f) T1[q.toNat].kids (by have := hokq.kids; omega) (fun s x => CmpI N T1 (n + 1) s ∧ seenP s.2 x.1) (fun x e => _ :: _ :: Lf (aCells x.2.1 x.2.2.1 x.2.2.2 a2 k2 c2 a3 k3 c3 bm e) x.1) (fun s x => fL s.1 x.2.1 x.2.2.1 x.2.2.2 :: fK T1[q.toNat] d35 e35 f35 :: F) F (fun x e => aCells x.2.1 x.2.2.1 x.2.2.2 a2 k2 c2 a3 k3 c3 bm e) (ia := ia + 2) (fun x e => HA _ _) (fun x e => rfl) (fun s x => .tail _ (.head _)) (fi := [.pointer (some ⟨ba, 0, none⟩)]) (cs := [])
   (fun A' q' hq' s x R' hIx hy hn => ACalls.out (R' := fun v L' F' => ∃ F'', Sub L' F' L' F'' ∧ R' v L' F'') (ih f Jb (fun w m => A' ++ (_ :: _ :: Lf w m)) (ia := A'.length + (ia + 2)) (im := A'.length + (im + 2)) (fun w m => (getP _).trans (HA w m)) (fun w m => (getP _).trans (HM w m)) (fun w m w' => (setP _ _).trans (congrArg (fun z => A' ++ (_ :: _ :: z)) (SA w m w'))) (fun w m m' => (setP _ _).trans (congrArg (fun z => A' ++ (_ :: _ :: z)) (SM w m m'))) (n + 1) Jb T1 s.1 s.2 hIx.1 (hB1.up hIx.1.pre) _ (hkin _ (List.getElem_mem hq')).1 (by have := (hkin _ (List.getElem_mem hq')).2; have := hIx.1.pre.length_le; omega) x.1 hIx.2 (.head _) (.tail _ (.tail _ mN)) (.tail _ (.tail _ mB)) (.tail _ (.tail _ mE)) (fun T' A2 m' a k c hx2 hs2 => ⟨_, Gh (mem1 (.head _) (fun z hz => .tail _ (.tail _ hz))), hy (T', A2) (m', a, k, c) hx2 ⟨(cmpR_ok f (n + 1) s _ _ hIx.1 (hB1.up hIx.1.pre) (hkin _ (List.getElem_mem hq')).1 (by have := (hkin _ (List.getElem_mem hq')).2; have := hIx.1.pre.length_le; omega) hx2).1, hs2⟩⟩) (fun e m' a k c hb => ⟨F, Gh (fun z hz => .tail _ (.tail _ hz)), hn e (m', a, k, c) hb⟩)) (fun v L' F' ⟨F'', h1, h2⟩ => ⟨L', F'', h1, h2⟩))
   (T1, i :: A) (upd m i true, a22, k22, c22) ⟨hI1.low List.prefix_rfl, hm1⟩ (fun s x hx2 hs2 => ?_) (fun e x hb => ?_))))
   ·refine qs 6 ?_
    exact Gb (L' := Lf (aCells x.2.1 x.2.2.1 x.2.2.2 a2 k2 c2 a3 k3 c3 bm 0) x.1) (F' := fL s.1 x.2.1 x.2.2.1 x.2.2.2 :: F) Tryz.results76 rfl (by repeat (first | exact Gh (mem1 memA (fun x hx => by repeat (first | exact hx | refine List.mem_cons_of_mem _ ?_))) | refine GI Gv ?_)) (hO s.1 s.2 x.1 _ _ _ (hal.trans hx2) hs2.2)
   refine qs 6 ?_
   exact Gb (L' := Lf (aCells x.2.1 x.2.2.1 x.2.2.2 a2 k2 c2 a3 k3 c3 bm e) x.1) (F' := F) Tryz.results76 rfl subA (hN e x.1 _ _ _ (by rw [hal]; exact hb))
  refine qs 6 ?_
  refine Ga (Gr HZ HZ HZ (fun c52 => ?_) (fun c52 => ?_))
  ·refine qs 8 ?_
   have h9 : (tyAt T1 q).kind = 9 := by rw [hqe]; exact c52
   have hpn := param_n u1.1 u3 u4 h9
   rw [hqe] at hpn
   refine Ga (Ge HZ HZ (tbound_c T1 B hB1 T1[q.toNat] hpn.1 (ia := ia + 2) (HA _ _) (show fL T1 a22 k22 c22 ∈ _ from memA) (show fI B a3 k3 c3 ∈ _ from memA) (fun b a5 k5 c5 a6 k6 c6 hb => ?_) (fun hb => ?_)))
   ·refine qs 3 ?_
    refine Ga (Gj HZ (fun b7 => ?_))
    refine qs 18 ?_
    have hbn := cmp_bnd (f := f) hiA hud h9 (b := b) (by rw [hqe]; exact hb)
    obtain ⟨kb, _, kb0, kb1, hbe, hb7, _⟩ := bound_is hB1 hpn.1 hb
    obtain ⟨hkb, hke⟩ := GS kb0 kb1
    have hif := iface_n u1.1 kb0 kb1 (by rw [← hbe]; exact hb7)
    have htm := trm_there u1.1 kb0 kb1 (by rw [← hbe]; exact hb7)
    have hokb := Hj u1.1 _ (List.getElem_mem hkb)
    rw [← hke, ← hbe] at hokb
    rw [← hbe] at hif htm
    refine Ga (AO.and1 HZ HZ hif.1 hif.2.1 HZ ?_)
    refine Ga (Gr HZ HZ HZ (fun c66 => ?_) (fun c66 => ?_))
    ·refine qs 14 ?_
     exact Gb (L' := Lf (aCells a22 k22 c22 a2 k2 c2 a3 k3 c3 bm 0) (upd m i true)) (F' := fL T1 a22 k22 c22 :: F) Tryz.results76 rfl (by repeat (first | exact Gh (mem1 memA (fun x hx => by repeat (first | exact hx | refine List.mem_cons_of_mem _ ?_))) | refine GI Gv ?_)) (hO T1 (i :: A) _ a22 k22 c22 (by rw [hbn, if_pos c66]) hm1)
    refine qs 8 ?_
    refine GP (fun _ => false) [(b7, _, _), (b2, _, _)] bxA HZ (fun hx hX => ?_)
    refine qt [0] ?_
    refine Gm (i := 1) Ja HZ HZ (fun _ => ?_)
    refine Ge HZ HZ (trestricts_c b (fun c68 => ?_) (fun c68 => ?_))
    all_goals refine Gi bxA memB ?_
    ·refine qt [2, 3, 4] ?_
     refine GD (i := 6) HZ (Y.makeFunc HZ) Ja HZ HZ ?_
     refine Gm (i := 5) Ja HZ HZ (fun _ => ?_)
     refine Ge HZ HZ (tterms_c b hokb.words (Nat.le_of_eq hif.2.2) (show fW b a5 k5 c5 ∈ _ from memA) (show fK b a6 k6 c6 ∈ _ from memA) (fun a72 k72 c72 => ?_))
     refine Gi bxA memB ?_
     refine Gm (i := 7) Ja HZ HZ (fun _ => ?_)
     have hal : cmpR N B (f + 1) (T, A) i = allR (fun s x => cmpR N B f s x.2) (trmL b) (T1, i :: A) := by rw [hbn, if_neg c66, if_pos c68]; exact (allR_map (cmpR N B f) (·.2) (trmL b) _).symm
     have hwl := trmN_len b b.words.length
     refine Ge HZ HZ (Hm (Gh (F' := fL T1 a22 k22 c22 :: fTm (trmL b) a72 k72 c72 :: Fact.held hx :: F) (mem2 memA memA (mem1 memA (fun x hx => by repeat (first | exact hx | refine List.mem_cons_of_mem _ ?_))))) (tallT_c (σ := List Ty × List Int) (μ := (Int → Option Bool) × Option Addr × Nat × Nat) (fun s x => cmpR N B f s x.2) (trmL b) (by have := hokb.words; unfold trmL; omega) (fun s x => CmpI N T1 (n + 1) s ∧ seenP s.2 x.1) (fun x e => _ :: _ :: _ :: Lf (aCells x.2.1 x.2.2.1 x.2.2.2 a2 k2 c2 a3 k3 c3 bm e) x.1) (fun s x => fL s.1 x.2.1 x.2.2.1 x.2.2.2 :: fTm (trmL b) a72 k72 c72 :: Fact.held hx :: F) (Fact.held hx :: F) (fun x e => aCells x.2.1 x.2.2.1 x.2.2.2 a2 k2 c2 a3 k3 c3 bm e) (ia := ia + 3) (fun x e => HA _ _) (fun x e => rfl) (fun s x => .tail _ (.head _)) (cs := [.pointer (some ⟨b2, 0, none⟩)])
     (fun A' q' hq' s x R' hIx hy hn => cmp1_c _ (i2 := A'.length + 2) ((getP _).trans rfl) (fun r R2 hh => ACalls.out (R' := fun v L' F' => ∃ F'', Sub L' F' L' F'' ∧ R2 v L' F'') (ih f Jb (fun w m => r :: (A' ++ (_ :: _ :: _ :: Lf w m))) (ia := A'.length + (ia + 3) + 1) (im := A'.length + (im + 3) + 1) (fun w m => (getP _).trans (HA w m)) (fun w m => (getP _).trans (HM w m)) (fun w m w' => congrArg (r :: ·) ((setP _ _).trans (congrArg (fun z => A' ++ (_ :: _ :: _ :: z)) (SA w m w')))) (fun w m m' => congrArg (r :: ·) ((setP _ _).trans (congrArg (fun z => A' ++ (_ :: _ :: _ :: z)) (SM w m m')))) (n + 1) Jb T1 s.1 s.2 hIx.1 (hB1.up hIx.1.pre) _ (htm _ (List.getElem_mem hq')).1 (by have := (htm _ (List.getElem_mem hq')).2; have := hIx.1.pre.length_le; omega) x.1 hIx.2 (.head _) (.tail _ (.tail _ (.tail _ mN))) (.tail _ (.tail _ (.tail _ mB))) (.tail _ (.tail _ (.tail _ mE))) (fun T' A2 m' a k c hx2 hs2 => ⟨_, Gh (mem1 (.head _) (fun z hz => .tail _ (.tail _ hz))), hh _ _ _ (hy (T', A2) (m', a, k, c) hx2 ⟨(cmpR_ok f (n + 1) s _ _ hIx.1 (hB1.up hIx.1.pre) (htm _ (List.getElem_mem hq')).1 (by have := (htm _ (List.getElem_mem hq')).2; have := hIx.1.pre.length_le; omega) hx2).1, hs2⟩)⟩) (fun e m' a k c hb => ⟨_, Gh (fun z hz => .tail _ (.tail _ hz)), hh _ _ _ (hn e (m', a, k, c) hb)⟩)) (fun v L' F' ⟨F'', h1, h2⟩ => ⟨L', F'', h1, h2⟩)))
     (T1, i :: A) (upd m i true, a22, k22, c22) ⟨hI1.low List.prefix_rfl, hm1⟩ (fun s x hx2 hs2 => ?_) (fun e x hb2 => ?_)))
     all_goals refine Gi bxA memB ?_
     ·refine qt [8, 9] ?_
      refine Gq Ja ?_
      refine qs 4 ?_
      exact Gb (L' := Lf (aCells x.2.1 x.2.2.1 x.2.2.2 a2 k2 c2 a3 k3 c3 bm 0) x.1) (F' := fL s.1 x.2.1 x.2.2.1 x.2.2.2 :: F) Tryz.results76 rfl (by repeat (first | exact Gh (mem1 memA (fun x hx => by repeat (first | exact hx | refine List.mem_cons_of_mem _ ?_))) | refine GI Gv ?_)) (hO s.1 s.2 x.1 _ _ _ (hal.trans hx2) hs2.2)
     refine qt [8, 9] ?_
     refine Gq Ja ?_
     refine qs 4 ?_
     exact Gb (L' := Lf (aCells x.2.1 x.2.2.1 x.2.2.2 a2 k2 c2 a3 k3 c3 bm e) x.1) (F' := F) Tryz.results76 rfl subA (hN e x.1 _ _ _ (by rw [hal]; exact hb2))
    refine qt [2, 3, 4, 6, 5, 7, 8, 9] ?_
    refine Gq Ja ?_
    refine qs 4 ?_
    exact Gb (L' := Lf (aCells a22 k22 c22 a2 k2 c2 a3 k3 c3 bm 0) (upd m i true)) (F' := F) Tryz.results76 rfl subA (hN 0 _ a22 k22 c22 (.inr ⟨rfl, by rw [hbn, if_neg c66, if_neg c68]⟩))
   refine qs 3 ?_
   refine Ga (Gj HZ (fun b7 => ?_))
   refine qs 24 ?_
   exact Gb (L' := Lf (aCells a22 k22 c22 a2 k2 c2 a3 k3 c3 bm 0) (upd m i true)) (F' := F) Tryz.results76 rfl subA (hN 0 _ a22 k22 c22 (.inr ⟨rfl, cmp_no hiA hud (by rw [hqe]; omega) (by rw [hqe]; omega) (by rw [hqe]; exact hb)⟩))
  refine qs 13 ?_
  exact Gb (L' := Lf (aCells a22 k22 c22 a2 k2 c2 a3 k3 c3 bm 0) (upd m i true)) (F' := F) Tryz.results76 rfl subA (hN 0 _ a22 k22 c22 (.inr ⟨rfl, cmp_no hiA hud (by rw [hqe]; omega) (by rw [hqe]; omega) (by rw [hqe]; unfold boundR; rw [if_neg (fun h => c52 h.1)])⟩))
end
end Go.Sy
namespace Go.Sy
open Go Go.Proofs Go.RowKit
theorem runL_err {σ : Type} {N : List Nmd} {stp : σ → List Ty → List Ent → List Wht → σ} {go : σ → Bool} {n : Nat} {T : List Ty} {lev : List Ent} {seen : List Int} {s : σ} {e : Int} (h : looksR N T lev lev.length = .error e) : runL N stp go (n + 1) T lev seen s = (s, .error e) := by unfold runL; rw [h]
theorem runL_nil {σ : Type} {N : List Nmd} {stp : σ → List Ty → List Ent → List Wht → σ} {go : σ → Bool} {n : Nat} {T : List Ty} {seen : List Int} {s : σ} : runL N stp go (n + 1) T [] seen s = (s, .ok T) := rfl
theorem runL_stop {σ : Type} {N : List Nmd} {stp : σ → List Ty → List Ent → List Wht → σ} {go : σ → Bool} {n : Nat} {T T1 : List Ty} {lev : List Ent} {ws : List Wht} {seen : List Int} {s : σ} (h : looksR N T lev lev.length = .ok (T1, ws)) (hl : lev ≠ []) (hg : go (stp s T1 lev ws) = false) : runL N stp go (n + 1) T lev seen s = (stp s T1 lev ws, .ok T1) := by
  unfold runL; rw [h]; simp only; rw [if_neg hl, if_neg (by rw [hg]; decide)]
theorem runL_go {σ : Type} {N : List Nmd} {stp : σ → List Ty → List Ent → List Wht → σ} {go : σ → Bool} {n : Nat} {T T1 : List Ty} {lev : List Ent} {ws : List Wht} {seen : List Int} {s : σ} (h : looksR N T lev lev.length = .ok (T1, ws)) (hl : lev ≠ []) (hg : go (stp s T1 lev ws) = true) : runL N stp go (n + 1) T lev seen s = runL N stp go n T1 (nextL T1 lev ws seen) (seen ++ typs (nextL T1 lev ws seen)) (stp s T1 lev ws) := by
  conv => lhs; unfold runL
  rw [h]; simp only; rw [if_neg hl, if_pos hg]
theorem looks_err {N : List Nmd} {T o : List Ty} {lev : List Ent} {ws : List Wht} {q : Nat} (hq : q < lev.length) (h : looksR N T lev q = .ok (o, ws)) {e : Int} (he : lookR o N lev[q].typ = .error e) : looksR N T lev lev.length = .error e := by
  unfold looksR at h ⊢
  refine stepsN_bad h ?_ hq
  simp only
  rw [GK default hq, he]
theorem looks_ok {N : List Nmd} {T o o2 : List Ty} {lev : List Ent} {ws : List Wht} {wh : Wht} {q : Nat} (hq : q < lev.length) (h : looksR N T lev q = .ok (o, ws)) (he : lookR o N lev[q].typ = .ok (o2, wh)) : looksR N T lev (q + 1) = .ok (o2, ws ++ [wh]) := by
  unfold looksR at h ⊢
  rw [stepsN_ok h]
  simp only
  rw [GK default hq, he]
structure Hd1 (N : List Nmd) (T0 T : List Ty) (j : Nat) (lev : List Ent) : Prop where
  right : rightU T N
  pre : T0 <+: T
  lev : levP T j lev
attribute [local irreducible] AC AT AO AK AH ACalls Sub Res.cells Res.obj Res.nix Res.own Res.map Exit.then Exit.inBlock bodyPost Code.wp Code.wpIn WL Next Post Kont
section
variable {W0 : World} {L : List Res} {F : List Fact} {R : Value → List Res → List Fact → Prop}
set_option maxRecDepth 100000
set_option maxHeartbeats 16000000
theorem levels_c {bw : Nat} (i : Int) (h : ∀ b2 b3, R (.func (.func 149) #[] #[.pointer (some ⟨b2, 0, none⟩), .pointer (some ⟨b3, 0, none⟩)]) (Res.cells b3 #[.int .i64 i] 3 :: Res.cells b2 #[.pointer (some ⟨bw, 0, none⟩)] 145 :: L) F) :
    ACalls Tryz.prog W0 91 #[.pointer (some ⟨bw, 0, none⟩), .int .i64 i] L F R := by
  refine Gg Tryz.func91 HZ Tryz.ntmps91 HZ ?_
  refine qs 2 ?_
  refine Ga (GL HZ HZ (fun b2 => (Ga (GL HZ HZ (fun b3 => ?_)))))
  refine qs 5 ?_
  refine Ga (HO HZ HZ ?_)
  refine qs 4 ?_
  exact Gb Tryz.results91 rfl (Gf _ _) (h b2 b3)
theorem first2_c (g : Glob W0) (T : List Ty) (N : List Nmd) (hno : ∀ n ∈ N, NmOk n) (hu : rightU T N) (i : Int) (h0 : 0 ≤ i) (hi : i < T.length) {a a2 : Option Addr} {k c k2 c2 bw iw : Nat} (hw : L[iw]? = some (Res.cells bw #[.slice a k c, .slice a2 k2 c2, .int .i64 0] 147)) (mL : fL T a k c ∈ F) (mN : fN N a2 k2 c2 ∈ F) (mE : Fact.slc (.slice none 0 0) 5 [] ∈ F)
    (h : ∀ o bad lev a' k' c' a3 k3 c3, (bad ≠ 0 ∧ lev = [] ∧ o = T ∧ firstR T N i = .error bad) ∨ (bad = 0 ∧ firstR T N i = .ok (o, lev)) → R (.slice a3 k3 c3) (L.set iw (Res.cells bw #[.slice a' k' c', .slice a2 k2 c2, .int .i64 bad] 147)) (fL o a' k' c' :: fEn lev a3 k3 c3 :: F)) :
    ACalls Tryz.prog W0 150 #[.pointer (some ⟨bw, 0, none⟩), .int .i64 i] L F R := by
  have hs : Sub L F L (fL T a k c :: fEn [] none 0 0 :: F) := (Hr (sz := 4)).trans (Gh (mem1 memA (fun x hx => hx)))
  refine Hm hs (ACalls.out (R' := fun v L' F' => ∃ F'', Sub L' F' L' F'' ∧ R v L' F'') ?_ (fun v L' F' ⟨F'', h1, h2⟩ => ⟨L', F'', h1, h2⟩))
  refine first_c g T N hno hu i h0 hi hw memA memA memA (fun e he hx => ⟨_, Gf _ _, h T e [] a k c none 0 0 (.inl ⟨he, rfl, rfl, hx⟩)⟩) (fun o lev a' k' c' a3 k3 c3 hx => ⟨fL o a' k' c' :: fEn lev a3 k3 c3 :: F, Gh ?_, h o 0 lev a' k' c' a3 k3 c3 (.inr ⟨rfl, hx⟩)⟩)
  exact mem2 memA memA (fun x hx => List.mem_cons_of_mem _ (List.mem_cons_of_mem _ (List.mem_cons_of_mem _ (List.mem_cons_of_mem _ hx))))
theorem levels1_c {σ χ : Type} (g : Glob W0) (N : List Nmd) (hno : ∀ n ∈ N, NmOk n) (T0 : List Ty) (hu : rightU T0 N) (i : Int) (h0 : 0 ≤ i) (hi : i < T0.length)
    (stp : σ → List Ty → List Ent → List Wht → σ) (go : σ → Bool) (J : Nat → σ → Prop) (Lf : σ → χ → List Value → List Res) (s0 : σ) (x0 : χ) {b2 b3 bw i2 i3 iw l : Nat} {a a2 : Option Addr} {k c k2 c2 : Nat}
    (H2 : ∀ s x w, (Lf s x w)[i2]? = some (Res.cells b2 #[.pointer (some ⟨bw, 0, none⟩)] 145)) (H3 : ∀ s x w, (Lf s x w)[i3]? = some (Res.cells b3 #[.int .i64 i] 3))
    (Hw : ∀ s x w, (Lf s x w)[iw]? = some (Res.cells bw w.toArray 147)) (HS : ∀ s x w w', (Lf s x w).set iw (Res.cells bw w'.toArray 147) = Lf s x w')
    (hJ0 : J 0 s0) (hJ : ∀ n s T lev ws, J n s → n < 7 → rightU T N → levP T n lev → ws.length = lev.length → (∀ w ∈ ws, whP T w) → go (stp s T lev ws) = true → J (n + 1) (stp s T lev ws))
    (mL : fL T0 a k c ∈ F) (mN : fN N a2 k2 c2 ∈ F) (mE : Fact.slc (.slice none 0 0) 5 [] ∈ F) (mM : Fact.slc (.slice none 0 0) 3 [] ∈ F)
    (hy : ∀ n s x T a k c lev ws a3 k3 c3 a4 k4 c4 A F', J n s → n < 7 → rightU T N → levP T n lev → ws.length = lev.length → (∀ w ∈ ws, whP T w) → fL T a k c ∈ F' → fEn lev a3 k3 c3 ∈ F' → fWh ws a4 k4 c4 ∈ F' →
      AYields Tryz.prog W0 l #[.slice a3 k3 c3, .slice a4 k4 c4] (A ++ Lf s x (wCells a k c a2 k2 c2 0)) F' fun v L' F'' => ∃ x', v = .bool (go (stp s T lev ws)) ∧ L' = A ++ Lf (stp s T lev ws) x' (wCells a k c a2 k2 c2 0) ∧ F'' = F')
    (hR : ∀ s' x' T' e a k c, (e ≠ 0 ∧ levelsL N stp go T0 i s0 = (s', .error e)) ∨ (e = 0 ∧ levelsL N stp go T0 i s0 = (s', .ok T')) → R (.tuple #[]) (Lf s' x' (wCells a k c a2 k2 c2 e)) (fL T' a k c :: F)) :
    ACalls Tryz.prog W0 149 #[.func (.yield l) #[] #[], .pointer (some ⟨b2, 0, none⟩), .pointer (some ⟨b3, 0, none⟩)] (Lf s0 x0 (wCells a k c a2 k2 c2 0)) F R := by
  have hml : 1000000 ≤ maxLen := by decide
  refine Gg Tryz.func149 HZ Tryz.ntmps149 HZ ?_
  refine qs 2 ?_
  refine Ga (Gy HZ HZ ?_ (hi := H2 _ _ _) (hv := HZ))
  refine Ga (Gy HZ HZ ?_ (hi := H3 _ _ _) (hv := HZ))
  refine Ga (Ge HZ HZ (first2_c g T0 N hno hu i h0 hi (Hw s0 x0 (wCells a k c a2 k2 c2 0)) memA memA memA (fun T1 bad lev a1 k1 c1 a3 k3 c3 hf => ?_)))
  rw [HS s0 x0 _ (wCells a1 k1 c1 a2 k2 c2 bad)]
  have hlv : rightU T1 N ∧ T0 <+: T1 ∧ levP T1 0 lev := by
   rcases hf with ⟨_, rfl, rfl, _⟩ | ⟨_, hx⟩
   · exact ⟨hu, List.prefix_rfl, fun e he => absurd he (by simp), by simp [typs]⟩
   exact firstR_ok hu h0 hi hx
  have hstart : (bad = 0 ∧ levelsL N stp go T0 i s0 = runL N stp go 7 T1 lev (typs lev) s0) ∨ (bad ≠ 0 ∧ lev = [] ∧ levelsL N stp go T0 i s0 = (s0, .error bad)) := by
   rcases hf with ⟨h1, h2, _, hx⟩ | ⟨h1, hx⟩
   · exact .inr ⟨h1, h2, by unfold levelsL; rw [hx]⟩
   exact .inl ⟨h1, by unfold levelsL; rw [hx]⟩
  clear hf
  refine qs 5 ?_
  have hlf := hlv.2.2.few
  have hT4 := hlv.1.1.2.1
  refine Ga (AO.makeMap vI Value.bool HZ (fun b14 => ?_))
  refine qs 7 ?_
  refine Ga (Gt HZ HZ (fun hl16 => ?_) (enc := eEn) (lst := lev) (hm := memA))
  refine qs 4 ?_
  refine GB (fun (x : Nat × (Int → Option Bool)) => x.1 ≤ lev.length ∧ seenP (typs (lev.take x.1)) x.2) (fun x => [(0, .func (.yield l) #[] #[]), (1, .pointer (some ⟨b2, 0, none⟩)), (4, .slice a3 k3 c3), (5, .map (some b14)), (15, .slice a3 k3 c3), (16, .int .i64 lev.length), (17, .int .i64 (x.1 : Int))]) (fun x => Res.map b14 vI Value.bool x.2 :: _) (fun _ => _) (fun x => lev.length - x.1) (0, fun _ => none) ⟨Nat.zero_le _, by simpa [typs] using seen_nil⟩ srA (Gf _ _) ?_
  rintro ⟨v, mv⟩ ⟨hv, hmv⟩
  simp only at hv hmv ⊢
  refine qs 2 ?_
  refine Ga (Gw HZ HZ HZ (fun c18 => ?_) (fun c18 => ?_))
  ·refine qs 10 ?_
   have hvl : v < lev.length := by omega
   refine Ga (Gd HZ HZ HZ HZ (enc := eEn) (lst := lev) memA hvl (fun _ _ => ?_))
   refine Ga (GN HZ HZ ?_)
   intro a20 k20 z20
   refine Ga (Gj HZ (fun b7 => ?_))
   refine qs 7 ?_
   refine Ga (Hu (kenc := vI) (venc := Value.bool) (m := mv) (i := 1) lev[v].typ true HZ HZ HZ HZ ?_)
   refine qs 7 ?_
   exact Gk (v + 1, upd mv lev[v].typ true) ⟨by simp only; omega, by
    have := seen_new hmv lev[v].typ
    rwa [show typs (lev.take v) ++ [lev[v].typ] = typs (lev.take (v + 1)) by unfold typs; rw [List.take_succ_eq_append_getElem hvl, List.map_append]; rfl] at this⟩ (by simp only; omega) srA (Sub.drop.trans subF)
  refine qs 15 ?_
  obtain rfl : v = lev.length := by omega
  rw [List.take_length] at hmv
  refine GB (fun (x : Nat × ((σ × χ) × List Ty × Int) × (List Ent × List Int × (Int → Option Bool)) × (Option Addr × Nat × Nat) × (Option Addr × Nat × Nat)) => x.1 ≤ 7 ∧ Hd1 N T0 x.2.1.2.1 x.1 x.2.2.1.1 ∧ seenP x.2.2.1.2.1 x.2.2.1.2.2 ∧ J x.1 x.2.1.1.1 ∧ ((x.2.1.2.2 = 0 ∧ levelsL N stp go T0 i s0 = runL N stp go (7 - x.1) x.2.1.2.1 x.2.2.1.1 x.2.2.1.2.1 x.2.1.1.1) ∨ (x.2.1.2.2 ≠ 0 ∧ x.1 = 0 ∧ x.2.2.1.1 = [] ∧ levelsL N stp go T0 i s0 = (x.2.1.1.1, .error x.2.1.2.2)))) (fun x => [(0, .func (.yield l) #[] #[]), (1, .pointer (some ⟨b2, 0, none⟩)), (4, .slice x.2.2.2.2.1 x.2.2.2.2.2.1 x.2.2.2.2.2.2), (5, .map (some b14)), (25, .int .i64 (x.1 : Int))]) (fun x => Res.map b14 vI Value.bool x.2.2.1.2.2 :: Lf x.2.1.1.1 x.2.1.1.2 (wCells x.2.2.2.1.1 x.2.2.2.1.2.1 x.2.2.2.1.2.2 a2 k2 c2 x.2.1.2.2)) (fun x => fL x.2.1.2.1 x.2.2.2.1.1 x.2.2.2.1.2.1 x.2.2.2.1.2.2 :: fEn x.2.2.1.1 x.2.2.2.2.1 x.2.2.2.2.2.1 x.2.2.2.2.2.2 :: F) (fun x => 7 - x.1) (0, ((s0, x0), T1, bad), (lev, typs lev, mv), (a1, k1, c1), (a3, k3, c3)) ⟨Nat.zero_le _, ⟨hlv.1, hlv.2.1, hlv.2.2⟩, hmv, hJ0, by rcases hstart with h | ⟨h1, h2, h3⟩; exact .inl h; exact .inr ⟨h1, rfl, h2, h3⟩⟩ srA (Gh (mem2 memA memA (fun x hx => by repeat (first | exact hx | refine List.mem_cons_of_mem _ ?_)))) ?_
  clear hstart hlv hlf hT4 hmv hl16 hv
  rintro ⟨j, ⟨⟨s, xx⟩, T, bd⟩, ⟨le, seen, m⟩, ⟨a5, k5, c5⟩, ⟨a6, k6, c6⟩⟩ ⟨hj, hd, hm, hjs, hrel⟩
  simp only at hj hd hm hjs hrel ⊢
  refine qs 2 ?_
  refine Ga (Gw HZ HZ HZ (fun c26 => ?_) (fun c26 => ?_))
  ·refine qs 17 ?_
   have hlf := hd.lev.few
   have hT4 := hd.right.1.2.1
   have hj7 : j < 7 := by omega
   refine Ga (Gt HZ HZ (fun hl28 => ?_) (enc := eEn) (lst := le) (hm := memA))
   refine qs 4 ?_
   have herr : ∀ e, looksR N T le le.length = .error e → bd = 0 → levelsL N stp go T0 i s0 = (s, .error e) := fun e he hb => by
    rcases hrel with ⟨_, h⟩ | ⟨h, _⟩
    · rw [h, show 7 - j = (6 - j) + 1 by omega, runL_err he]
    exact absurd hb h
   refine GB (fun (x : Nat × (List Ty × Int × List Wht) × (Option Addr × Nat × Nat) × (Option Addr × Nat × Nat)) => x.1 ≤ le.length ∧ x.2.1.2.2.length ≤ x.1 ∧ ((x.2.1.2.1 = 0 ∧ bd = 0 ∧ looksR N T le x.1 = .ok (x.2.1.1, x.2.1.2.2)) ∨ (x.2.1.2.1 ≠ 0 ∧ levelsL N stp go T0 i s0 = (s, .error x.2.1.2.1)))) (fun x => [(0, .func (.yield l) #[] #[]), (1, .pointer (some ⟨b2, 0, none⟩)), (4, .slice a6 k6 c6), (5, .map (some b14)), (8, .slice x.2.2.2.1 x.2.2.2.2.1 x.2.2.2.2.2), (25, .int .i64 (j : Int)), (27, .slice a6 k6 c6), (28, .int .i64 le.length), (29, .int .i64 (x.1 : Int))]) (fun x => Res.own (.slice x.2.2.2.1 x.2.2.2.2.1 x.2.2.2.2.2) 154 2 (x.2.1.2.2.map eWh) :: Res.map b14 vI Value.bool m :: Lf s xx (wCells x.2.2.1.1 x.2.2.1.2.1 x.2.2.1.2.2 a2 k2 c2 x.2.1.2.1)) (fun x => fL x.2.1.1 x.2.2.1.1 x.2.2.1.2.1 x.2.2.1.2.2 :: fEn le a6 k6 c6 :: F) (fun x => le.length - x.1) (0, (T, bd, []), (a5, k5, c5), (none, 0, 0)) ⟨Nat.zero_le _, Nat.le_refl _, by simp only; rcases hrel with ⟨h1, h2⟩ | ⟨h1, _, _, h4⟩; exact .inl ⟨h1, h1, rfl⟩; exact .inr ⟨h1, h4⟩⟩ srA GZ ?_
   rintro ⟨q, ⟨o, be, ws⟩, ⟨a7, k7, c7⟩, ⟨a8, k8, c8⟩⟩ ⟨hq, hwl, hst⟩
   simp only at hq hwl hst ⊢
   refine qs 2 ?_
   refine Ga (Gw HZ HZ HZ (fun c30 => ?_) (fun c30 => ?_))
   ·refine qs 10 ?_
    have hql : q < le.length := by omega
    refine Ga (Gd HZ HZ HZ HZ (enc := eEn) (lst := le) memA hql (fun _ _ => ?_))
    refine Ga (GN HZ HZ ?_)
    intro a32 k32 z32
    refine Ga (Gj HZ (fun b10 => ?_))
    refine qs 5 ?_
    refine Ga (Gy HZ HZ ?_ (hi := hasS (hasS (hasS (H2 _ _ _)))) (hv := HZ))
    refine Ga (GF HZ HZ ?_)
    refine qs 1 ?_
    refine Ga (Gy (cs := wCells a7 k7 c7 a2 k2 c2 be) HZ HZ ?_ (hi := hasS (hasS (hasS (Hw _ _ _)))) (hv := HZ))
    refine Ga (Gr HZ HZ HZ (fun c37 => ?_) (fun c37 => ?_))
    ·refine qs 5 ?_
     refine Ga (Gy HZ HZ ?_ (hi := hasS (hasS (hasS (H2 _ _ _)))) (hv := HZ))
     refine qs 2 ?_
     obtain ⟨_, hb0, hlk⟩ : be = 0 ∧ bd = 0 ∧ looksR N T le q = .ok (o, ws) := by rcases hst with h | ⟨h, _⟩; exact h; exact absurd c37 h
     subst c37
     obtain ⟨hro, hpo, hlw, hww⟩ := looksR_ok hd.right hd.lev q hq o ws hlk
     have hle := (hd.lev.1 _ (List.getElem_mem hql)).1
     have hpl := hpo.length_le
     refine Ga (Ge HZ HZ (look_c g o N hno hro le[q].typ hle.1 Jb (hasS (hasS (hasS (Hw s xx (wCells a7 k7 c7 a2 k2 c2 0))))) memA memA memA memA (fun e he hx => ?_) (fun o2 wh a42 k42 c42 a43 k43 c43 hx => ?_)))
     ·refine GH (Hk (show _ = _ :: _ :: _ :: Lf s xx (wCells a7 k7 c7 a2 k2 c2 e) from by show _ :: _ :: _ :: (Lf s xx _).set iw _ = _; rw [HS])) ?_
      refine Ga (Gl HZ HZ HZ HZ HZ (fun b43 => ?_))
      refine Ga (GJ (i := 1) (enc := eWh) (lst := ws) [⟨0, []⟩] HZ HZ HZ HZ (.val (.slc .nil memA)) HZ HZ (fun _ => rfl) Jb Jb (fun a44 k44 c44 => ?_))
      refine qs 8 ?_
      exact Gk (q + 1, (o, e, ws ++ [⟨0, []⟩]), (a7, k7, c7), (a44, k44, c44)) ⟨by simp only; omega, by simp; omega, .inr ⟨he, herr e (looks_err hql hlk hx) hb0⟩⟩ (by simp only; omega) srA (Sub.drop.trans (Gh (mem2 memA memA (fun x hx => by repeat (first | exact hx | refine List.mem_cons_of_mem _ ?_)))))
     refine GH (Hk (show _ = _ :: _ :: _ :: Lf s xx (wCells a42 k42 c42 a2 k2 c2 0) from by show _ :: _ :: _ :: (Lf s xx _).set iw _ = _; rw [HS])) ?_
     refine Ga (Gl HZ HZ HZ HZ HZ (fun b43 => ?_))
     refine Ga (GJ (i := 1) (enc := eWh) (lst := ws) [wh] HZ HZ HZ HZ (.val (.slc .nil memA)) HZ HZ (fun _ => rfl) Jb Jb (fun a44 k44 c44 => ?_))
     refine qs 8 ?_
     exact Gk (q + 1, (o2, 0, ws ++ [wh]), (a42, k42, c42), (a44, k44, c44)) ⟨by simp only; omega, by simp; omega, .inl ⟨rfl, hb0, looks_ok hql hlk hx⟩⟩ (by simp only; omega) srA (Sub.drop.trans (Gh (mem2 memA memA (fun x hx => by repeat (first | exact hx | refine List.mem_cons_of_mem _ ?_)))))
    refine qs 10 ?_
    refine Gk (q + 1, (o, be, ws), (a7, k7, c7), (a8, k8, c8)) ⟨by simp only; omega, by simp only; omega, ?_⟩ (by simp only; omega) srA (Sub.drop.trans (Gh (mem2 memA memA (fun x hx => by repeat (first | exact hx | refine List.mem_cons_of_mem _ ?_)))))
    rcases hst with ⟨h, _⟩ | h
    · exact absurd h c37
    exact .inr h
   refine qs 12 ?_
   refine Ga (Gy HZ HZ ?_ (hi := hasS (hasS (H2 _ _ _))) (hv := HZ))
   refine Ga (GF HZ HZ ?_)
   refine qs 1 ?_
   refine Ga (Gy (cs := wCells a7 k7 c7 a2 k2 c2 be) HZ HZ ?_ (hi := hasS (hasS (Hw _ _ _))) (hv := HZ))
   obtain rfl : q = le.length := by omega
   refine Ga (GG HZ HZ HZ (fun c50 => ?_) (fun c50 => ?_))
   ·refine qs 21 ?_
    have hst2 : levelsL N stp go T0 i s0 = (s, .error be) := by rcases hst with ⟨h, _⟩ | ⟨_, h⟩; exact absurd h c50; exact h
    exact AK.ret0 (L' := Lf s xx (wCells a7 k7 c7 a2 k2 c2 be)) (F' := fL o a7 k7 c7 :: F) Tryz.results149 (Sub.drop.trans (Sub.drop.trans (Gh (mem1 memA (fun x hx => by repeat (first | exact hx | refine List.mem_cons_of_mem _ ?_)))))) (hR s xx o be a7 k7 c7 (.inl ⟨c50, hst2⟩))
   refine qs 2 ?_
   subst c50
   obtain ⟨_, hb0, hlk⟩ : (0 : Int) = 0 ∧ bd = 0 ∧ looksR N T le le.length = .ok (o, ws) := by rcases hst with h | ⟨h, _⟩; exact h; exact absurd rfl h
   obtain ⟨hro, hpo, hlw, hww⟩ := looksR_ok hd.right hd.lev _ (Nat.le_refl _) o ws hlk
   have hrun : levelsL N stp go T0 i s0 = runL N stp go (6 - j + 1) T le seen s := by
    rcases hrel with ⟨_, h⟩ | ⟨h, _⟩
    · rw [h, show 7 - j = (6 - j) + 1 by omega]
    exact absurd hb0 h
   refine Gc HZ HZ (Gt HZ HZ (fun hl53 => ?_) (enc := eEn) (lst := le) (hm := memA))
   refine Gc HZ HZ (Gr HZ HZ HZ (fun c54 => ?_) (fun c54 => ?_))
   ·refine qs 17 ?_
    have hle : le = [] := List.eq_nil_of_length_eq_zero Jb
    subst hle
    injection hlk with e1
    injection e1 with e1 e2
    subst e1
    exact AK.ret0 (L' := Lf s xx (wCells a7 k7 c7 a2 k2 c2 0)) (F' := fL T a7 k7 c7 :: F) Tryz.results149 (Sub.drop.trans (Sub.drop.trans (Gh (mem1 memA (fun x hx => by repeat (first | exact hx | refine List.mem_cons_of_mem _ ?_)))))) (hR s xx T 0 a7 k7 c7 (.inr ⟨rfl, by rw [hrun, runL_nil]⟩))
   refine qs 5 ?_
   have hle : le ≠ [] := fun e => by subst e; exact c54 rfl
   refine GH (Gz (i := 0) HZ) ?_
   refine Gc HZ HZ (AO.yield HZ HZ HZ ?_)
   refine AYields.mono (hy j s xx o a7 k7 c7 le ws a6 k6 c6 a8 k8 c8 [Res.nix, Res.map b14 vI Value.bool m] _ hjs hj7 hro (hd.lev.up hpo) hlw hww memA memA memA) (fun v9 L9 F9 h9 => ?_)
   obtain ⟨x9, rfl, rfl, rfl⟩ := h9
   rcases Bool.eq_false_or_eq_true (go (stp s o le ws)) with hgo | hgo
   all_goals rw [hgo]
   ·refine qs 8 ?_
    refine Ga (Gy HZ HZ ?_ (hi := hasS (hasS (H2 _ _ _))) (hv := HZ))
    refine qs 3 ?_
    refine Ga (Ge HZ HZ (next_c o hro.1 j Jb le ws (hd.lev.up hpo) hlw hww seen m hm (is := 1) (hasS (hasS (Hw (stp s o le ws) x9 (wCells a7 k7 c7 a2 k2 c2 0)))) HZ memA memA memA (fun m9 a67 k67 c67 hm9 => ?_)))
    refine qs 8 ?_
    exact Gk (j + 1, ((stp s o le ws, x9), o, 0), (nextL o le ws seen, seen ++ typs (nextL o le ws seen), m9), (a7, k7, c7), (a67, k67, c67)) ⟨by simp only; omega, ⟨hro, hd.pre.trans hpo, nextL_ok hro.1 (hd.lev.up hpo) hlw hww⟩, hm9, hJ j s o le ws hjs hj7 hro (hd.lev.up hpo) hlw hww hgo, .inl ⟨rfl, by rw [hrun, runL_go hlk hle hgo, show 6 - j = 7 - (j + 1) by omega]⟩⟩ (by simp only; omega) srA (Sub.drop.trans (Gh (mem2 memA memA (fun x hx => by repeat (first | exact hx | refine List.mem_cons_of_mem _ ?_)))))
   refine qs 11 ?_
   exact AK.ret0 (L' := Lf (stp s o le ws) x9 (wCells a7 k7 c7 a2 k2 c2 0)) (F' := fL o a7 k7 c7 :: F) Tryz.results149 (Sub.drop.trans (Sub.drop.trans (Gh (mem1 memA (fun x hx => by repeat (first | exact hx | refine List.mem_cons_of_mem _ ?_)))))) (hR (stp s o le ws) x9 o 0 a7 k7 c7 (.inr ⟨rfl, by rw [hrun, runL_stop hlk hle hgo]⟩))
  refine qs 8 ?_
  obtain rfl : j = 7 := by omega
  obtain ⟨hb0, hfin⟩ : bd = 0 ∧ levelsL N stp go T0 i s0 = (s, .ok T) := by
   rcases hrel with ⟨h1, h2⟩ | ⟨_, h, _⟩
   · exact ⟨h1, h2⟩
   omega
  subst hb0
  exact AK.end0 (L' := Lf s xx (wCells a5 k5 c5 a2 k2 c2 0)) (F' := fL T a5 k5 c5 :: F) Tryz.results149 (Sub.drop.trans (Gh (mem1 memA (fun x hx => by repeat (first | exact hx | refine List.mem_cons_of_mem _ ?_))))) (hR s xx T 0 a5 k5 c5 (.inr ⟨rfl, hfin⟩))
end
end Go.Sy
namespace Go.Sy
open Go Go.Proofs Go.RowKit
theorem wh_cells {hx : H} {b o : Nat} {w : Wht} (hat : AtR hx b o (eWh w)) : ∃ a1 k1 c1, (∀ (j : Nat) (v : Value), [Value.int .i64 w.under, .slice a1 k1 c1][j]? = some v → hx b (o + j) = some v) ∧ (fMs w.ms a1 k1 c1).holds hx := by
  obtain ⟨vs, fs, _, h1, h2, a1, k1, c1, rfl, rfl⟩ := absorb_of (eWh w) o hat (fun vs fs => ∃ a1 k1 c1, vs = [Value.int .i64 w.under, .slice a1 k1 c1] ∧ fs = [fMs w.ms a1 k1 c1]) (by
    intro a1 k1 c1
    exact ⟨a1, k1, c1, rfl, rfl⟩)
  exact ⟨a1, k1, c1, h1, h2 _ (by simp)⟩
theorem sl_cells {hx : H} {b o : Nat} {s : SelV} (hat : AtR hx b o (eSl s)) : ∃ a1 k1 c1, (∀ (j : Nat) (v : Value), [Value.bool s.method, .int .i64 s.typ, .bool s.ptr, .bool s.via, .slice a1 k1 c1][j]? = some v → hx b (o + j) = some v) ∧ (fI s.path a1 k1 c1).holds hx := by
  obtain ⟨vs, fs, _, h1, h2, a1, k1, c1, rfl, rfl⟩ := absorb_of (eSl s) o hat (fun vs fs => ∃ a1 k1 c1, vs = [Value.bool s.method, .int .i64 s.typ, .bool s.ptr, .bool s.via, .slice a1 k1 c1] ∧ fs = [fI s.path a1 k1 c1]) (by
    intro a1 k1 c1
    exact ⟨a1, k1, c1, rfl, rfl⟩)
  exact ⟨a1, k1, c1, h1, h2 _ (by simp)⟩
theorem found_step {T : List Ty} {lev : List Ent} {ws : List Wht} {s : List UInt8} {q : Nat} (hq : q < lev.length) (hw : q < ws.length) : foundN T lev ws s (q + 1) = foundN T lev ws s q ++ hadE T ws[q] lev[q] s := by
  simp only [foundN]; rw [GK default hw, GK default hq]
theorem tell_two {T : List Ty} {l : List SelV} (h : 1 < l.length) : tellF (l, .ok T) = .error 9 := by
  match l, h with
  | _ :: _ :: _, _ => rfl
attribute [local irreducible] AC AT AO AK AH ACalls Sub Res.cells Res.obj Res.nix Res.own Res.map Exit.then Exit.inBlock bodyPost bodyPostM roundPost Begin AYields Code.wp Code.wpIn WL Next Post Kont
section
variable {W0 : World} {L : List Res} {F : List Fact} {R : Value → List Res → List Fact → Prop}
set_option maxRecDepth 100000
set_option maxHeartbeats 16000000
theorem sfind_c (g : Glob W0) (T : List Ty) (N : List Nmd) (hno : ∀ n ∈ N, NmOk n) (hu : rightU T N) (i : Int) (h0 : 0 ≤ i) (hi : i < T.length) (s : List UInt8) {a a2 : Option Addr} {k c k2 c2 : Nat} (mL : fL T a k c ∈ F) (mN : fN N a2 k2 c2 ∈ F) (mE : Fact.slc (.slice none 0 0) 5 [] ∈ F) (mM : Fact.slc (.slice none 0 0) 3 [] ∈ F)
    (hE : ∀ e, e ≠ 0 → findR N T i s = .error e → R (.tuple #[.agg #[.slice none 0 0, .slice none 0 0], vSl ⟨false, 0, false, false, []⟩ none 0 0, .int .i64 e]) L F)
    (hO : ∀ o x a k c a5 k5 c5, findR N T i s = .ok (o, x) → R (.tuple #[.agg #[.slice a k c, .slice a2 k2 c2], vSl x a5 k5 c5, .int .i64 0]) L (fL o a k c :: fI x.path a5 k5 c5 :: F)) :
    ACalls Tryz.prog W0 61 #[.agg #[.slice a k c, .slice a2 k2 c2], .int .i64 i, S s] L F R := by
  have hml : 1000000 ≤ maxLen := by decide
  refine ACalls.bodyM Tryz.func61 HZ Tryz.ntmps61 HZ ?_
  refine qs 2 ?_
  refine Ga (GL HZ HZ (fun b3 => (Ga (GL HZ HZ (fun b5 => (Ga (Gj HZ (fun b6 => ?_))))))))
  refine Ga (Gj HZ (fun b7 => ?_))
  refine qs 6 ?_
  refine Ga (GO HZ HZ HZ (Ga (GL HZ HZ (fun b17 => (Ga (Gj HZ (fun b9 => ?_)))))))
  refine qs 5 ?_
  refine Ga (Gj HZ (fun b10 => ?_))
  refine qs 7 ?_
  refine GH (GZ (e := 47) (sz := 5)) ?_
  refine Ga (Ge HZ HZ (levels_c i (fun c2 c3 => ?_)))
  refine qs 3 ?_
  refine AC.rangeFunc HZ (fun fn tm l D hsl => ?_)
  generalize hrec : recL fn tm [21, 22] _ _ D = rec
  refine Hm (Gf _ _) (levels1_c (σ := List SelV) (χ := Option Addr × Nat × Nat) g N hno T hu i h0 hi (stpF s) List.isEmpty (fun _ s => s = []) (fun s1 x w => Res.obj l (rec (bif s1.isEmpty then .ready else .done) (bif s1.isEmpty then none else some (.exit 0))) :: Res.obj D dfr :: Res.cells c3 #[.int .i64 i] 3 :: Res.cells c2 #[.pointer (some ⟨b17, 0, none⟩)] 145 :: Res.own (.slice x.1 x.2.1 x.2.2) 47 5 (s1.map eSl) :: Res.cells b10 #[.slice x.1 x.2.1 x.2.2] 105 :: Res.cells b9 #[.pointer (some ⟨b17, 0, none⟩)] 145 :: Res.cells b17 w.toArray 147 :: _) [] (none, 0, 0) (i2 := 3) (i3 := 2) (iw := 7) (fun _ _ _ => rfl) (fun _ _ _ => rfl) (fun _ _ _ => rfl) (fun _ _ _ _ => rfl) HZ (fun n s1 T1 lev ws hs hn hr hl hw hws hgo => List.isEmpty_iff.1 hgo) memA memA memA memA (fun n s1 x T1 a1 k1 c1 lev ws a3 k3 c3 a4 k4 c4 A F1 hs hn hr hl hw hws m1 m2 m3 => ?_) (fun s1 x T1 e a1 k1 c1 he => ?_))
  ·subst hs
   subst hrec
   obtain ⟨a9, k9, c9⟩ := x
   refine AYields.swap ?_
   refine AYields.round (i := 0) (ps := [21, 22]) HZ HZ hsl HZ ?_
   simp only [binds]
   refine qs 8 ?_
   refine AK.begin (i := 0) HZ ?_
   refine qs 5 ?_
   have hlf := hl.few
   have hT4 := hr.1.2.1
   refine Ga (Gt HZ HZ (fun hl24 => ?_) (enc := eEn) (lst := lev) (hm := memA))
   refine qs 4 ?_
   refine GB (fun (v : Nat × Option Addr × Nat × Nat) => v.1 ≤ lev.length) (fun v => [(5, .pointer (some ⟨b5, 0, none⟩)), (9, .pointer (some ⟨b9, 0, none⟩)), (10, .pointer (some ⟨b10, 0, none⟩)), (11, .slice a3 k3 c3), (12, .slice a4 k4 c4), (23, .slice a3 k3 c3), (24, .int .i64 lev.length), (25, .int .i64 (v.1 : Int))]) (fun v => _ :: _ :: _ :: _ :: Res.own (.slice v.2.1 v.2.2.1 v.2.2.2) 47 5 ((foundN T1 lev ws s v.1).map eSl) :: Res.cells b10 #[.slice v.2.1 v.2.2.1 v.2.2.2] 105 :: _) (fun _ => _) (fun v => lev.length - v.1) (0, a9, k9, c9) (Nat.zero_le _) srA (Gf _ _) ?_
   rintro ⟨v, a8, k8, c8⟩ hv
   simp only at hv ⊢
   refine qs 2 ?_
   refine Ga (Gw HZ HZ HZ (fun c26 => ?_) (fun c26 => ?_))
   ·refine qs 11 ?_
    have hvl : v < lev.length := by omega
    have hvw : v < ws.length := by omega
    have hpt := (hl.1 _ (List.getElem_mem hvl)).2
    have hwv := hws _ (List.getElem_mem hvw)
    refine Ga (Gd HZ HZ HZ HZ (enc := eEn) (lst := lev) memA hvl (fun _ _ => ?_))
    refine Ga (GN HZ HZ ?_)
    intro a29 k29 z29
    refine Ga (Gj HZ (fun b14 => ?_))
    refine qs 4 ?_
    refine GP (fun i => Nat.beq i 10) [(b10, _, _), (b9, _, _), (b14, _, _), (b5, _, _)] bxA HZ (fun hx hX => ?_)
    have hk4 := (Gu (hX (fWh ws a4 k4 c4) memA)).1
    obtain ⟨p1, o1, e1, at1⟩ := GA (hX (fWh ws a4 k4 c4) memA) hvw
    subst e1
    obtain ⟨aw, kw, cw, hv1, hw1⟩ := wh_cells at1
    refine Hx hw1 memA ?_
    refine qt [0, 1, 2, 3, 4] ?_
    refine GD (i := 5) HZ (GE (k := v) HZ HZ HZ Jb) Ja HZ HZ ?_
    refine GR (i := 6) HZ (HN HZ HZ hv1) Ja Ja HZ HZ HZ ?_
    refine qt [7] ?_
    refine Gm (i := 8) Ja HZ HZ (fun _ => ?_)
    refine Ge HZ HZ (had_c T1 hr.1 ws[v] hwv lev[v] Jb s (iw := 8) HZ (show fL T1 a1 k1 c1 ∈ _ from memA) (show fI lev[v].path _ _ _ ∈ _ from memA) (show fMs ws[v].ms aw kw cw ∈ _ from memA) (fun a38 k38 c38 => ?_))
    refine Gi bxA memB ?_
    have h80 := foundN_len hr.1 hw hws (s := s) v hv
    have h81 := hadE_len hr.1 hwv (e := lev[v]) (s := s)
    have hv400 : v * 80 ≤ 32000 := by omega
    refine Gm (i := 9) Ja HZ HZ (fun _ => ?_)
    refine GU (i := 5) (enc := eSl) (lst := foundN T1 lev ws s v) (lst2 := hadE T1 ws[v] lev[v] s) HZ HZ HZ HZ memA eSl_one (fun _ => rfl) Jb Jb (fun a39 k39 c39 => ?_)
    rw [← found_step hvl hvw]
    refine Gi bxA memB ?_
    refine Gm (i := 10) Ja HZ HZ (fun _ => ?_)
    refine GM HZ HZ HZ ?_
    refine GC HZ ?_
    refine Gq Ja ?_
    refine qs 6 ?_
    exact Gk (v + 1, a39, k39, c39) (by simp only; omega) (by simp only; omega) srA (Sub.drop.trans subF)
   refine qs 12 ?_
   obtain rfl : v = lev.length := by omega
   refine Ga (AO.lenO (i := 4) HZ HZ HZ (fun hk42 => ?_))
   rw [List.length_map]
   refine Ga (Hv HZ HZ HZ (fun c43 => ?_) (fun c43 => ?_))
   ·refine qs 5 ?_
    have hem : (stpF s [] T1 lev ws).isEmpty = false := by
     unfold stpF
     rw [List.nil_append]
     cases hf : foundN T1 lev ws s lev.length with
     | nil => rw [hf] at c43; simp at c43
     | cons y ys => rfl
    refine AK.roundX (i := 0) (F' := F1) subF rfl ⟨_, ?_, (a8, k8, c8), ?_, rfl, rfl⟩
    · simp only [hem, cond_false]; rfl
    rw [hem]
   refine qs 5 ?_
   have hem : (stpF s [] T1 lev ws).isEmpty = true := by
    have : foundN T1 lev ws s lev.length = [] := List.eq_nil_of_length_eq_zero Jb
    unfold stpF; rw [this]; rfl
   refine AK.roundN (i := 0) (F' := F1) subF rfl ⟨_, ?_, (a8, k8, c8), ?_, rfl, rfl⟩
   · simp only [hem, cond_true]; rfl
   rw [hem]
  obtain ⟨a9, k9, c9⟩ := x
  simp only
  rcases s1 with _ | ⟨y, ys⟩
  ·refine Or.inl ⟨0, by subst hrec; rfl, ?_⟩
   refine qs 7 ?_
   refine Ga (GF HZ HZ ?_)
   refine qs 2 ?_
   refine Ga (GG HZ HZ HZ (fun c49 => ?_) (fun c49 => ?_))
   ·refine qs 5 ?_
    refine GP (fun _ => false) [(b9, _, _), (b17, _, _)] bxA HZ (fun hx hX => ?_)
    refine qt [0, 1, 2, 3, 4, 5] ?_
    refine Gm (i := 6) Ja HZ HZ (fun _ => ?_)
    refine Gx HZ HZ HZ HZ ?_
    refine Gi bxA memB ?_
    refine Gm (i := 7) Ja HZ HZ (fun _ => ?_)
    refine Gx HZ HZ HZ HZ ?_
    refine Gi bxA memB ?_
    refine qt [8] ?_
    refine Gq Ja ?_
    refine qs 4 ?_
    have hf : findR N T i s = .error e := by rcases he with ⟨_, h⟩ | ⟨h, _⟩; (unfold findR; rw [h]; rfl); exact absurd h c49
    exact AK.unmark (i := 1) rfl (Gn (rs := [.cell 6 _, .cell 7 _, .tmp 8]) (L' := L) (F' := F) Tryz.results61 (.agg (j := 9) rfl rfl rfl (.agg (j := 8) rfl rfl rfl (.tmp rfl .nil))) subA (hE e c49 hf))
   refine qs 7 ?_
   have hlev : levelsL N (stpF s) List.isEmpty T i [] = ([], .ok T1) := by rcases he with ⟨h, _⟩ | ⟨_, h⟩; exact absurd c49 h; exact h
   refine Ga (AO.lenO (i := 4) HZ HZ HZ (fun hk58 => ?_))
   rw [List.length_map]
   refine Ga (Gr HZ HZ HZ (fun c59 => ?_) (fun c59 => absurd HZ c59))
   refine qs 16 ?_
   exact AK.unmark (i := 1) rfl (Gn (rs := [.cell 6 _, .cell 7 _, .tmp 8]) (L' := L) (F' := F) Tryz.results61 (.agg (j := 9) rfl rfl rfl (.agg (j := 8) rfl rfl rfl (.tmp rfl .nil))) subA (hE 8 (by decide) (by unfold findR; rw [hlev]; rfl)))
  refine Or.inr ⟨0, .exit 0, by subst hrec; rfl, ?_⟩
  refine qs 8 ?_
  refine Ga (GF HZ HZ ?_)
  refine qs 2 ?_
  refine Ga (GG HZ HZ HZ (fun c49 => ?_) (fun c49 => ?_))
  ·refine qs 5 ?_
   refine GP (fun _ => false) [(b9, _, _), (b17, _, _)] bxA HZ (fun hx hX => ?_)
   refine qt [0, 1, 2, 3, 4, 5] ?_
   refine Gm (i := 6) Ja HZ HZ (fun _ => ?_)
   refine Gx HZ HZ HZ HZ ?_
   refine Gi bxA memB ?_
   refine Gm (i := 7) Ja HZ HZ (fun _ => ?_)
   refine Gx HZ HZ HZ HZ ?_
   refine Gi bxA memB ?_
   refine qt [8] ?_
   refine Gq Ja ?_
   refine qs 4 ?_
   have hf : findR N T i s = .error e := by rcases he with ⟨_, h⟩ | ⟨h, _⟩; (unfold findR; rw [h]; rfl); exact absurd h c49
   exact AK.unmark (i := 1) rfl (Gn (rs := [.cell 6 _, .cell 7 _, .tmp 8]) (L' := L) (F' := F) Tryz.results61 (.agg (j := 9) rfl rfl rfl (.agg (j := 8) rfl rfl rfl (.tmp rfl .nil))) subA (hE e c49 hf))
  refine qs 7 ?_
  have hlev : levelsL N (stpF s) List.isEmpty T i [] = (y :: ys, .ok T1) := by rcases he with ⟨h, _⟩ | ⟨_, h⟩; exact absurd c49 h; exact h
  refine Ga (AO.lenO (i := 4) HZ HZ HZ (fun hk58 => ?_))
  rw [List.length_map]
  refine Ga (Gr HZ HZ HZ (fun c59 => absurd c59 (by simp only [List.length_cons]; omega)) (fun c59 => ?_))
  refine qs 7 ?_
  refine Ga (AO.lenO (i := 4) HZ HZ HZ (fun hk64 => ?_))
  rw [List.length_map]
  refine Ga (Hv HZ HZ HZ (fun c65 => ?_) (fun c65 => ?_))
  ·refine Ga (AO.assign HZ HZ ?_)
   refine qs 15 ?_
   exact AK.unmark (i := 1) rfl (Gn (rs := [.cell 6 _, .cell 7 _, .tmp 8]) (L' := L) (F' := F) Tryz.results61 (.agg (j := 9) rfl rfl rfl (.agg (j := 8) rfl rfl rfl (.tmp rfl .nil))) subA (hE 9 (by decide) (by unfold findR; rw [hlev]; exact tell_two Jb)))
  obtain rfl : ys = [] := List.eq_nil_of_length_eq_zero (by simp only [List.length_cons] at c65; omega)
  refine GH (Gz (i := 4) HZ) ?_
  refine Ga (AO.assign HZ HZ ?_)
  refine qs 7 ?_
  refine GP (fun _ => false) [(b9, _, _), (b17, _, _), (b10, _, _)] bxA HZ (fun hx hX => ?_)
  have hk9 := (Gu (hX (fSl [y] a9 k9 c9) memA)).1
  obtain ⟨p1, o1, e1, at1⟩ := GA (i := 0) (hX (fSl [y] a9 k9 c9) memA) (by simp)
  subst e1
  obtain ⟨a5, k5, c5, hv5, hp5⟩ := sl_cells (s := y) at1
  refine Hx hp5 memA ?_
  simp only [List.length_cons, List.length_nil] at hk9
  refine qt [0, 1, 2, 3, 4] ?_
  refine GD (i := 5) HZ (GE (k := 0) HZ HZ HZ Jb) Ja HZ HZ ?_
  refine GR (i := 6) HZ (HN HZ HZ hv5) Ja Ja HZ HZ HZ ?_
  refine Gm (i := 7) Ja HZ HZ (fun _ => ?_)
  refine Gx HZ HZ HZ HZ ?_
  refine Gi bxA memB ?_
  refine Gm (i := 8) Ja HZ HZ (fun _ => ?_)
  refine Gx HZ HZ HZ HZ ?_
  refine Gi bxA memB ?_
  refine qt [9] ?_
  refine Gq Ja ?_
  refine qs 2 ?_
  exact AK.unmark (i := 1) rfl (Gn (rs := [.cell 6 _, .cell 7 _, .tmp 8]) (L' := L) (F' := fL T1 a1 k1 c1 :: fI y.path a5 k5 c5 :: F) Tryz.results61 (.agg (j := 9) rfl rfl rfl (.agg (j := 8) rfl rfl rfl (.tmp rfl .nil))) (Sub.drop.trans (Sub.drop.trans (Sub.drop.trans (Sub.drop.trans (Sub.drop.trans (Sub.drop.trans (Sub.drop.trans (Sub.drop.trans (Sub.drop.trans (Sub.drop.trans (Sub.drop.trans (Sub.drop.trans (Gh (mem2 memA memA (fun x hx => by repeat (first | exact hx | refine List.mem_cons_of_mem _ ?_)))))))))))))))) (hO T1 y a1 k1 c1 a5 k5 c5 (by unfold findR; rw [hlev]; rfl)))
end
end Go.Sy
namespace Go.Sy
open Go Go.Proofs Go.RowKit
def badS (T : List Ty) (N : List Nmd) (i : Int) (s : List UInt8) (e : Int) : Prop := (¬ rightU T N ∧ e = 1) ∨ (rightU T N ∧ ¬(0 ≤ i ∧ i < T.length) ∧ e = 8) ∨ (rightU T N ∧ (0 ≤ i ∧ i < T.length) ∧ (isName s = false ∨ s = [95]) ∧ e = 1)
attribute [local irreducible] AC AT AO AK AH ACalls Sub Res.cells Res.obj Res.nix Res.own Res.map Exit.then Exit.inBlock bodyPost Code.wp Code.wpIn WL Next Post Kont
section
variable {W0 : World} {L : List Res} {F : List Fact} {R : Value → List Res → List Fact → Prop}
set_option maxRecDepth 100000
set_option maxHeartbeats 16000000
theorem sthere_c (g : Glob W0) (T : List Ty) (N : List Nmd) (hok : ∀ t ∈ T, TyOk t) (hno : ∀ n ∈ N, NmOk n) (i : Int) {a a2 : Option Addr} {k c k2 c2 : Nat} (mL : fL T a k c ∈ F) (mN : fN N a2 k2 c2 ∈ F)
    (h1 : ∀ e, (¬ rightU T N ∧ e = 1) ∨ (rightU T N ∧ ¬(0 ≤ i ∧ i < T.length) ∧ e = 8) → R (.int .i64 e) L F) (h3 : rightU T N → 0 ≤ i ∧ i < T.length → R (.int .i64 0) L F) : ACalls Tryz.prog W0 59 #[.agg #[.slice a k c, .slice a2 k2 c2], .int .i64 i] L F R := by
  refine Gg Tryz.func59 HZ Tryz.ntmps59 HZ ?_
  refine qs 2 ?_
  refine Ga (GL HZ HZ (fun b2 => ?_))
  refine qs 8 ?_
  refine Ga (Ge HZ HZ (uright_c g T N hok hno mL mN (fun c7 => ?_) (fun c7 => ?_)))
  ·refine qs 8 ?_
   refine Ga (Gw HZ HZ HZ (fun c11 => ?_) (fun c11 => ?_))
   ·refine qs 19 ?_
    first | exact Gb (L' := L) (F' := F) Tryz.results59 rfl subA (h1 1 (.inl ⟨c7, rfl⟩)) | exact Gb (L' := L) (F' := F) Tryz.results59 rfl subA (h1 8 (.inr ⟨c7, by omega, rfl⟩)) | exact Gb (L' := L) (F' := F) Tryz.results59 rfl subA (h3 c7 Jb)
   refine qs 4 ?_
   refine Gc HZ HZ (Gt HZ HZ (fun hl16 => ?_) (enc := eTy) (lst := T) (hm := memA))
   refine Gc HZ HZ (GY HZ HZ HZ (fun c17 => ?_) (fun c17 => ?_))
   ·refine qs 13 ?_
    first | exact Gb (L' := L) (F' := F) Tryz.results59 rfl subA (h1 1 (.inl ⟨c7, rfl⟩)) | exact Gb (L' := L) (F' := F) Tryz.results59 rfl subA (h1 8 (.inr ⟨c7, by omega, rfl⟩)) | exact Gb (L' := L) (F' := F) Tryz.results59 rfl subA (h3 c7 Jb)
   refine qs 14 ?_
   first | exact Gb (L' := L) (F' := F) Tryz.results59 rfl subA (h1 1 (.inl ⟨c7, rfl⟩)) | exact Gb (L' := L) (F' := F) Tryz.results59 rfl subA (h1 8 (.inr ⟨c7, by omega, rfl⟩)) | exact Gb (L' := L) (F' := F) Tryz.results59 rfl subA (h3 c7 Jb)
  refine qs 13 ?_
  first | exact Gb (L' := L) (F' := F) Tryz.results59 rfl subA (h1 1 (.inl ⟨c7, rfl⟩)) | exact Gb (L' := L) (F' := F) Tryz.results59 rfl subA (h1 8 (.inr ⟨c7, by omega, rfl⟩)) | exact Gb (L' := L) (F' := F) Tryz.results59 rfl subA (h3 c7 Jb)
theorem sFind_c (g : Glob W0) (T : List Ty) (N : List Nmd) (hok : ∀ t ∈ T, TyOk t) (hno : ∀ n ∈ N, NmOk n) (i : Int) (s : List UInt8) {a a2 : Option Addr} {k c k2 c2 : Nat} (mL : fL T a k c ∈ F) (mN : fN N a2 k2 c2 ∈ F) (mE : Fact.slc (.slice none 0 0) 5 [] ∈ F) (mM : Fact.slc (.slice none 0 0) 3 [] ∈ F)
    (hB : ∀ e, e ≠ 0 → badS T N i s e → R (.tuple #[.agg #[.slice none 0 0, .slice none 0 0], vSl ⟨false, 0, false, false, []⟩ none 0 0, .int .i64 e]) L F)
    (hE : rightU T N → 0 ≤ i → i < T.length → isName s = true → s ≠ [95] → ∀ e, e ≠ 0 → findR N T i s = .error e → R (.tuple #[.agg #[.slice none 0 0, .slice none 0 0], vSl ⟨false, 0, false, false, []⟩ none 0 0, .int .i64 e]) L F)
    (hO : rightU T N → 0 ≤ i → i < T.length → isName s = true → s ≠ [95] → ∀ o x a k c a5 k5 c5, findR N T i s = .ok (o, x) → R (.tuple #[.agg #[.slice a k c, .slice a2 k2 c2], vSl x a5 k5 c5, .int .i64 0]) L (fL o a k c :: fI x.path a5 k5 c5 :: F)) :
    ACalls Tryz.prog W0 19 #[.agg #[.slice a k c, .slice a2 k2 c2], .int .i64 i, S s] L F R := by
  refine Gg Tryz.func19 HZ Tryz.ntmps19 HZ ?_
  refine qs 2 ?_
  refine Ga (GL HZ HZ (fun b3 => (Ga (Gj HZ (fun b6 => (Ga (Gj HZ (fun b7 => ?_))))))))
  refine qs 8 ?_
  refine Ga (Ge HZ HZ (sthere_c g T N hok hno i memA memA (fun e he => ?_) (fun c12 d12 => ?_)))
  ·refine qs 6 ?_
   have he0 : e ≠ 0 := by rcases he with ⟨_, h⟩ | ⟨_, _, h⟩ <;> omega
   refine Ga (GG HZ HZ HZ (fun _ => ?_) (fun c14 => absurd c14 he0))
   refine qs 15 ?_
   exact Gn (rs := [.cell 6 _, .cell 7 _, .tmp 8]) (L' := L) (F' := F) Tryz.results19 (.agg (j := 1) rfl rfl rfl (.agg (j := 0) rfl rfl rfl (.tmp rfl .nil))) subA (hB e he0 (by rcases he with h | h; exact .inl h; exact .inr (.inl h)))
  refine qs 6 ?_
  refine Ga (GG HZ HZ HZ (fun c14 => absurd HZ c14) (fun _ => ?_))
  refine qs 9 ?_
  refine Ga (Ge HZ HZ (HP s (fun c19 => ?_) (fun c19 => ?_)))
  ·refine qs 3 ?_
   refine Gc HZ HZ (Hi HZ HZ HZ (fun c23 => ?_) (fun c23 => ?_))
   ·refine qs 15 ?_
    exact Gn (rs := [.cell 6 _, .cell 7 _, .tmp 8]) (L' := L) (F' := F) Tryz.results19 (.agg (j := 1) rfl rfl rfl (.agg (j := 0) rfl rfl rfl (.tmp rfl .nil))) subA (hB 1 (by decide) (.inr (.inr ⟨c12, d12, .inr c23, rfl⟩)))
   refine qs 11 ?_
   refine Ga (Ge HZ HZ (sfind_c g T N hno c12 i d12.1 d12.2 s memA memA memA memA (fun e he hx => ?_) (fun o x a30 k30 z30 a31 k31 z31 hx => ?_)))
   ·refine qs 9 ?_
    exact Gn (rs := [.cell 6 _, .cell 7 _, .tmp 8]) (L' := L) (F' := F) Tryz.results19 (.agg (j := 1) rfl rfl rfl (.agg (j := 0) rfl rfl rfl (.tmp rfl .nil))) subA (hE c12 d12.1 d12.2 c19 c23 e he hx)
   refine qs 9 ?_
   exact Gn (rs := [.cell 6 _, .cell 7 _, .tmp 8]) (L' := L) (F' := fL o a30 k30 z30 :: fI x.path a31 k31 z31 :: F) Tryz.results19 (.agg (j := 1) rfl rfl rfl (.agg (j := 0) rfl rfl rfl (.tmp rfl .nil))) (Sub.drop.trans (Sub.drop.trans (Sub.drop.trans (Gh (mem2 memA memA (fun x hx => by repeat (first | exact hx | refine List.mem_cons_of_mem _ ?_))))))) (hO c12 d12.1 d12.2 c19 c23 o x a30 k30 z30 a31 k31 z31 hx)
  refine qs 19 ?_
  exact Gn (rs := [.cell 6 _, .cell 7 _, .tmp 8]) (L' := L) (F' := F) Tryz.results19 (.agg (j := 1) rfl rfl rfl (.agg (j := 0) rfl rfl rfl (.tmp rfl .nil))) subA (hB 1 (by decide) (.inr (.inr ⟨c12, d12, .inl c19, rfl⟩)))
end
end Go.Sy
namespace Go.Sy
open Go Go.Proofs Go.RowKit
abbrev vT (a : Option Addr) (k c : Nat) (a2 : Option Addr) (k2 c2 : Nat) (i : Int) (a3 : Option Addr) (k3 c3 : Nat) (e : Int) : Value := .agg #[.slice a k c, .slice a2 k2 c2, .int .i64 i, .slice a3 k3 c3, .int .i64 e]
theorem many_none {t : Int} {l : List Ent} (h : t ∉ typs l) : l.map (manyE t) = l := by
  have : ∀ e ∈ l, manyE t e = e := fun e he => by
    unfold manyE
    rw [if_neg]
    intro e2
    exact h (List.mem_map.2 ⟨e, he, e2⟩)
  calc l.map (manyE t) = l.map id := List.map_congr_left this
    _ = l := by simp
theorem add_out {out : List Ent} {seen : List Int} {x : Ent} {is : Bool} (h : is = true ↔ x.typ ∈ typs out) (h2 : is = true ∨ x.typ ∈ seen) : addE out seen x = out.map (manyE x.typ) := by
  by_cases c : x.typ ∈ typs out
  · exact add_many c
  rw [many_none c]
  rcases h2 with h2 | h2
  · exact absurd (h.1 h2) c
  exact add_seen c h2
theorem add_out2 {out : List Ent} {seen : List Int} {x : Ent} (h : x.typ ∉ typs out) (h2 : x.typ ∉ seen) : addE out seen x = out.map (manyE x.typ) ++ [x] := by
  rw [many_none h]; exact add_new h h2
theorem typs_take {l : List Ent} {q : Nat} (hq : q < l.length) : typs (l.take (q + 1)) = typs (l.take q) ++ [l[q].typ] := by
  unfold typs; rw [List.take_succ_eq_append_getElem hq, List.map_append]; rfl
theorem map_take_snoc {α β : Type} {l : List α} {q : Nat} (hq : q < l.length) (f : α → β) : (l.take q).map f ++ [f l[q]] = (l.take (q + 1)).map f := by
  rw [List.take_succ_eq_append_getElem hq, List.map_append]; rfl
attribute [local irreducible] AC AT AO AK AH ACalls Sub Res.cells Res.obj Res.nix Res.own Res.map Exit.then Exit.inBlock bodyPost Code.wp Code.wpIn WL Next Post Kont
section
variable {W0 : World} {L : List Res} {F : List Fact} {R : Value → List Res → List Fact → Prop}
set_option maxRecDepth 100000
set_option maxHeartbeats 16000000
theorem sin_c (l : List Int) (x : Int) {a : Option Addr} {k c : Nat} (m1 : fI l a k c ∈ F) (hT : x ∈ l → R (.bool true) L F) (hF : x ∉ l → R (.bool false) L F) : ACalls Tryz.prog W0 183 #[.slice a k c, .int .i64 x] L F R := by
  refine Gg Tryz.func183 HZ Tryz.ntmps183 HZ ?_
  refine qs 9 ?_
  refine Ga (Gt HZ HZ (fun hl8 => ?_) (enc := eI) (lst := l) (hm := memA))
  refine qs 4 ?_
  refine GB (fun q => q ≤ l.length ∧ ∀ j (hj : j < l.length), j < q → l[j] ≠ x) (fun q => [(1, .int .i64 x), (7, .slice a k c), (8, .int .i64 l.length), (9, .int .i64 (q : Int))]) (fun _ => L) (fun _ => F) (fun q => l.length - q) 0 ⟨Nat.zero_le _, by omega⟩ srA (Gf _ _) ?_
  rintro q ⟨hq, hok⟩
  refine qs 2 ?_
  refine Ga (Gw HZ HZ HZ (fun c10 => ?_) (fun c10 => ?_))
  ·refine qs 10 ?_
   have hql : q < l.length := by omega
   refine Ga (Gd HZ HZ HZ HZ (enc := eI) (lst := l) memA hql (fun _ _ => ?_))
   refine Ga (Gs HZ HZ ?_)
   intros
   refine qs 7 ?_
   refine Ga (Gr HZ HZ HZ (fun c15 => ?_) (fun c15 => ?_))
   ·refine qs 14 ?_
    exact Gb (L' := L) (F' := F) Tryz.results183 rfl subF (hT (c15 ▸ List.getElem_mem hql))
   refine qs 10 ?_
   refine Gk (q + 1) ⟨by omega, fun j hj hjq => ?_⟩ Jb srA subF
   rcases Nat.lt_succ_iff_lt_or_eq.1 hjq with k9 | rfl
   · exact hok j hj k9
   exact c15
  refine qs 15 ?_
  refine Gb (L' := L) (F' := F) Tryz.results183 HZ subF (hF (fun hm => ?_))
  obtain ⟨j, hj, e⟩ := List.getElem_of_mem hm
  exact hok j hj Jb e
theorem rwithp_c (l : List Int) (x : Int) (hl : l.length ≤ 1000) {a : Option Addr} {k c : Nat} (m1 : fI l a k c ∈ F) (h : ∀ a k c, R (.slice a k c) L (fI (l ++ [x]) a k c :: F)) : ACalls Tryz.prog W0 123 #[.slice a k c, .int .i64 x] L F R := by
  have hml : 1000000 ≤ maxLen := by decide
  refine Gg Tryz.func123 HZ Tryz.ntmps123 HZ ?_
  refine qs 7 ?_
  refine Ga (He HZ (fun b6 => ?_))
  refine GH (Hz (i := 0) (k := 0) (sz := 1) (enc := eI) [] HZ .nil (fun _ => rfl) HZ (by decide)) ?_
  refine qs 7 ?_
  refine Ga (GU (i := 0) (enc := eI) (lst := []) (lst2 := l) HZ HZ HZ HZ memA (fun x d hd v hv => Hq hd hv) (fun _ => rfl) (by simp only [List.length_nil]; omega) (by simp only [List.length_nil]; omega) (fun a9 k9 c9 => ?_))
  rw [List.nil_append]
  refine qs 7 ?_
  refine Ga (Gl HZ HZ HZ HZ HZ (fun b12 => ?_))
  refine Ga (GJ (i := 0) (enc := eI) (lst := l) [x] HZ HZ HZ HZ (.val .nil) HZ HZ (fun _ => rfl) Jb Jb (fun a13 k13 c13 => ?_))
  refine qs 10 ?_
  exact Gb (L' := L) (F' := fI (l ++ [x]) a13 k13 c13 :: F) Tryz.results123 rfl ((Gz (i := 0) rfl).trans Gv) (h _ _ _)
theorem sfieldR_c (s : List UInt8) (hs : s.length ≤ 1048576) (h : R (S (fieldN s)) L F) : ACalls Tryz.prog W0 122 #[S s] L F R := by
  refine Gg Tryz.func122 HZ Tryz.ntmps122 HZ ?_
  refine qs 10 ?_
  refine Ga (Hv HZ HZ HZ (fun c5 => ?_) (fun c5 => ?_))
  ·refine qs 2 ?_
   have h0 : 0 < s.length := by omega
   refine Gc HZ HZ (HF HZ HZ HZ HZ h0 (Gc HZ HZ (Gr HZ HZ HZ (fun c9 => ?_) (fun c9 => ?_))))
   ·refine qs 7 ?_
    refine Ga (AO.sliceSL (i' := 1) HZ HZ HZ Jb Jb ?_)
    refine qs 5 ?_
    have e : fieldN s = s.drop 1 := by
     cases s with
     | nil => simp at h0
     | cons y ys =>
       have : y = 43 := by
         have h9 : ((y.toNat : Nat) : Int) = 43 := by simpa using c9
         exact UInt8.toNat_inj.1 (by simpa using Int.ofNat_inj.1 h9)
       subst this; rfl
    rw [e] at h
    exact Gb Tryz.results122 rfl (Gf _ _) h
   refine qs 13 ?_
   have e : fieldN s = s := by
    cases s with
    | nil => rfl
    | cons y ys =>
      unfold fieldN
      split
      · rename_i r hr
        injection hr with h1 h2
        subst h1
        first | exact absurd rfl c9 | (exfalso; exact c9 rfl) | (exfalso; simp at c5; omega)
      rfl
   rw [e] at h
   exact Gb Tryz.results122 rfl (Gf _ _) h
  refine qs 17 ?_
  have e : fieldN s = s := by
   cases s with
   | nil => rfl
   | cons y ys =>
     unfold fieldN
     split
     · rename_i r hr
       injection hr with h1 h2
       subst h1
       first | exact absurd rfl c9 | (exfalso; exact c9 rfl) | (exfalso; simp at c5; omega)
     rfl
  rw [e] at h
  exact Gb Tryz.results122 rfl (Gf _ _) h
theorem saddR_c (out : List Ent) (ho : out.length ≤ 1000) (seen : List Int) (x : Ent) {a a2 a3 : Option Addr} {k c k2 c2 k3 c3 : Nat} (m1 : fEn out a k c ∈ F) (m2 : fI seen a2 k2 c2 ∈ F) (m3 : fI x.path a3 k3 c3 ∈ F)
    (h : ∀ a k c, R (.slice a k c) L (fEn (addE out seen x) a k c :: F)) : ACalls Tryz.prog W0 124 #[.slice a k c, .slice a2 k2 c2, vEn x a3 k3 c3] L F R := by
  have hml : 1000000 ≤ maxLen := by decide
  refine Gg Tryz.func124 HZ Tryz.ntmps124 HZ ?_
  refine qs 2 ?_
  refine Ga (GL HZ HZ (fun b5 => ?_))
  refine qs 5 ?_
  refine Ga (He HZ (fun b11 => ?_))
  refine GH (Hz (i := 0) (k := 0) (sz := 4) (enc := eEn) [] HZ .nil (fun _ => rfl) HZ (by decide)) ?_
  refine qs 12 ?_
  refine Ga (Gt HZ HZ (fun hl13 => ?_) (enc := eEn) (lst := out) (hm := memA))
  refine qs 4 ?_
  refine GB (fun (v : Nat × Bool × (Option Addr × Nat × Nat)) => v.1 ≤ out.length ∧ (v.2.1 = true ↔ x.typ ∈ typs (out.take v.1))) (fun v => [(1, .slice a2 k2 c2), (5, .pointer (some ⟨b5, 0, none⟩)), (7, .slice v.2.2.1 v.2.2.2.1 v.2.2.2.2), (8, .bool v.2.1), (12, .slice a k c), (13, .int .i64 out.length), (14, .int .i64 (v.1 : Int))]) (fun v => Res.own (.slice v.2.2.1 v.2.2.2.1 v.2.2.2.2) 186 4 (((out.take v.1).map (manyE x.typ)).map eEn) :: _) (fun _ => _) (fun v => out.length - v.1) (0, false, (some ⟨b11, 0, none⟩, 0, 0)) ⟨Nat.zero_le _, by simp [typs]⟩ srA (Gf _ _) ?_
  rintro ⟨q, is, ⟨a7, k7, c7⟩⟩ ⟨hq, his⟩
  simp only at hq his ⊢
  refine qs 2 ?_
  refine Ga (Gw HZ HZ HZ (fun c15 => ?_) (fun c15 => ?_))
  ·refine qs 10 ?_
   have hql : q < out.length := by omega
   have htl : ((out.take q).map (manyE x.typ)).length = q := by rw [List.length_map, List.length_take]; omega
   refine Ga (Gd HZ HZ HZ HZ (enc := eEn) (lst := out) memA hql (fun _ _ => ?_))
   refine Ga (GN HZ HZ ?_)
   intro a17 k17 z17
   refine Ga (Gj HZ (fun b10 => ?_))
   refine qs 10 ?_
   refine Ga (Gr HZ HZ HZ (fun c22 => ?_) (fun c22 => ?_))
   ·refine qs 16 ?_
    refine Ga (Gl HZ HZ HZ HZ HZ (fun b26 => ?_))
    have hm : manyE x.typ out[q] = ⟨out[q].typ, out[q].via, true, out[q].path⟩ := by unfold manyE; rw [if_pos c22]
    refine Ga (GJ (i := 1) (enc := eEn) (lst := (out.take q).map (manyE x.typ)) [⟨out[q].typ, out[q].via, true, out[q].path⟩] HZ HZ HZ HZ (.val (.val (.val (.slc .nil memA)))) HZ HZ (fun _ => rfl) Jb Jb (fun a27 k27 c27 => ?_))
    rw [← hm, map_take_snoc hql]
    refine qs 8 ?_
    exact Gk (q + 1, true, (a27, k27, c27)) ⟨by simp only; omega, by simp only; rw [typs_take hql, c22]; simp⟩ (by simp only; omega) srA (Sub.drop.trans subF)
   refine qs 8 ?_
   refine Ga (Gl HZ HZ HZ HZ HZ (fun b26 => ?_))
   have hm : manyE x.typ out[q] = out[q] := by unfold manyE; rw [if_neg c22]
   refine Ga (GJ (i := 1) (enc := eEn) (lst := (out.take q).map (manyE x.typ)) [out[q]] HZ HZ HZ HZ (.val (.val (.val (.slc .nil memA)))) HZ HZ (fun _ => rfl) Jb Jb (fun a27 k27 c27 => ?_))
   rw [show [out[q]] = [manyE x.typ out[q]] by rw [hm], map_take_snoc hql]
   refine qs 8 ?_
   exact Gk (q + 1, is, (a27, k27, c27)) ⟨by simp only; omega, by simp only; rw [typs_take hql, his, List.mem_append]; constructor; exact .inl; rintro (h9 | h9); exact h9; simp at h9; exact absurd h9.symm c22⟩ (by simp only; omega) srA (Sub.drop.trans subF)
  refine qs 12 ?_
  obtain rfl : q = out.length := by omega
  rw [List.take_length] at his ⊢
  refine Ga (HV HZ HZ ?_)
  rcases Bool.eq_false_or_eq_true is with hi9 | hi9
  all_goals subst hi9
  ·refine qs 20 ?_
   rw [add_out his (.inl rfl)] at h
   exact Gb (L' := L) (F' := fEn (out.map (manyE x.typ)) a7 k7 c7 :: F) Tryz.results124 rfl ((Gz (i := 0) rfl).trans (Sub.drop.trans (Sub.drop.trans (GX (fun x hx => by repeat (first | exact hx | refine List.mem_cons_of_mem _ ?_)))))) (h _ _ _)
  refine qs 5 ?_
  refine Gc HZ HZ (Ge HZ HZ (sin_c seen x.typ memA (fun c35 => ?_) (fun c35 => ?_)))
  ·refine qs 14 ?_
   rw [add_out his (.inr c35)] at h
   exact Gb (L' := L) (F' := fEn (out.map (manyE x.typ)) a7 k7 c7 :: F) Tryz.results124 rfl ((Gz (i := 0) rfl).trans (Sub.drop.trans (Sub.drop.trans (GX (fun x hx => by repeat (first | exact hx | refine List.mem_cons_of_mem _ ?_)))))) (h _ _ _)
  refine qs 8 ?_
  refine Ga (Gl HZ HZ HZ HZ HZ (fun b40 => ?_))
  refine Ga (GJ (i := 0) (enc := eEn) (lst := out.map (manyE x.typ)) [x] HZ HZ HZ HZ (.val (.val (.val (.slc .nil memA)))) HZ HZ (fun _ => rfl) (by rw [List.length_map]; omega) (by rw [List.length_map]; omega) (fun a41 k41 c41 => ?_))
  refine qs 10 ?_
  rw [add_out2 (fun e => absurd (his.2 e) (by decide)) c35] at h
  exact Gb (L' := L) (F' := fEn (out.map (manyE x.typ) ++ [x]) a41 k41 c41 :: F) Tryz.results124 rfl ((Gz (i := 0) rfl).trans (Sub.drop.trans (Sub.drop.trans (GX (fun x hx => by repeat (first | exact hx | refine List.mem_cons_of_mem _ ?_)))))) (h _ _ _)
end
end Go.Sy
namespace Go.Sy
open Go Go.Proofs Go.RowKit
theorem und_8 {T : List Ty} {N : List Nmd} {n : Nat} (hn : n < T.length) (h8 : T[n].kind = 8) {j : Nat} (hj : j < N.length) (hat : atN N T[n].name = some j) {u : Nat} (hu : N[j].under = (u : Int)) : undR T N (n : Int) = subR T u T[n].kids := by
  unfold undR
  rw [HQ hn, if_pos h8, hat]
  simp only
  rw [GK default hj, hu, Int.toNat_natCast]
theorem und_not {T : List Ty} {N : List Nmd} {n : Nat} (hn : n < T.length) (h8 : T[n].kind ≠ 8) : undR T N (n : Int) = .ok (T, (n : Int)) := by
  unfold undR
  rw [HQ hn, if_neg h8]
attribute [local irreducible] AC AT AO AK AH ACalls Sub Res.cells Res.obj Res.nix Res.own Res.map Exit.then Exit.inBlock bodyPost Code.wp Code.wpIn WL Next Post Kont
section
variable {W0 : World} {L : List Res} {F : List Fact} {R : Value → List Res → List Fact → Prop}
set_option maxRecDepth 100000
set_option maxHeartbeats 16000000
theorem rwithT_c (l : List Ty) (hr : rightP l) (n : Nat) (hn : n < l.length) (args : List Int) (hargs : args.length ≤ 1000) {a a2 a3 : Option Addr} {k c k2 c2 k3 c3 : Nat} (mL : fL l a k c ∈ F) (mA : fI args a3 k3 c3 ∈ F) (mN : Fact.slc (.slice none 0 0) 5 [] ∈ F)
    (h3 : ∀ e, e ≠ 0 → subR l n args = .error e → R (vT none 0 0 none 0 0 0 none 0 0 e) L F)
    (h4 : ∀ o q a k c, subR l n args = .ok (o, q) → R (vT a k c a2 k2 c2 q none 0 0 0) L (fL o a k c :: F)) :
    ACalls Tryz.prog W0 137 #[.agg #[.slice a k c, .slice a2 k2 c2], .int .i64 (n : Int), .slice a3 k3 c3] L F R := by
  refine Gg Tryz.func137 HZ Tryz.ntmps137 HZ ?_
  refine qs 2 ?_
  refine Ga (GL HZ HZ (fun b3 => (Ga (Gj HZ (fun b6 => ?_)))))
  refine qs 8 ?_
  refine Ga (Ge HZ HZ (rsubst_c l hr n hn args hargs memA memA memA (fun e he => ?_) (fun o q a12 k12 c12 hq => ?_)))
  ·refine Ga (Gj HZ (fun b7 => ?_))
   refine qs 8 ?_
   refine Ga (GG HZ HZ HZ (fun _ => ?_) (fun c15 => absurd c15 (subR_err he)))
   refine qs 13 ?_
   exact Gn (rs := [.cell 6 _]) (L' := L) (F' := F) Tryz.results137 (.agg (j := 1) rfl rfl rfl .nil) subA (h3 e (subR_err he) he)
  refine Ga (Gj HZ (fun b7 => ?_))
  refine qs 8 ?_
  refine Ga (GG HZ HZ HZ (fun c15 => absurd HZ c15) (fun _ => ?_))
  refine qs 19 ?_
  exact Gn (rs := [.cell 6 _]) (L' := L) (F' := fL o a12 k12 c12 :: F) Tryz.results137 (.agg (j := 1) rfl rfl rfl .nil) (Sub.drop.trans (Sub.drop.trans (Sub.drop.trans (GX (fun x hx => by repeat (first | exact hx | refine List.mem_cons_of_mem _ ?_)))))) (h4 o q a12 k12 c12 hq)
theorem rwithI_c (l : List Ty) (hr : rightP l) (x : Int) (n : Nat) (hx : x = (n : Int)) (hn : n < l.length) (args : List Int) (hargs : args.length ≤ 1000) {a a2 a3 : Option Addr} {k c k2 c2 k3 c3 : Nat} (mL : fL l a k c ∈ F) (mA : fI args a3 k3 c3 ∈ F) (mN : Fact.slc (.slice none 0 0) 5 [] ∈ F)
    (h3 : ∀ e, e ≠ 0 → subR l n args = .error e → R (vT none 0 0 none 0 0 0 none 0 0 e) L F)
    (h4 : ∀ o q a k c, subR l n args = .ok (o, q) → R (vT a k c a2 k2 c2 q none 0 0 0) L (fL o a k c :: F)) :
    ACalls Tryz.prog W0 137 #[.agg #[.slice a k c, .slice a2 k2 c2], .int .i64 x, .slice a3 k3 c3] L F R := by
  subst hx; exact rwithT_c l hr n hn args hargs mL mA mN h3 h4
theorem rundT_c (T : List Ty) (N : List Nmd) (hu : rightU T N) (i : Int) (h0 : 0 ≤ i) (hi : i < T.length) {a a2 : Option Addr} {k c k2 c2 : Nat} (mL : fL T a k c ∈ F) (mN : fN N a2 k2 c2 ∈ F) (mE : Fact.slc (.slice none 0 0) 5 [] ∈ F)
    (hE : ∀ e, e ≠ 0 → undR T N i = .error e → R (vT none 0 0 none 0 0 0 none 0 0 e) L F)
    (hO : ∀ o q a k c, undR T N i = .ok (o, q) → R (vT a k c a2 k2 c2 q none 0 0 0) L (fL o a k c :: F)) :
    ACalls Tryz.prog W0 83 #[.agg #[.slice a k c, .slice a2 k2 c2], .int .i64 i] L F R := by
  have hok := Hj hu.1
  obtain ⟨n, rfl⟩ : ∃ n : Nat, i = (n : Int) := ⟨i.toNat, by omega⟩
  have hn : n < T.length := by omega
  refine Gg Tryz.func83 HZ Tryz.ntmps83 HZ ?_
  refine qs 2 ?_
  refine Ga (GL HZ HZ (fun b2 => (Ga (Gj HZ (fun b4 => ?_)))))
  refine qs 7 ?_
  have hkl := (hok _ (List.getElem_mem hn)).kids
  refine Ga (Gd (k := n) HZ HZ HZ HZ (enc := eTy) (lst := T) memA hn (fun _ _ => ?_))
  refine Ga (GN HZ HZ ?_)
  intro a10 k10 z10 d10 e10 f10
  refine Ga (Gj HZ (fun b5 => ?_))
  refine qs 8 ?_
  refine Ga (GG HZ HZ HZ (fun c13 => ?_) (fun c13 => ?_))
  ·refine qs 13 ?_
   exact Gn (rs := [.cell 4 _]) (L' := L) (F' := fL T a k c :: F) Tryz.results83 (.agg (j := 1) rfl rfl rfl .nil) (Sub.drop.trans (Sub.drop.trans (Sub.drop.trans (Gh (mem1 memA (fun x hx => by repeat (first | exact hx | refine List.mem_cons_of_mem _ ?_))))))) (hO T n a k c (und_not hn c13))
  refine qs 6 ?_
  refine GP (fun _ => false) [(b2, _, _), (b5, _, _)] bxA HZ (fun hx hX => ?_)
  obtain ⟨j, hat, _⟩ := hu.2.2.2 _ (List.getElem_mem hn) c13
  obtain ⟨hjl, _⟩ := atN_some hat
  obtain ⟨u, hju, hul⟩ := at_und hu hjl
  have hund := und_8 hn c13 hjl hat hju
  have hk2 := (Gu (hX (fN N a2 k2 c2) memA)).1
  obtain ⟨p1, o1, e1, at1⟩ := GA (hX (fN N a2 k2 c2) memA) hjl
  cases e1
  obtain ⟨w1, x1, y1, w2, x2, y2, hv, hw1, hw2⟩ := nm_cells at1
  have hv2 := hv 2 _ rfl
  rw [hju] at hv2
  refine qt [0, 1, 2, 3, 4, 5, 10, 11] ?_
  refine Gm (i := 6) Ja HZ HZ (fun _ => ?_)
  refine Ge HZ HZ (ruat_c N T[n].name (show fN N _ _ _ ∈ _ from memA) (fun q hq => ?_) (fun hq => absurd hq (by rw [hat]; simp)))
  obtain rfl : q = j := by rw [hat] at hq; injection hq with hq; exact hq.symm
  refine Gi bxA memB ?_
  refine GD (i := 7) HZ (GE (k := q) HZ HZ HZ Jb) Ja HZ HZ ?_
  refine qt [8] ?_
  refine GR (i := 9) HZ (Ho HZ hv2) Ja Ja HZ HZ HZ ?_
  refine Gm (i := 12) Ja HZ HZ (fun _ => ?_)
  refine Ge HZ HZ (rwithT_c T hu.1 u hul T[n].kids Jb (show fL T _ _ _ ∈ _ from memA) (show fK T[n] _ _ _ ∈ _ from memA) memA (fun e h0 he => ?_) (fun o q a44 k44 c44 hq => ?_))
  all_goals refine Gi bxA memB ?_
  ·refine Gm (i := 13) Ja HZ HZ (fun _ => ?_)
   refine Gx HZ HZ HZ HZ ?_
   refine Gi bxA memB ?_
   refine Gq Ja ?_
   refine qs 2 ?_
   exact Gn (rs := [.cell 4 _]) (L' := L) (F' := F) Tryz.results83 (.agg (j := 1) rfl rfl rfl .nil) subA (hE e h0 (by rw [hund]; exact he))
  refine Gm (i := 13) Ja HZ HZ (fun _ => ?_)
  refine Gx HZ HZ HZ HZ ?_
  refine Gi bxA memB ?_
  refine Gq Ja ?_
  refine qs 2 ?_
  exact Gn (rs := [.cell 4 _]) (L' := L) (F' := fL o a44 k44 c44 :: F) Tryz.results83 (.agg (j := 1) rfl rfl rfl .nil) (Sub.drop.trans (Sub.drop.trans (Sub.drop.trans (GX (fun x hx => by repeat (first | exact hx | refine List.mem_cons_of_mem _ ?_)))))) (hO o q a44 k44 c44 (by rw [hund]; exact hq))
theorem rownT_c (T : List Ty) (N : List Nmd) (hu : rightU T N) (i : Int) (h0 : 0 ≤ i) (hi : i < T.length) {a a2 : Option Addr} {k c k2 c2 : Nat} (mL : fL T a k c ∈ F) (mN : fN N a2 k2 c2 ∈ F) (mE : Fact.slc (.slice none 0 0) 5 [] ∈ F)
    (hE : ∀ e, e ≠ 0 → ownR T N i = .error e → R (vT none 0 0 none 0 0 0 none 0 0 e) L F)
    (hO : ∀ o ms a k c a' k' c', ownR T N i = .ok (o, ms) → R (vT a k c a2 k2 c2 0 a' k' c' 0) L (fL o a k c :: fMs ms a' k' c' :: F)) :
    ACalls Tryz.prog W0 182 #[.agg #[.slice a k c, .slice a2 k2 c2], .int .i64 i] L F R := by
  have hml : 1000000 ≤ maxLen := by decide
  have hok := Hj hu.1
  obtain ⟨n, rfl⟩ : ∃ n : Nat, i = (n : Int) := ⟨i.toNat, by omega⟩
  have hn : n < T.length := by omega
  have hto := hok _ (List.getElem_mem hn)
  refine Hm (Hr (sz := 3)) ?_
  refine Gg Tryz.func182 HZ Tryz.ntmps182 HZ ?_
  refine qs 2 ?_
  refine Ga (GL HZ HZ (fun b2 => (Ga (Gj HZ (fun b4 => ?_)))))
  refine qs 7 ?_
  have hkl := hto.kids
  refine Ga (Gd (k := n) HZ HZ HZ HZ (enc := eTy) (lst := T) memA hn (fun _ _ => ?_))
  refine Ga (GN HZ HZ ?_)
  intro a16 k16 z16 d16 e16 f16
  refine Ga (Gj HZ (fun b5 => ?_))
  refine qs 7 ?_
  refine Ga (Gj HZ (fun b6 => ?_))
  refine qs 8 ?_
  refine GH (GZ (e := 44) (sz := 3)) ?_
  refine Ga (Gr HZ HZ HZ (fun c21 => ?_) (fun c21 => ?_))
  ·refine qs 7 ?_
   have hif := (GT hu.1 hn).iface c21
   have hzl := zips_len hif
   have hnm : ∀ w ∈ T[n].words, w.length ≤ 1048576 := hto.word
   refine Ga (Gt HZ HZ (fun hl24 => ?_) (enc := eS) (lst := T[n].words) (hm := memA))
   refine qs 4 ?_
   refine GB (fun (x : Nat × Option Addr × Nat × Nat) => x.1 ≤ T[n].words.length) (fun x => [(1, .int .i64 (n : Int)), (2, .pointer (some ⟨b2, 0, none⟩)), (4, .pointer (some ⟨b4, 0, none⟩)), (5, .pointer (some ⟨b5, 0, none⟩)), (6, .pointer (some ⟨b6, 0, none⟩)), (23, .slice a16 k16 z16), (24, .int .i64 T[n].words.length), (25, .int .i64 (x.1 : Int))]) (fun x => Res.own (.slice x.2.1 x.2.2.1 x.2.2.2) 44 3 ((ownZ ((zips T[n]).take x.1)).map eMt) :: Res.cells b6 #[.slice a k c, .slice a2 k2 c2, .int .i64 0, .slice x.2.1 x.2.2.1 x.2.2.2, .int .i64 0] 123 :: _) (fun _ => _) (fun x => T[n].words.length - x.1) (0, none, 0, 0) (by simp) srA (Gf _ _) ?_
   rintro ⟨q, a7, k7, c7⟩ hq
   simp only at hq ⊢
   refine qs 2 ?_
   refine Ga (Gw HZ HZ HZ (fun c26 => ?_) (fun c26 => ?_))
   ·refine qs 11 ?_
    have hql : q < T[n].words.length := by omega
    have hqk : q < T[n].kids.length := by omega
    have hqz : q < (zips T[n]).length := by omega
    have hzg := zips_get hql hqk hqz
    have hol := ownZ_len ((zips T[n]).take q)
    have htl : ((zips T[n]).take q).length = q := by rw [List.length_take]; omega
    refine Ga (Gd HZ HZ HZ HZ (show fW T[n] _ _ _ ∈ _ from memA) hql (fun _ _ => ?_))
    refine Ga (Gs HZ HZ ?_)
    intros
    refine qs 7 ?_
    refine Ga (Ge HZ HZ (rname_c T[n].words[q] (by have := hnm _ (List.getElem_mem hql); omega) (fun c31 => ?_) (fun c31 => ?_)))
    ·refine qs 3 ?_
     refine GP (fun i => Nat.beq i 12) [(b6, _, _), (b5, _, _)] bxA HZ (fun hx hX => ?_)
     have hkk := (Gu (hX (fK T[n] d16 e16 f16) memA)).1
     obtain ⟨p2, o2, e2, atq⟩ := GA (hX (fK T[n] d16 e16 f16) memA) hqk
     subst e2
     obtain ⟨vq, hvq, hcq⟩ := atq 0 _ rfl
     cases hcq
     refine qt [0, 1, 2, 3, 4, 5] ?_
     refine GD (i := 6) HZ (GE (k := q) HZ HZ HZ Jb) Ja HZ HZ ?_
     refine GR (i := 7) HZ (Ho HZ hvq) Ja Ja HZ HZ HZ ?_
     refine qt [8] ?_
     refine Gm (i := 9) Ja HZ HZ (fun _ => ?_)
     refine Gl HZ HZ HZ HZ HZ (fun b41 => ?_)
     refine Gi bxA memB ?_
     refine Gm (i := 10) Ja HZ HZ (fun _ => ?_)
     refine GJ (i := 0) (enc := eMt) (lst := ownZ ((zips T[n]).take q)) [⟨T[n].words[q], false, T[n].kids[q]⟩] HZ HZ HZ HZ (.val (.val (.val .nil))) HZ HZ (fun _ => rfl) Jb Jb (fun a42 k42 c42 => ?_)
     have hy := ownZ_yes hqz (by rw [hzg]; exact c31)
     rw [hzg] at hy
     rw [hy]
     refine Gi bxA memB ?_
     refine qt [11] ?_
     refine Gm (i := 12) Ja HZ HZ (fun _ => ?_)
     refine GM HZ HZ HZ ?_
     refine GC HZ ?_
     refine Gq Ja ?_
     refine qs 6 ?_
     exact Gk (q + 1, a42, k42, c42) (by simp only; omega) (by simp only; omega) srA subF
    refine qs 10 ?_
    refine Gk (q + 1, a7, k7, c7) (by simp only; omega) (by simp only; omega) srA ?_
    rw [ownZ_no hqz (by rw [hzg]; exact c31)]
    exact subF
   refine qs 14 ?_
   obtain rfl : q = T[n].words.length := by omega
   have hall : (zips T[n]).take T[n].words.length = zips T[n] := List.take_of_length_le Jb
   rw [hall]
   refine Ga (GG HZ HZ HZ (fun c47 => ?_) (fun c47 => absurd c21 Jb))
   refine qs 11 ?_
   exact Gn (rs := [.cell 4 _]) (L' := L) (F' := fL T a k c :: fMs (ownZ (zips T[n])) a7 k7 c7 :: F) Tryz.results182 (.agg (j := 3) rfl rfl rfl .nil) ((Gz (i := 0) rfl).trans (Sub.drop.trans (Sub.drop.trans (Sub.drop.trans (Sub.drop.trans (Sub.drop.trans (Gh (mem2 memA memA (fun x hx => by repeat (first | exact hx | refine List.mem_cons_of_mem _ ?_)))))))))) (hO T _ a k c a7 k7 c7 (own_7 hn c21))
  refine qs 10 ?_
  refine Ga (GG HZ HZ HZ (fun c47 => ?_) (fun c47 => ?_))
  ·refine qs 11 ?_
   exact Gn (rs := [.cell 4 _]) (L' := L) (F' := fL T a k c :: fMs [] none 0 0 :: F) Tryz.results182 (.agg (j := 3) rfl rfl rfl .nil) (Sub.drop.trans (Sub.drop.trans (Sub.drop.trans (Sub.drop.trans (Sub.drop.trans (Gh (mem2 memA memA (fun x hx => by repeat (first | exact hx | refine List.mem_cons_of_mem _ ?_))))))))) (hO T [] a k c none 0 0 (own_none hn c21 c47))
  refine qs 7 ?_
  refine GP (fun _ => false) [(b2, _, _), (b5, _, _)] bxA HZ (fun hx hX => ?_)
  obtain ⟨j, hat, _⟩ := hu.2.2.2 _ (List.getElem_mem hn) c47
  obtain ⟨hjl, _⟩ := atN_some hat
  have hown := own_8 hn c47 hjl hat
  have hnmd := (hu.2.2.1 j hjl).1
  have hm16 := hnmd.2.2.2.1
  have hk2 := (Gu (hX (fN N a2 k2 c2) memA)).1
  obtain ⟨p1, o1, e1, at1⟩ := GA (hX (fN N a2 k2 c2) memA) hjl
  cases e1
  obtain ⟨w1, x1, y1, w2, x2, y2, hv, hw1, hw2⟩ := nm_cells at1
  have hv3 := hv 3 _ rfl
  refine Hx hw2 memA ?_
  have hkm := (Gu hw2).1
  refine qt [0, 1, 2, 3, 4, 10] ?_
  refine Gm (i := 5) Ja HZ HZ (fun _ => ?_)
  refine Ge HZ HZ (ruat_c N T[n].name (show fN N _ _ _ ∈ _ from memA) (fun q hq => ?_) (fun hq => absurd hq (by rw [hat]; simp)))
  obtain rfl : q = j := by rw [hat] at hq; injection hq with hq; exact hq.symm
  refine Gi bxA memB ?_
  refine GD (i := 6) HZ (GE (k := q) HZ HZ HZ Jb) Ja HZ HZ ?_
  refine qt [7] ?_
  refine GR (i := 8) HZ (Ho HZ hv3) Ja Ja HZ HZ HZ ?_
  refine qt [9] ?_
  refine Gq Ja ?_
  refine qs 2 ?_
  subst hkm
  have hms : ∀ m ∈ N[q].methods, 0 ≤ m.sig ∧ m.sig < T.length := fun m hm => by
   obtain ⟨p, hp, rfl⟩ := List.getElem_of_mem hm
   have := (hnmd.2.2.2.2.1 p hp).2.1
   exact ⟨this.1, this.2.1⟩
  refine GB (fun (x : Nat × (List Ty × List Mth) × (Option Addr × Nat × Nat) × (Option Addr × Nat × Nat)) => x.1 ≤ N[q].methods.length ∧ turnR T[n].kids N[q].methods T x.1 = .ok x.2.1) (fun x => [(2, .pointer (some ⟨b2, 0, none⟩)), (4, .pointer (some ⟨b4, 0, none⟩)), (5, .pointer (some ⟨b5, 0, none⟩)), (6, .pointer (some ⟨b6, 0, none⟩)), (57, .slice w2 N[q].methods.length y2), (58, .int .i64 N[q].methods.length), (59, .int .i64 (x.1 : Int))]) (fun x => Res.own (.slice x.2.2.2.1 x.2.2.2.2.1 x.2.2.2.2.2) 44 3 (x.2.1.2.map eMt) :: Res.cells b6 #[.slice x.2.2.1.1 x.2.2.1.2.1 x.2.2.1.2.2, .slice (some ⟨p1, o1, none⟩) k2 c2, .int .i64 0, .slice x.2.2.2.1 x.2.2.2.2.1 x.2.2.2.2.2, .int .i64 0] 123 :: _) (fun x => fL x.2.1.1 x.2.2.1.1 x.2.2.1.2.1 x.2.2.1.2.2 :: _) (fun x => N[q].methods.length - x.1) (0, (T, []), (a, k, c), (none, 0, 0)) ⟨Nat.zero_le _, rfl⟩ srA (Gh (mem1 memA (fun x hx => hx))) ?_
  rintro ⟨v, ⟨o, out⟩, ⟨a1, k1, c1⟩, ⟨a9, k9, c9⟩⟩ ⟨hv9, hM⟩
  simp only at hv9 hM ⊢
  refine qs 2 ?_
  refine Ga (Gw HZ HZ HZ (fun c60 => ?_) (fun c60 => ?_))
  ·refine qs 10 ?_
   have hvm : v < N[q].methods.length := by omega
   obtain ⟨hro, hpo, hlo⟩ := turnR_ok hu hms v hv9 o out hM
   have hpl := hpo.length_le
   have hsg := hms _ (List.getElem_mem hvm)
   obtain ⟨u, hum⟩ : ∃ u : Nat, N[q].methods[v].sig = (u : Int) := ⟨N[q].methods[v].sig.toNat, by omega⟩
   have hun : N[q].methods[v].sig.toNat = u := by omega
   refine Ga (Gd HZ HZ HZ HZ (enc := eMt) (lst := N[q].methods) memA hvm (fun _ _ => ?_))
   refine Ga (GN HZ HZ ?_)
   refine Ga (Gj HZ (fun b10 => ?_))
   refine qs 11 ?_
   refine Ga (Ge HZ HZ (rwithI_c o hro.1 _ u hum Jb T[n].kids Jb (show fL o a1 k1 c1 ∈ _ from memA) (show fK T[n] _ _ _ ∈ _ from memA) memA (fun e h0 he => ?_) (fun o2 q2 a65 k65 c65 hq2 => ?_)))
   ·refine Ga (Gj HZ (fun b11 => ?_))
    refine qs 8 ?_
    refine Ga (GG HZ HZ HZ (fun _ => ?_) (fun c70 => absurd c70 h0))
    refine qs 18 ?_
    exact Gn (rs := [.cell 4 _]) (L' := L) (F' := F) Tryz.results182 (.agg (j := 5) rfl rfl rfl .nil) subA (hE e h0 (by rw [hown]; exact turn_bad hM hvm (by rw [hun]; exact he)))
   refine Ga (Gj HZ (fun b11 => ?_))
   refine qs 8 ?_
   refine Ga (GG HZ HZ HZ (fun c70 => absurd HZ c70) (fun _ => ?_))
   refine qs 25 ?_
   refine Ga (Gl HZ HZ HZ HZ HZ (fun b85 => ?_))
   refine Ga (GJ (i := 2) (enc := eMt) (lst := out) [⟨N[q].methods[v].name, N[q].methods[v].ptr, q2⟩] HZ HZ HZ HZ (.val (.val (.val .nil))) HZ HZ (fun _ => rfl) Jb Jb (fun a86 k86 c86 => ?_))
   refine qs 9 ?_
   exact Gk (v + 1, (o2, out ++ [⟨N[q].methods[v].name, N[q].methods[v].ptr, q2⟩]), (a65, k65, c65), (a86, k86, c86)) ⟨by simp only; omega, turn_out T hM hvm (by rw [hun]; exact hq2)⟩ (by simp only; omega) srA (Sub.drop.trans (Sub.drop.trans (Gh (mem1 memA (fun x hx => by repeat (first | exact hx | refine List.mem_cons_of_mem _ ?_))))))
  refine qs 16 ?_
  obtain rfl : v = N[q].methods.length := by omega
  exact Gn (rs := [.cell 4 _]) (L' := L) (F' := fL o a1 k1 c1 :: fMs out a9 k9 c9 :: F) Tryz.results182 (.agg (j := 3) rfl rfl rfl .nil) ((Gz (i := 0) rfl).trans (Sub.drop.trans (Sub.drop.trans (Sub.drop.trans (Sub.drop.trans (Sub.drop.trans (Gh (mem2 memA memA (fun x hx => by repeat (first | exact hx | refine List.mem_cons_of_mem _ ?_)))))))))) (hO o out a1 k1 c1 a9 k9 c9 (by rw [hown]; exact hM))
end
end Go.Sy
