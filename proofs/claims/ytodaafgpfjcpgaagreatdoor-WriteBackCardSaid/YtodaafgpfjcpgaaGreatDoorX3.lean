/- Joined of my own texts: FwE, FwF. -/
import Derived.Test.YtodaafgpfjcpgaaGreatDoorX2
import Derived.Laws.AppendOwnNone
namespace Go.Sy
open Go Go.RowKit
inductive Cells (F : List Fact) : List Value → List D → Prop where
  | nil : Cells F [] []
  | val {v : Value} {vs : List Value} {ds : List D} (h : Cells F vs ds) : Cells F (v :: vs) (.val v :: ds)
  | slc {v : Value} {sz : Nat} {rows : List (List D)} {vs : List Value} {ds : List D} (h : Cells F vs ds) (hm : Fact.slc v sz rows ∈ F) : Cells F (v :: vs) (.slc sz rows :: ds)
theorem Cells.length {F : List Fact} {vs : List Value} {ds : List D} (c : Cells F vs ds) : vs.length = ds.length := by
  induction c with
  | nil => rfl
  | val _ ih => simp [ih]
  | slc _ _ ih => simp [ih]
theorem Cells.get {F : List Fact} {vs : List Value} {ds : List D} (c : Cells F vs ds) {h : H} (hf : ∀ f ∈ F, f.holds h) : ∀ (j : Nat) (d : D), ds[j]? = some d → ∃ v, vs[j]? = some v ∧ CR h v d := by
  induction c with
  | nil => intro j d hj; simp at hj
  | val _ ih =>
    intro j d hj
    cases j with
    | zero => simp at hj; subst hj; exact ⟨_, rfl, .val _⟩
    | succ j => exact ih j d (by simpa using hj)
  | slc _ hm ih =>
    intro j d hj
    cases j with
    | zero => simp at hj; subst hj; exact ⟨_, rfl, hf _ hm⟩
    | succ j => exact ih j d (by simpa using hj)
theorem CR.oneC {h : H} {v : Value} {d : D} (c : CR h v d) (hd : ∀ u, d = .val u → oneC u = true) : Sy.oneC v = true := by
  cases c with
  | val => exact hd _ rfl
  | nil => rfl
  | slc => rfl
def ownP (v : Value) (e : TypeId) (sz : Nat) (rows : List (List D)) (h : H) (m : Hl) : Prop :=
  (∀ (i : Nat) (r : List D), rows[i]? = some r → r.length = sz) ∧
  ((v = .slice none 0 0 ∧ rows = [] ∧ ∀ k, m k = none) ∨
    ∃ g cap cur, v = .slice (some ⟨g, 0, none⟩) rows.length cap ∧ m = one g (.cells cur e (0, 0)) ∧ rows.length ≤ cap ∧ cap ≤ maxLen ∧ cur.size = cap * sz ∧
      ∀ (i : Nat) (r : List D) (j : Nat) (d : D), rows[i]? = some r → r[j]? = some d → ∃ x, cur[i * sz + j]? = some x ∧ CR h x d)
def Res.own (v : Value) (e : TypeId) (sz : Nat) (rows : List (List D)) : Res := ⟨ownP v e sz rows, fun h h' m hl ⟨h0, hp⟩ => ⟨h0, by
  rcases hp with hp | ⟨g, cap, cur, h1, h2, h3, h4, h5, h6⟩
  · exact .inl hp
  · exact .inr ⟨g, cap, cur, h1, h2, h3, h4, h5, fun i r j d hi hj => let ⟨x, hx, hc⟩ := h6 i r j d hi hj; ⟨x, hx, hc.mono hl⟩⟩⟩⟩
theorem flat_get {sz : Nat} : ∀ (rows : List (List D)), (∀ (i : Nat) (r : List D), rows[i]? = some r → r.length = sz) → ∀ (i : Nat) (r : List D) (j : Nat) (d : D), rows[i]? = some r → r[j]? = some d → rows.flatten[i * sz + j]? = some d
  | [], _, i, r, j, d, hi, _ => by simp at hi
  | r0 :: rows, h, i, r, j, d, hi, hj => by
    have h0 : r0.length = sz := h 0 r0 rfl
    cases i with
    | zero =>
      simp at hi; subst hi
      have hjl : j < r0.length := by
        rcases Nat.lt_or_ge j r0.length with q | q
        · exact q
        · simp [List.getElem?_eq_none q] at hj
      simp [List.getElem?_append_left hjl, hj]
    | succ i =>
      have := flat_get rows (fun i r hi => h (i + 1) r (by simpa using hi)) i r j d (by simpa using hi) hj
      simp only [List.flatten_cons]
      rw [List.getElem?_append_right (by rw [h0, Nat.add_mul]; omega), h0, show (i + 1) * sz + j - sz = i * sz + j by rw [Nat.add_mul]; omega]
      exact this
theorem flat_length {sz : Nat} : ∀ (rows : List (List D)), (∀ (i : Nat) (r : List D), rows[i]? = some r → r.length = sz) → rows.flatten.length = rows.length * sz
  | [], _ => by simp
  | r0 :: rows, h => by
    have h0 : r0.length = sz := h 0 r0 rfl
    have := flat_length rows (fun i r hi => h (i + 1) r (by simpa using hi))
    simp [this, h0, Nat.add_mul, Nat.add_comm]
theorem flat_split {sz : Nat} (hsz : 0 < sz) : ∀ (rows : List (List D)), (∀ (i : Nat) (r : List D), rows[i]? = some r → r.length = sz) → ∀ (q : Nat) (d : D), rows.flatten[q]? = some d → ∃ i r j, rows[i]? = some r ∧ r[j]? = some d ∧ q = i * sz + j
  | [], _, q, d, h => by simp at h
  | r0 :: rows, h, q, d, hq => by
    have h0 : r0.length = sz := h 0 r0 rfl
    simp only [List.flatten_cons] at hq
    rcases Nat.lt_or_ge q r0.length with k | k
    · rw [List.getElem?_append_left k] at hq
      exact ⟨0, r0, q, rfl, hq, by simp⟩
    · rw [List.getElem?_append_right k] at hq
      obtain ⟨i, r, j, hi, hj, e⟩ := flat_split hsz rows (fun i r hi => h (i + 1) r (by simpa using hi)) _ d hq
      exact ⟨i + 1, r, j, by simpa using hi, hj, by rw [Nat.add_mul]; omega⟩
section
variable {P : Program} {W0 : World} {n : Nat} {Q : Po} {ρ : Rho} {L : List Res} {F : List Fact} {ops : Array Oper} {l : List Oper} {K : Act → World → Prop}
variable {d : Tmp} {ty t : TypeId} {pos : String} {af : Array Edge} {g : Option (Nat × Bool)}
theorem has_lt {i : Nat} {r : Res} (h : L[i]? = some r) : i < L.length := by
  rcases Nat.lt_or_ge i L.length with k | k
  · exact k
  · simp [List.getElem?_eq_none k] at h
theorem Sub.ownNil {e : TypeId} {sz : Nat} : Sub L F (Res.own (.slice none 0 0) e sz [] :: L) F := by
  intro W0 w ⟨hb, h, m, s⟩
  exact ⟨hb, h, _, s.add (w' := w) hb.size ⟨rfl, rfl, rfl, Nat.le_refl _, fun _ _ _ => rfl⟩ _ (fun _ => none) ⟨by simp, .inl ⟨rfl, rfl, fun _ => rfl⟩⟩ (by simp)⟩
theorem Sub.commit {i : Nat} {v : Value} {e : TypeId} {sz : Nat} {rows : List (List D)} (hi : L[i]? = some (Res.own v e sz rows)) : Sub L F (L.set i Res.nix) (.slc v sz rows :: F) := by
  intro W0 w ⟨hb, h, m, s⟩
  have hl := has_lt hi
  obtain ⟨h', hle, hcell, s'⟩ := s.give hl
  refine ⟨hb, h', _, s'.facts fun f hf => ?_⟩
  rcases List.mem_cons.1 hf with rfl | hf
  · obtain ⟨h0, hp⟩ : ownP v e sz rows h (m i) := s.res i _ hi
    show CR h' v (.slc sz rows)
    rcases hp with ⟨rfl, rfl, _⟩ | ⟨gg, cap, cur, rfl, hm, hcap, hmax, hcs, hx⟩
    · exact .nil sz none 0 (fun _ => rfl)
    · have hbl : w.heap[gg]? = some (.cells cur e (0, 0)) := (s.own i gg _ hl (by rw [hm]; exact one_self _ _)).2.1
      refine .slc sz rows gg 0 cap (fun i j => cur.getD (i * sz + j) undef) hcap hmax h0 ?_ ?_
      · intro a r j dd ha hj
        obtain ⟨x, hx1, _⟩ := hx a r j dd ha hj
        refine hcell _ _ _ (by rw [hm, one_self]; simp) ?_
        simp [World.cell?, hbl, hx1, Array.getD_eq_getD_getElem?]
      · intro a r j dd ha hj
        obtain ⟨x, hx1, hx2⟩ := hx a r j dd ha hj
        simp only [Array.getD_eq_getD_getElem?, hx1, Option.getD_some]
        exact hx2.mono hle
  · exact s'.fact f hf
theorem Sub.toOwn {i b k : Nat} {cs : List Value} {e : TypeId} {sz : Nat} {α : Type} {enc : α → List D} (lst : List α) (hi : L[i]? = some (Res.cells b cs.toArray e)) (hc : Cells F cs (lst.map enc).flatten) (hsz : ∀ x, (enc x).length = sz) (hk : lst.length = k) (hm : k ≤ maxLen) :
    Sub L F (L.set i (Res.own (.slice (some ⟨b, 0, none⟩) k k) e sz (lst.map enc))) F := by
  intro W0 w ⟨hb, h, m, s⟩
  have hl := has_lt hi
  have hp : m i = one b (.cells cs.toArray e (0, 0)) := s.res i _ hi
  have hbl : w.heap[b]? = some (.cells cs.toArray e (0, 0)) := (s.own i b _ hl (by rw [hp]; exact one_self _ _)).2.1
  have hrow : ∀ (i : Nat) (r : List D), (lst.map enc)[i]? = some r → r.length = sz := by
    intro i r hr; simp at hr; obtain ⟨x, _, rfl⟩ := hr; exact hsz x
  refine ⟨hb, h, _, s.upd (w' := w) hb.size hl ⟨rfl, rfl, rfl, Nat.le_refl _, fun _ _ _ => rfl⟩ _ (one b (.cells cs.toArray e (0, 0))) ⟨hrow, .inr ⟨b, k, cs.toArray, by simp [hk], rfl, by simp [hk], hm, ?_, ?_⟩⟩ ?_⟩
  · have := hc.length
    rw [flat_length _ hrow] at this
    simp [this, hk]
  · intro a r j dd ha hj
    obtain ⟨v, hv, hcr⟩ := hc.get s.fact _ _ (flat_get _ hrow a r j dd ha hj)
    exact ⟨v, by simpa using hv, hcr⟩
  · intro b' O hm'
    obtain ⟨rfl, rfl⟩ := one_some hm'
    exact ⟨.inl (by rw [hp, one_self]; simp), hbl⟩
theorem Sub.lit {i b k : Nat} {cs : List Value} {e : TypeId} {sz : Nat} {α : Type} {enc : α → List D} (lst : List α) (hi : L[i]? = some (Res.cells b cs.toArray e)) (hc : Cells F cs (lst.map enc).flatten) (hsz : ∀ x, (enc x).length = sz) (hk : lst.length = k) (hm : k ≤ maxLen) :
    Sub L F (L.set i Res.nix) (.slc (.slice (some ⟨b, 0, none⟩) k k) sz (lst.map enc) :: F) := by
  have h1 := Sub.toOwn (sz := sz) (enc := enc) lst hi hc hsz hk hm
  have h2 := Sub.commit (L := L.set i (Res.own (.slice (some ⟨b, 0, none⟩) k k) e sz (lst.map enc))) (F := F) (i := i) (v := .slice (some ⟨b, 0, none⟩) k k) (e := e) (sz := sz) (rows := lst.map enc) (by simp [has_lt hi])
  simp only [List.set_set] at h2
  exact h1.trans h2
theorem oneC_iff (v : Value) : v.oneCell' = oneC v := by cases v <;> rfl
theorem append_where {w : World} {t ty e : TypeId} {i : TypeInfo} {z : Value} {base : Nat} (ht : P.underlying t = some (.slice e)) (hi : P.info? e = some i) (hz : i.zero = some z) (hzs : z.cells.size = i.size) (hsz : 0 < i.size)
    {v : Value} {n : Nat} {xs : List Value} (hown : w.ownsRow base e i.size v n xs) {a : Addr} {m c : Nat} {news : List Value} (hl : news.length = m * i.size) (hnews : ∀ j u, news[j]? = some u → w.cell? (a.add j) = some u) (h1 : ∀ u ∈ news, u.oneCell' = true)
    (h63 : n + m ≤ maxLen) (hbytes : (n + m) * i.bytes ≤ 140737488355328) {v' : Value} {w' : World} (hr : (Builtin.append_ #[t, t] ty #[v, .slice (some a) m c]).run P w = .ok v' w') {g : Nat} (hg : v'.ownBlock = some g) : v.ownBlock = some g ∨ w.heap.size ≤ g := by
  have hsmall : n + m ≤ 9223372036854775807 := by simp only [maxLen] at h63; omega
  rcases hown.2 with ⟨rfl, rfl⟩ | ⟨q, cap, cur, rfl, hbg, hq, hnc, hcm, hcs, htake⟩
  · obtain ⟨v2, w2, hr2, ho2, _, _⟩ := run_append_own (P := P) w w.heap.size t ty e i z i.size i.bytes ht hi hz rfl rfl hzs hsz (.slice none 0 0) 0 [] (World.ownsRow_nil w _ e i.size) a m c news hl hnews h1 h63 hbytes (Nat.le_refl _)
    rw [hr] at hr2
    injection hr2 with e1 e2
    subst e1
    right
    rcases ho2.2 with ⟨rfl, _⟩ | ⟨q, _, _, rfl, hb, _⟩
    · simp [Value.ownBlock] at hg
    · simp [Value.ownBlock] at hg; omega
  · by_cases hroom : n + m ≤ cap
    · have hfit : n * i.size + news.length ≤ cur.size := by rw [hl, hcs, ← Nat.add_mul]; exact Nat.mul_le_mul_right _ hroom
      have hr2 := run_append_room (P := P) w t ty e i ht hi q n cap cur hq a m c news hl hnews h1 hroom hfit
      rw [hr] at hr2
      injection hr2 with e1 e2
      subst e1
      left; simpa [Value.ownBlock] using hg
    · have holds : ∀ j u, xs[j]? = some u → w.cell? ((⟨q, 0, none⟩ : Addr).add j) = some u := hown.cells (g := q) rfl
      have hr2 := run_append_grow (P := P) w t ty e i z ht hi hz ⟨q, 0, none⟩ n cap xs hown.1 holds a m c news hl hnews (by omega) (by omega) (growslice_fits (by omega) hbytes)
      rw [hr] at hr2
      injection hr2 with e1 e2
      subst e1
      right; simp [Value.ownBlock] at hg; omega
theorem Sat.ownSl {w : World} {i : Nat} {v : Value} {e : TypeId} {sz : Nat} {rows : List (List D)} (s : Sat W0 L F w) (hi : L[i]? = some (Res.own v e sz rows)) : ∃ a c, v = .slice a rows.length c := by
  obtain ⟨_, h, m, sx⟩ := s
  obtain ⟨_, hp⟩ : ownP v e sz rows h (m i) := sx.res i _ hi
  rcases hp with ⟨rfl, rfl, _⟩ | ⟨g, cap, cur, rfl, _⟩
  · exact ⟨_, _, rfl⟩
  · exact ⟨_, _, rfl⟩
theorem append_own {w : World} {v : Value} {e : TypeId} {sz bytes : Nat} {α : Type} {enc : α → List D} {lst news : List α} {i : Nat} {ad : Addr} {c : Nat} [ht : SlT P t e sz bytes]
    (s : Sat W0 L F w) (hi : L[i]? = some (Res.own v e sz (lst.map enc))) (hsz : ∀ x, (enc x).length = sz)
    (hcell : ∀ (h : H) (m : Nat → Hl), SatX W0.heap.size L F w h m → ∃ cs : List Value, cs.length = news.length * sz ∧ (∀ j u, cs[j]? = some u → w.cell? (ad.add j) = some u) ∧ (∀ u ∈ cs, oneC u = true) ∧ ∀ (j : Nat) (d : D), (news.map enc).flatten[j]? = some d → ∃ u, cs[j]? = some u ∧ CR h u d)
    (h63 : lst.length + news.length ≤ maxLen) (hbytes : (lst.length + news.length) * bytes ≤ 140737488355328) (aty : TypeId) :
    ∃ v' w', (Builtin.append_ #[t, t] aty #[v, .slice (some ad) news.length c]).run P w = .ok v' w' ∧ Sat W0 (L.set i (Res.own v' e sz ((lst ++ news).map enc))) F w' := by
  obtain ⟨hb, h, m, sx⟩ := s
  have hl := has_lt hi
  obtain ⟨ti, z, hti, h1, h2, h3, h4⟩ := ht.info
  obtain ⟨cs, hcl, hcc, hone, hcr⟩ := hcell h m sx
  have hrow : ∀ (ls : List α) (i : Nat) (r : List D), (ls.map enc)[i]? = some r → r.length = sz := by
    intro ls i r hr; simp at hr; obtain ⟨x, _, rfl⟩ := hr; exact hsz x
  obtain ⟨_, hp⟩ : ownP v e sz (lst.map enc) h (m i) := sx.res i _ hi
  obtain ⟨xs, hown, hxs⟩ : ∃ xs, w.ownsRow W0.heap.size e sz v lst.length xs ∧ ∀ (i : Nat) (r : List D) (j : Nat) (d : D), (lst.map enc)[i]? = some r → r[j]? = some d → ∃ x, xs[i * sz + j]? = some x ∧ CR h x d := by
    rcases hp with ⟨hv, hr, _⟩ | ⟨gg, cap, cur, hv, hm, hcap, hmax, hcs, hx⟩
    · have hl0 : lst.length = 0 := by have := congrArg List.length hr; simpa using this
      refine ⟨[], ⟨by simp [hl0], .inl ⟨hv, hl0⟩⟩, ?_⟩
      intro i r j d hi; rw [hr] at hi; simp at hi
    · have hll : (lst.map enc).length = lst.length := by simp
      rw [hll] at hv hcap
      have hbl := sx.own i gg _ hl (by rw [hm]; exact one_self _ _)
      refine ⟨cur.toList.take (lst.length * sz), ⟨?_, .inr ⟨gg, cap, cur, hv, hbl.1, hbl.2.1, hcap, hmax, hcs, rfl⟩⟩, ?_⟩
      · have := Nat.mul_le_mul_right sz hcap
        have hcl : cur.toList.length = cap * sz := by simp [hcs]
        rw [List.length_take]; omega
      · intro a r j d ha hj
        obtain ⟨x, hx1, hx2⟩ := hx a r j d ha hj
        refine ⟨x, ?_, hx2⟩
        have hal : a < lst.length := by
          rcases Nat.lt_or_ge a lst.length with q | q
          · exact q
          · rw [List.getElem?_eq_none (by simpa using q)] at ha; simp at ha
        have hjl : j < sz := by
          rw [← hrow lst a r ha]
          rcases Nat.lt_or_ge j r.length with q | q
          · exact q
          · simp [List.getElem?_eq_none q] at hj
        have hlt : a * sz + j < lst.length * sz := by
          have := Nat.mul_le_mul_right sz (Nat.succ_le_of_lt hal)
          rw [Nat.succ_mul] at this; omega
        rw [List.getElem?_take_of_lt hlt]
        simpa using hx1
  obtain ⟨v', w', hrun, hown', hg, _⟩ := run_append_own (P := P) w W0.heap.size t aty e ti z sz bytes ht.und hti h3 h1 h2 h4 ht.pos v lst.length xs hown ad news.length c cs hcl hcc (fun u hu => by rw [oneC_iff]; exact hone u hu) h63 hbytes hb.size
  refine ⟨v', w', hrun, ?_⟩
  -- the new own row
  have hnew : ∀ (i : Nat) (r : List D) (j : Nat) (d : D), ((lst ++ news).map enc)[i]? = some r → r[j]? = some d → ∃ x, (xs ++ cs)[i * sz + j]? = some x ∧ CR h x d := by
    intro a r j dd ha hj
    have hxl : xs.length = lst.length * sz := hown.1
    have hjl : j < sz := by
      rw [← hrow (lst ++ news) a r ha]
      rcases Nat.lt_or_ge j r.length with q | q
      · exact q
      · simp [List.getElem?_eq_none q] at hj
    rcases Nat.lt_or_ge a lst.length with q | q
    · rw [List.map_append, List.getElem?_append_left (by simpa using q)] at ha
      obtain ⟨x, hx1, hx2⟩ := hxs a r j dd ha hj
      refine ⟨x, ?_, hx2⟩
      have hlt : a * sz + j < xs.length := by
        have := Nat.mul_le_mul_right sz (Nat.succ_le_of_lt q)
        rw [Nat.succ_mul] at this; omega
      rw [List.getElem?_append_left hlt]; exact hx1
    · rw [List.map_append, List.getElem?_append_right (by simpa using q)] at ha
      simp only [List.length_map] at ha
      obtain ⟨u, hu, hcu⟩ := hcr _ _ (flat_get _ (hrow news) _ r j dd ha hj)
      refine ⟨u, ?_, hcu⟩
      have e1 : a * sz + j - xs.length = (a - lst.length) * sz + j := by
        rw [hxl, Nat.sub_mul]; have := Nat.mul_le_mul_right sz q; omega
      rw [List.getElem?_append_right (by rw [hxl]; have := Nat.mul_le_mul_right sz q; omega), e1]
      exact hu
  -- where the old block lay
  have hblk : ∀ k, m i k = none → some k ≠ v.ownBlock := by
    intro k hk he
    rcases hp with ⟨hv, _, _⟩ | ⟨gg, cap, cur, hv, hm, _⟩
    · subst hv; simp [Value.ownBlock] at he
    · subst hv; simp [Value.ownBlock] at he; subst he; rw [hm, one_self] at hk; simp at hk
  have st : Step w w' (m i) := ⟨hg.os, hg.tape, hg.output, hg.size, fun k hk hmk => hg.block k hk (hblk k hmk)⟩
  obtain ⟨hlen', hw'⟩ := hown'
  have hn' : ((lst ++ news).map enc).length = lst.length + news.length := by simp
  rcases hw' with ⟨hv', hz⟩ | ⟨gg, cap, cur, hv', hbase, hbl, hcap, hmax, hcs, hcur⟩
  · have hnil : (lst ++ news).map enc = [] := by apply List.eq_nil_of_length_eq_zero; rw [hn']; omega
    refine ⟨Sat.below_of hb st (fun b O hm => (sx.own i b O hl hm).1), h, _, sx.upd hb.size hl st _ (fun _ => none) ⟨hrow _, .inl ⟨hv', hnil, fun _ => rfl⟩⟩ (by simp)⟩
  · refine ⟨Sat.below_of hb st (fun b O hm => (sx.own i b O hl hm).1), h, _, sx.upd hb.size hl st _ (one gg (.cells cur e (0, 0))) ⟨hrow _, .inr ⟨gg, cap, cur, by rw [hn']; exact hv', rfl, by rw [hn']; exact hcap, hmax, hcs, ?_⟩⟩ ?_⟩
    · intro a r j dd ha hj
      obtain ⟨x, hx1, hx2⟩ := hnew a r j dd ha hj
      refine ⟨x, ?_, hx2⟩
      rw [← hcur] at hx1
      have : a * sz + j < (cur.toList.take ((lst.length + news.length) * sz)).length := by
        rcases Nat.lt_or_ge (a * sz + j) (cur.toList.take ((lst.length + news.length) * sz)).length with q | q
        · exact q
        · simp [List.getElem?_eq_none q] at hx1
      rw [List.getElem?_take_of_lt (by simp at this; omega)] at hx1
      simpa using hx1
    · intro b' O hm'
      obtain ⟨rfl, rfl⟩ := one_some hm'
      refine ⟨?_, hbl⟩
      rcases Nat.lt_or_ge b' w.heap.size with q | q
      · left
        intro hmn
        subst h1 h2
        rcases append_where ht.und hti h3 h4 ht.pos hown hcl hcc (fun u hu => by rw [oneC_iff]; exact hone u hu) h63 hbytes hrun (g := b') (by rw [hv']; rfl) with k | k
        · exact hblk b' hmn k.symm
        · omega
      · exact .inr q
section
variable {x y : Operand} {v : Value} {e sz bytes : Nat} {α : Type} {enc : α → List D} {lst : List α} {aty : Array TypeId}
theorem Sat.dropAt {w : World} {i : Nat} (s : Sat W0 L F w) (hi : i < L.length) : Sat W0 (L.set i Res.nix) F w := by
  obtain ⟨hb, h, m, sx⟩ := s
  obtain ⟨h', hle, _, s'⟩ := sx.give hi
  exact ⟨hb, h', _, s'⟩
theorem AO.appendGo {Z : Po} {a : Act} {w : World} {o : Oper} {v' : Value} {w' : World} {L' : List Res} (ho : o.dst = some d) (hd : Nat.blt d n = true) (hop : o.op = .call ⟨.builtin .append, #[x, y], #[t, t]⟩) (s : St W0 n ρ L F a w) (hx : ev ρ x = some v) {u : Value} (hy : ev ρ y = some u)
    (hrun : (Builtin.append_ #[t, t] o.type #[v, u]).run P w = .ok v' w') (s' : Sat W0 L' F w') (h : AT W0 n K ((d, v') :: ρ) L' F) : ow P o a w K Z := by
  have hr : (execOp a.eval o).run P w = .ok (.value v') w' := by
    simp [execOp, hop, resolve, invoke, builtin, ev_eval s.slots hx, ev_eval s.slots hy, hrun]
  refine ⟨not_defer hr (fun _ e => by cases e), ?_⟩
  simp only [hr, owR, ho]
  exact h _ _ ⟨s.slots.put (Nat.le_of_ble_eq_true hd) _, s'⟩
theorem AO.append {b c k : Nat} {cs : List Value} (news : List α) (hx : ev ρ x = some v) (hy : ev ρ y = some (.slice (some ⟨b, 0, none⟩) k c)) (hd : Nat.blt d n = true) [ht : SlT P t e sz bytes] {i : Nat} (hi : L[i]? = some (Res.own v e sz (lst.map enc)))
    (hc : Cells F cs (news.map enc).flatten) (h1 : cs.all oneC = true) (hk : news.length = k) (hsz : ∀ x, (enc x).length = sz) (h63 : lst.length + k ≤ maxLen) (hbytes : (lst.length + k) * bytes ≤ 140737488355328)
    (h : ∀ a k c, AT W0 n K ((d, .slice a k c) :: ρ) (L.set i (Res.own (.slice a k c) e sz ((lst ++ news).map enc))) F) : AO P W0 n K ⟨some d, .call ⟨.builtin .append, #[x, y], #[t, t]⟩, ty, pos, af, g⟩ Q ρ (Res.cells b cs.toArray e :: L) F := by
  intro a w s
  subst hk
  have hbl : w.heap[b]? = some (.cells cs.toArray e (0, 0)) := s.sat.block (i := 0) rfl
  have hrow : ∀ (i : Nat) (r : List D), (news.map enc)[i]? = some r → r.length = sz := by
    intro i r hr; simp at hr; obtain ⟨x, _, rfl⟩ := hr; exact hsz x
  obtain ⟨v', w', hrun, s'⟩ := append_own (P := P) (t := t) (bytes := bytes) (lst := lst) (news := news) (i := i + 1) (ad := ⟨b, 0, none⟩) (c := c) s.sat (by simpa using hi) hsz (fun hh mm sx => by
    refine ⟨cs, ?_, fun j u hj => by rw [Addr.add_lit, block_cell hbl]; simpa using hj, fun u hu => by simpa using List.all_eq_true.1 h1 u hu, fun j dd hj => hc.get sx.fact j dd hj⟩
    rw [hc.length, flat_length _ hrow]; simp) h63 hbytes ty
  obtain ⟨a0, c0, rfl⟩ := s'.ownSl (i := i + 1) (v := v') (e := e) (sz := sz) (rows := (lst ++ news).map enc) (by simp [has_lt hi])
  have s2 := s'.dropAt (i := 0) (by simp)
  have s3 : Sat W0 (L.set i (Res.own (.slice a0 ((lst ++ news).map enc).length c0) e sz ((lst ++ news).map enc))) F w' := by
    have := (Sub.drop (r := Res.nix) (L := L.set i (Res.own (.slice a0 ((lst ++ news).map enc).length c0) e sz ((lst ++ news).map enc))) (F := F)) W0 w' (by simpa using s2)
    exact this
  exact AO.appendGo rfl hd rfl s hx hy hrun s3 (h _ _ _)
theorem AO.appendF {u : Value} {lst2 : List α} (hx : ev ρ x = some v) (hy : ev ρ y = some u) (hd : Nat.blt d n = true) [ht : SlT P t e sz bytes] {i : Nat} (hi : L[i]? = some (Res.own v e sz (lst.map enc))) (hm : Fact.slc u sz (lst2.map enc) ∈ F) (hone : ∀ x d, d ∈ enc x → ∀ v, d = .val v → oneC v = true)
    (hsz : ∀ x, (enc x).length = sz) (h63 : lst.length + lst2.length ≤ maxLen) (hbytes : (lst.length + lst2.length) * bytes ≤ 140737488355328)
    (h : ∀ a k c, AT W0 n K ((d, .slice a k c) :: ρ) (L.set i (Res.own (.slice a k c) e sz ((lst ++ lst2).map enc))) F) : AO P W0 n K ⟨some d, .call ⟨.builtin .append, #[x, y], #[t, t]⟩, ty, pos, af, g⟩ Q ρ L F := by
  intro a w s
  obtain ⟨hb, h0, m, sx⟩ := s.sat
  have c : CR h0 u (.slc sz (lst2.map enc)) := sx.fact _ hm
  have hrow : ∀ (i : Nat) (r : List D), (lst2.map enc)[i]? = some r → r.length = sz := by
    intro i r hr; simp at hr; obtain ⟨x, _, rfl⟩ := hr; exact hsz x
  generalize hr2 : lst2.map enc = rows at c
  have fin : ∀ ad cc, u = .slice (some ad) lst2.length cc → (∀ hh : H, (∀ f ∈ F, f.holds hh) → (∀ b o v, hh b o = some v → w.cell? ⟨b, o, none⟩ = some v) → ∃ cs : List Value, cs.length = lst2.length * sz ∧ (∀ j u, cs[j]? = some u → w.cell? (ad.add j) = some u) ∧ (∀ u ∈ cs, oneC u = true) ∧ ∀ (j : Nat) (d : D), (lst2.map enc).flatten[j]? = some d → ∃ u, cs[j]? = some u ∧ CR hh u d) →
      ow P ⟨some d, .call ⟨.builtin .append, #[x, y], #[t, t]⟩, ty, pos, af, g⟩ a w K Q := by
    intro ad cc hu hcell
    subst hu
    obtain ⟨v', w', hrun, s'⟩ := append_own (P := P) (t := t) (bytes := bytes) (lst := lst) (news := lst2) (i := i) (ad := ad) (c := cc) s.sat hi hsz (fun hh _ sx => hcell hh sx.fact sx.cell) h63 hbytes ty
    obtain ⟨a0, c0, rfl⟩ := s'.ownSl (i := i) (v := v') (e := e) (sz := sz) (rows := (lst ++ lst2).map enc) (by simp [has_lt hi])
    exact AO.appendGo rfl hd rfl s hx hy hrun s' (h _ _ _)
  generalize hD : D.slc sz rows = dd at c
  cases c with
  | val => simp at hD
  | nil sz' ad cap hn =>
    simp at hD
    obtain ⟨_, rfl⟩ := hD
    have hl2 : lst2 = [] := by simpa using hr2
    subst hl2
    cases ad with
    | some ad => exact fin ad cap (by simp) (fun hh _ _ => ⟨[], by simp, by simp, by simp, by simp⟩)
    | none =>
      have hc0 := hn rfl
      subst hc0
      obtain ⟨ti, z, hti, h1, h2, h3, h4⟩ := ht.info
      have hl := has_lt hi
      obtain ⟨_, hp⟩ : ownP v e sz (lst.map enc) h0 (m i) := sx.res i _ hi
      obtain ⟨xs, hown⟩ : ∃ xs, w.ownsRow W0.heap.size e sz v lst.length xs := by
        rcases hp with ⟨hv, hr, _⟩ | ⟨gg, cap, cur, hv, hm', hcap, hmax, hcs, hx⟩
        · have hl0 : lst.length = 0 := by have := congrArg List.length hr; simpa using this
          exact ⟨[], ⟨by simp [hl0], .inl ⟨hv, hl0⟩⟩⟩
        · have hll : (lst.map enc).length = lst.length := by simp
          rw [hll] at hv hcap
          have hbl := sx.own i gg _ hl (by rw [hm']; exact one_self _ _)
          refine ⟨cur.toList.take (lst.length * sz), ⟨?_, .inr ⟨gg, cap, cur, hv, hbl.1, hbl.2.1, hcap, hmax, hcs, rfl⟩⟩⟩
          have := Nat.mul_le_mul_right sz hcap
          have hcl : cur.toList.length = cap * sz := by simp [hcs]
          rw [List.length_take]; omega
      have hrun := run_append_owned_none (P := P) (w := w) W0.heap.size t ty e ti sz ht.und hti v lst.length xs hown
      have hLi : L.set i (Res.own v e sz ((lst ++ []).map enc)) = L := by
        rw [List.append_nil]; exact (List.getElem?_eq_some_iff.1 hi).2 ▸ List.set_getElem_self _
      obtain ⟨a0, c0, rfl⟩ := s.sat.ownSl hi
      have := h a0 (lst.map enc).length c0
      rw [hLi] at this
      exact AO.appendGo rfl hd rfl s hx hy hrun s.sat this
  | slc sz' rows' b o cap cell hcap hmax hs2 hh hc =>
    simp at hD
    obtain ⟨rfl, rfl⟩ := hD
    subst hr2
    refine fin ⟨b, o, none⟩ cap (by simp) (fun h2 hf2 hcell2 => ?_)
    have c2 : CR h2 _ (.slc sz (lst2.map enc)) := hf2 _ hm
    clear hh hc hs2 hmax hcap cell
    generalize hR : lst2.map enc = rows2 at c2
    generalize hL : rows2.length = len at c2
    cases c2 with
    | nil => have hz : lst2 = [] := by simpa using hR
             subst hz; exact ⟨[], by simp, by simp, by simp, by simp⟩
    | slc _ _ b o cap cell hcap hmax hs2 hh hc =>
      subst hR
      let fl := (lst2.map enc).flatten
      have hfl : fl.length = lst2.length * sz := by simp only [fl]; rw [flat_length _ hrow]; simp
      have hsz0 := ht.pos
      have key : ∀ q, q < lst2.length * sz → ∃ r dd, (lst2.map enc)[q / sz]? = some r ∧ r[q % sz]? = some dd ∧ (∃ x ∈ lst2, enc x = r) ∧ q = q / sz * sz + q % sz := by
        intro q hq
        have h1 : q / sz < lst2.length := Nat.div_lt_of_lt_mul (by rwa [Nat.mul_comm])
        have h2 : q % sz < sz := Nat.mod_lt _ hsz0
        have hr : (lst2.map enc)[q / sz]? = some (enc lst2[q / sz]) := by simp [h1]
        have h3 : q % sz < (enc lst2[q / sz]).length := by rw [hsz]; exact h2
        exact ⟨_, _, hr, List.getElem?_eq_getElem h3, ⟨_, List.getElem_mem h1, rfl⟩, by have := Nat.div_add_mod q sz; rw [Nat.mul_comm] at this; omega⟩
      refine ⟨(List.range (lst2.length * sz)).map fun q => cell (q / sz) (q % sz), by simp, ?_, ?_, ?_⟩
      · intro j u hj
        rw [List.getElem?_map] at hj
        have hq : j < lst2.length * sz := by
          rcases Nat.lt_or_ge j (lst2.length * sz) with k | k
          · exact k
          · rw [List.getElem?_eq_none (by simpa using k)] at hj; simp at hj
        rw [List.getElem?_range hq] at hj
        simp at hj
        subst hj
        obtain ⟨r, dd, h1, h2, _, h4⟩ := key j hq
        rw [Addr.add_lit]
        refine hcell2 _ _ _ ?_
        have := hh _ r _ dd h1 h2
        rwa [Nat.add_assoc, ← h4] at this
      · intro u hu
        simp at hu
        obtain ⟨q, hq, rfl⟩ := hu
        obtain ⟨r, dd, h1, h2, ⟨x, hx, rfl⟩, h4⟩ := key q hq
        exact CR.oneC (hc _ _ _ dd h1 h2) (fun u e => hone x dd (List.mem_of_getElem? h2) u e)
      · intro q dd hq
        obtain ⟨a, r, jj, h1, h2, rfl⟩ := flat_split hsz0 _ hrow q dd hq
        have hjj : jj < sz := by
          rw [← hrow a r h1]
          rcases Nat.lt_or_ge jj r.length with k | k
          · exact k
          · simp [List.getElem?_eq_none k] at h2
        have hdiv : (a * sz + jj) / sz = a := by rw [Nat.mul_comm, Nat.mul_add_div hsz0, Nat.div_eq_of_lt hjj]; rfl
        have hmod : (a * sz + jj) % sz = jj := by rw [Nat.mul_comm, Nat.mul_add_mod, Nat.mod_eq_of_lt hjj]
        have hlt : a * sz + jj < lst2.length * sz := by
          have hl : (lst2.map enc).flatten.length = lst2.length * sz := by rw [flat_length _ hrow]; simp
          rw [← hl]
          rcases Nat.lt_or_ge (a * sz + jj) (lst2.map enc).flatten.length with k | k
          · exact k
          · simp [List.getElem?_eq_none k] at hq
        refine ⟨cell a jj, ?_, hc a r jj dd h1 h2⟩
        simp [hlt, hdiv, hmod]
end
end
end Go.Sy
namespace Go.Sy
abbrev He := @Sub.commit
abbrev Ho := @AO.append
end Go.Sy
namespace Go.Sy
open Go Go.RowKit
section
variable {P : Program} {W0 : World} {n : Nat} {Q : Po} {ρ : Rho} {L : List Res} {F : List Fact} {ops : Array Oper} {l : List Oper} {K : Act → World → Prop}
variable {d : Tmp} {ty t : TypeId} {pos : String} {af : Array Edge} {g : Option (Nat × Bool)} {x y : Operand} {aty : Array TypeId}
def evP (ρ : Rho) : List (Nat × Operand) → Option (List (Nat × Value))
  | [] => some []
  | (i, x) :: xs => match ev ρ x with
    | none => none
    | some v => match evP ρ xs with
      | none => none
      | some vs => some ((i, v) :: vs)
theorem evP_eval {ρ : Rho} {a : Act} (h : Slots n ρ a) : ∀ {xs : List (Nat × Operand)} {vs : List (Nat × Value)}, evP ρ xs = some vs → (xs.toArray.map fun x => (x.1, a.eval x.2)) = vs.toArray
  | [], vs, e => by simp [evP] at e; subst e; simp
  | (i, x) :: xs, vs, e => by
    simp only [evP] at e
    split at e
    · simp at e
    · rename_i v hv
      split at e
      · simp at e
      · rename_i ws hw
        simp at e; subst e
        have := evP_eval h hw
        simp at this
        simp [ev_eval h hv, this]
def fillL (pl : Nat → Option (Nat × Nat)) : List Value → List (Nat × Value) → Option (List Value)
  | cs, [] => some cs
  | cs, (i, v) :: r => match pl i with
    | none => none
    | some (off, size) => bif Nat.beq (cellsL v).length size && Nat.ble (off + size) cs.length then fillL pl (putL cs off (cellsL v)) r else none
theorem fold_put (off : Nat) : ∀ (vs : List Value) (k : Nat) (cs : List Value), (vs.zipIdx k).foldl (fun (cs : Array Value) (p : Value × Nat) => cs.setIfInBounds (off + p.2) p.1) cs.toArray = (putL cs (off + k) vs).toArray
  | [], k, cs => by simp [putL]
  | v :: vs, k, cs => by
    simp only [List.zipIdx_cons, List.foldl_cons, putL]
    rw [List.setIfInBounds_toArray, fold_put off vs (k + 1)]
    rfl
theorem fill_of {pl : Nat → Option (Nat × Nat)} : ∀ (ps : List (Nat × Value)) (cs out : List Value), fillL pl cs ps = some out → Instr.fill pl cs.toArray ps = some out.toArray
  | [], cs, out, h => by simp [fillL] at h; simp [Instr.fill, h]
  | (i, v) :: r, cs, out, h => by
    simp only [fillL] at h
    cases hp : pl i with
    | none => simp [hp] at h
    | some q =>
      obtain ⟨off, size⟩ := q
      simp only [hp] at h
      cases hb : (Nat.beq (cellsL v).length size && Nat.ble (off + size) cs.length) with
      | false => simp [hb] at h
      | true =>
        simp only [hb, cond_true] at h
        simp only [Bool.and_eq_true] at hb
        have h1 : (cellsL v).length = size := Nat.eq_of_beq_eq_true hb.1
        have h2 := Nat.le_of_ble_eq_true hb.2
        have hc : v.cells = (cellsL v).toArray := (cellsL_toArray v).symm
        have ih := fill_of r _ out h
        have hlen : v.cells.size = size := by rw [hc]; simpa using h1
        have hle : ¬ (off + v.cells.size > cs.toArray.size) := by rw [hlen]; simp; omega
        have hfold := fold_put off (cellsL v) 0 cs
        simp only [Instr.fill, hp]
        rw [if_neg (by simp [hlen]; simpa using h2)]
        have e2 : v.cells.zipIdx.foldl (fun (cs : Array Value) (p : Value × Nat) => cs.setIfInBounds (off + p.2) p.1) cs.toArray = (putL cs off (cellsL v)).toArray := by
          have hz : (cellsL v).toArray.zipIdx = ((cellsL v).zipIdx 0).toArray := by simp
          rw [hc, hz, ← Array.foldl_toList]
          exact hfold
        have e3 : (v.cells.zipIdx.foldl (fun cs (c, j) => cs.setIfInBounds (off + j) c) cs.toArray) = v.cells.zipIdx.foldl (fun (cs : Array Value) (p : Value × Nat) => cs.setIfInBounds (off + p.2) p.1) cs.toArray := rfl
        rw [e3, e2]
        exact ih
class BdT (P : Program) (t : TypeId) (zs : outParam (List Value)) (pl : outParam (List (Nat × Nat))) : Prop where
  zero : ∀ w, (zeroValue t).run P w = .ok (.agg zs.toArray) w
  built : ∀ parts w, (Instr.build t parts).run P w = (match Instr.fill (pl[·]?) zs.toArray parts.toList with | some cells => .ok (.agg cells) w | none => .halt (.stuck "build: no such field, or a part of the wrong size") w)
def fdGo (f : Field) : Sem (Nat × Nat) := do pure (f.offset, ← sizeOf f.type)
theorem BdT.of {P : Program} {t : TypeId} {zs : List Value} {pl : List (Nat × Nat)} {fs : Array Field} (h : P.underlying t = some (.struct fs)) (hz : (P.info? t).bind (·.zero) = some (.agg zs.toArray))
    (hp : fs.toList.map (fun f => (P.info? f.type).map fun i => (f.offset, i.size)) = pl.map some) : BdT P t zs pl := by
  have hzero : ∀ w, (zeroValue t).run P w = .ok (.agg zs.toArray) w := (ZeT.of hz).zero
  refine ⟨hzero, fun parts w => ?_⟩
  have hmap : ∀ (l : List Field) (pl : List (Nat × Nat)) (w : World), l.map (fun f => (P.info? f.type).map fun i => (f.offset, i.size)) = pl.map some →
      (l.mapM fdGo).run P w = .ok pl w := by
    intro l
    induction l with
    | nil => intro pl w hl; cases pl with
      | nil => simp
      | cons => simp at hl
    | cons f l ih =>
      intro pl w hl
      cases pl with
      | nil => simp at hl
      | cons p pl =>
        simp only [List.map_cons, List.cons.injEq] at hl
        obtain ⟨h1, h2⟩ := hl
        cases hi : P.info? f.type with
        | none => simp [hi] at h1
        | some i =>
          simp only [hi, Option.map_some, Option.some.injEq] at h1
          subst h1
          have h1 : (fdGo f).run P w = .ok (f.offset, i.size) w := by simp [fdGo, sizeOf, typeInfo, hi]
          simp only [List.mapM_cons, Sem.run_bind, h1, Result.andThen, ih pl w h2, Sem.run_pure]
  have hA : (fs.mapM fdGo).run P w = .ok pl.toArray w := by
    rw [Array.mapM_eq_mapM_toList]
    simp only [Sem.run_map, hmap fs.toList pl w hp, Result.andThen]
  have hB : (fs.mapM (fun f => (do pure (f.offset, ← sizeOf f.type) : Sem (Nat × Nat)))) = fs.mapM fdGo := rfl
  simp only [Instr.build, hB, Sem.run_bind, hzero, Result.andThen, run_underlying h, Value.cells, hA]
  simp only [List.getElem?_toArray]
  cases Instr.fill (pl[·]?) zs.toArray parts.toList <;> rfl
theorem AO.build {ps : List (Nat × Operand)} {vs : List (Nat × Value)} {zs cs : List Value} {pl : List (Nat × Nat)} [hb : BdT P t zs pl] (hp : evP ρ ps = some vs) (hd : Nat.blt d n = true) (hf : fillL (pl[·]?) zs vs = some cs) (h : AT W0 n K ((d, .agg cs.toArray) :: ρ) L F) :
    AO P W0 n K ⟨some d, .build t ps.toArray, ty, pos, af, g⟩ Q ρ L F := by
  refine AO.val hd (fun a w s => ?_) h
  simp only [execOp, evP_eval s.slots hp, Sem.run_bind, hb.built, fill_of vs zs cs hf, Result.andThen]
  rfl
theorem AO.buildSlice {ps : List (Nat × Operand)} {vs : List (Nat × Value)} {cs : List Value} {z : Value} {e sz bytes k : Nat} [ht : SlT P t e sz bytes] [hz : ZeT P e z] (hp : evP ρ ps = some vs) (hd : Nat.blt d n = true) (hk0 : Nat.blt 0 k = true) (hk : Nat.ble (k * sz) 16777216 = true)
    (hf : fillL (fun i => some (i * sz, sz)) ((List.replicate k (cellsL z)).flatten) vs = some cs)
    (h : ∀ b, AT W0 n K ((d, .slice (some ⟨b, 0, none⟩) k k) :: ρ) (Res.cells b cs.toArray e :: L) F) : AO P W0 n K ⟨some d, .buildSlice t k ps.toArray, ty, pos, af, g⟩ Q ρ L F := by
  intro a w s
  obtain ⟨ti, z', hti, h1, h2, h3, h4⟩ := ht.info
  have hzz : z' = z := by
    have := hz.zero w
    simp [zeroValue, typeInfo, hti, h3] at this; exact this
  subst hzz
  have hsize : (sizeOf e).run P w = .ok sz w := by simp [sizeOf, typeInfo, hti, h1]
  have hkk := Nat.le_of_ble_eq_true hk
  have hk00 : 0 < k := Nat.le_of_ble_eq_true hk0
  have hpos : ¬ (k * sz = 0) := by have := Nat.mul_pos hk00 ht.pos; omega
  have hz4 : (cellsL z').length = sz := by rw [← h4, ← cellsL_toArray]; simp
  have hzc : z'.cells = (cellsL z').toArray := (cellsL_toArray z').symm
  have hrep : ((Array.range (k * sz)).map fun q => z'.cells[q % z'.cells.size]!) = ((List.replicate k (cellsL z')).flatten).toArray := by
    have hrepl : ∀ (k : Nat) (q : Nat), q < k * sz → ((List.replicate k (cellsL z')).flatten)[q]? = some ((cellsL z').getD (q % sz) undef) := by
      intro k
      induction k with
      | zero => intro q hq; simp at hq
      | succ k ih =>
        intro q hq
        simp only [List.replicate_succ, List.flatten_cons]
        rcases Nat.lt_or_ge q sz with hlt | hge
        · rw [List.getElem?_append_left (by omega)]
          simp [Nat.mod_eq_of_lt hlt, hz4, hlt]
        · rw [List.getElem?_append_right (by omega), hz4, ih _ (by rw [Nat.add_mul] at hq; omega)]
          simp [Nat.mod_eq_sub_mod hge]
    apply Array.ext'
    apply List.ext_getElem?
    intro q
    rcases Nat.lt_or_ge q (k * sz) with hq | hq
    · have := hrepl k q hq
      simp only [this]
      have hm : q % sz < sz := Nat.mod_lt _ ht.pos
      simp [hq, hzc, hz4, hm]
    · have hl : ((List.replicate k (cellsL z')).flatten).length = k * sz := by simp [hz4]
      rw [List.getElem?_eq_none (by simpa using hq), List.getElem?_eq_none (by simp [hz4]; omega)]
  have hr : (execOp a.eval ⟨some d, .buildSlice t k ps.toArray, ty, pos, af, g⟩).run P w = .ok (.value (.slice (some ⟨w.heap.size, 0, none⟩) k k)) (w.alloc (.cells cs.toArray e)) := by
    simp only [execOp, evP_eval s.slots hp, Instr.buildSlice, Sem.run_bind, run_underlying ht.und, hsize, Result.andThen]
    have hng : ¬ (k * sz > 2 ^ 24) := by omega
    simp only [hng, if_false, hpos, hz.zero, Sem.run_bind, Sem.run_pure, Result.andThen, hrep, fill_of vs _ cs hf]
    simp [newRow]
  refine ⟨not_defer hr (fun _ e => by cases e), ?_⟩
  simp only [hr, owR]
  exact h _ _ _ ⟨s.slots.put (Nat.le_of_ble_eq_true hd) _, s.sat.alloc _ _⟩
theorem AO.makeFunc {f : FuncId} {cap : List Operand} {vs : List Value} (hc : evL ρ cap = some vs) (hd : Nat.blt d n = true) (h : AT W0 n K ((d, .func (.func f) #[] vs.toArray) :: ρ) L F) :
    AO P W0 n K ⟨some d, .makeFunc (.func f) #[] cap.toArray, ty, pos, af, g⟩ Q ρ L F :=
  AO.val hd (fun a w s => by simp only [execOp, Instr.makeFunc, evL_eval s.slots hc]; simp) h
inductive RV (P : Program) (ρ : Rho) (L : List Res) : List ResultVar → List Value → Prop where
  | nil : RV P ρ L [] []
  | tmp {i : Nat} {v : Value} {rs : List ResultVar} {vs : List Value} (hv : look ρ i = some v) (h : RV P ρ L rs vs) : RV P ρ L (.tmp i :: rs) (v :: vs)
  | cell {i b o j : Nat} {cs : List Value} {e t : TypeId} {v : Value} {rs : List ResultVar} {vs : List Value} [ht : ScT P t] (hv : look ρ i = some (.pointer (some ⟨b, o, none⟩))) (hj : L[j]? = some (Res.cells b cs.toArray e)) (hc : cs[o]? = some v) (h : RV P ρ L rs vs) : RV P ρ L (.cell i t :: rs) (v :: vs)
  | agg {i b o j k : Nat} {cs : List Value} {e t : TypeId} {rs : List ResultVar} {vs : List Value} [ht : AgT P t k] (hv : look ρ i = some (.pointer (some ⟨b, o, none⟩))) (hj : L[j]? = some (Res.cells b cs.toArray e)) (hk : Nat.ble (o + k) cs.length = true) (h : RV P ρ L rs vs) : RV P ρ L (.cell i t :: rs) (.agg ((cs.drop o).take k).toArray :: vs)
def rvGo (a : Act) : ResultVar → Sem Value
  | .tmp t => pure (a.tmps.getD t undef)
  | .cell x t => do loadVar t (← asAddr (a.tmps.getD x undef))
theorem RV.run {rs : List ResultVar} {vs : List Value} (h : RV P ρ L rs vs) {a : Act} {w : World} (hs : Slots n ρ a) (s : Sat W0 L F w) :
    (rs.mapM (rvGo a)).run P w = .ok vs w := by
  induction h with
  | nil => simp
  | tmp hv _ ih => simp [List.mapM_cons, rvGo, hs.getD hv, ih]
  | @cell i b o j cs e t v rs vs ht hv hj hc _ ih =>
    have hcell : w.cell? ⟨b, o, none⟩ = some v := by rw [block_cell (s.block hj), hc]
    have hl : (loadVar t ⟨b, o, none⟩).run P w = .ok v w := by simp [loadVar, ht.agg, hcell]
    simp [List.mapM_cons, rvGo, hs.getD hv, asAddr, hl, ih]
  | @agg i b o j k cs e t rs vs ht hv hj hk _ ih =>
    have hk' := Nat.le_of_ble_eq_true hk
    have hb := s.block hj
    have hlen : ((cs.drop o).take k).length = k := by simp; omega
    have hl : (loadCells ⟨b, o, none⟩ k).run P w = .ok ((cs.drop o).take k).toArray w := by
      have := run_loadCells_list (P := P) w ⟨b, o, none⟩ ((cs.drop o).take k) (fun j v hj => by
        rw [Addr.add_lit, block_cell hb]
        have hjk : j < k := by
          rcases Nat.lt_or_ge j k with q | q
          · exact q
          · rw [List.getElem?_eq_none (by omega)] at hj; simp at hj
        rw [List.getElem?_take_of_lt hjk, List.getElem?_drop] at hj
        exact hj)
      rwa [hlen] at this
    have hl2 : (loadVar t ⟨b, o, none⟩).run P w = .ok (.agg ((cs.drop o).take k).toArray) w := by simp [loadVar, ht.agg, ht.size, hl]
    simp [List.mapM_cons, rvGo, hs.getD hv, asAddr, hl2, ih]
def tup : List Value → Value
  | [v] => v
  | vs => .tuple vs.toArray
theorem AK.retV {fn : Func} {R : Value → List Res → List Fact → Prop} {rs : List ResultVar} {vs : List Value} {L' : List Res} {F' : List Fact} (hr : fn.results = rs.toArray) (hv : RV P ρ L rs vs) (hs : Sub L F L' F') (hR : R (tup vs) L' F') :
    AK [] W0 n (bodyPost P fn (Post R W0)) .ret ρ L F := by
  intro a w s
  have hrun := hv.run (F := F) s.slots s.sat
  have : (results fn a.tmps).run P w = .ok (tup vs) w := by
    have e : results fn a.tmps = (do let vs ← fn.results.mapM (rvGo a); pure (if h : vs.size = 1 then vs[0] else .tuple vs)) := by
      unfold results
      congr 1
    rw [e, hr, Array.mapM_eq_mapM_toList]
    simp only [Sem.run_bind, Sem.run_map, hrun, Result.andThen]
    match vs with
    | [] => simp [tup]
    | [v] => simp [tup]
    | v :: u :: vs => simp [tup]
  exact bodyPost_ret this rfl ⟨_, L', F', rfl, hR, hs _ _ s.sat⟩
end
end Go.Sy
namespace Go.Sy
abbrev GN := @AO.buildSlice
abbrev Hz := @AO.makeFunc
end Go.Sy
