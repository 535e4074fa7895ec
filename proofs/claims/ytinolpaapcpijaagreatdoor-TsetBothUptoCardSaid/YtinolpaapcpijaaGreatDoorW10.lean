/- Joined of my own texts: FwQ. -/
import Derived.Test.YtinolpaapcpijaaGreatDoorW9
import Derived.Laws.AppendOwn
namespace Go.Sy
open Go Go.RowKit
section
variable {P : Program} {W0 : World} {n : Nat} {Q : Po} {ρ : Rho} {L : List Res} {F : List Fact} {ops : Array Oper} {l : List Oper} {K : Act → World → Prop}
variable {d : Tmp} {ty t : TypeId} {pos : String} {af : Array Edge} {g : Option (Nat × Bool)}
variable {x y : Operand} {e sz bytes : Nat} {α : Type} {enc : α → List D} {lst : List α}
theorem cells_of_fact {hh : H} {ad : Addr} {k c : Nat} {w : World} (hsz0 : 0 < sz) (hsz : ∀ x, (enc x).length = sz) (hone : ∀ x d, d ∈ enc x → ∀ v, d = .val v → oneC v = true) (hf : CR hh (.slice (some ad) k c) (.slc sz (lst.map enc))) (hcell : ∀ b o v, hh b o = some v → w.cell? ⟨b, o, none⟩ = some v) :
    ∃ cs : List Value, k = lst.length ∧ cs.length = lst.length * sz ∧ (∀ j u, cs[j]? = some u → w.cell? (ad.add j) = some u) ∧ (∀ u ∈ cs, oneC u = true) ∧ ∀ (i : Nat) (r : List D) (j : Nat) (d : D), (lst.map enc)[i]? = some r → r[j]? = some d → ∃ u, cs[i * sz + j]? = some u ∧ CR hh u d := by
  have hrow : ∀ (i : Nat) (r : List D), (lst.map enc)[i]? = some r → r.length = sz := by
    intro i r hr; simp at hr; obtain ⟨x, _, rfl⟩ := hr; exact hsz x
  generalize hR : lst.map enc = rows2 at hf
  generalize hL : rows2.length = len at hf
  cases hf with
  | nil => have hz : lst = [] := by simpa using hR
           subst hz; exact ⟨[], by simp, by simp, by simp, by simp, by simp⟩
  | slc _ _ b o cap cell hcap hmax hs2 hh2 hc =>
    subst hR
    have key : ∀ q, q < lst.length * sz → ∃ r dd, (lst.map enc)[q / sz]? = some r ∧ r[q % sz]? = some dd ∧ (∃ x ∈ lst, enc x = r) ∧ q = q / sz * sz + q % sz := by
      intro q hq
      have h1 : q / sz < lst.length := Nat.div_lt_of_lt_mul (by rwa [Nat.mul_comm])
      have h2 : q % sz < sz := Nat.mod_lt _ hsz0
      have hr : (lst.map enc)[q / sz]? = some (enc lst[q / sz]) := by simp [h1]
      have h3 : q % sz < (enc lst[q / sz]).length := by rw [hsz]; exact h2
      exact ⟨_, _, hr, List.getElem?_eq_getElem h3, ⟨_, List.getElem_mem h1, rfl⟩, by have := Nat.div_add_mod q sz; rw [Nat.mul_comm] at this; omega⟩
    refine ⟨(List.range (lst.length * sz)).map fun q => cell (q / sz) (q % sz), by simp, by simp, ?_, ?_, ?_⟩
    · intro j u hj
      rw [List.getElem?_map] at hj
      have hq : j < lst.length * sz := by
        rcases Nat.lt_or_ge j (lst.length * sz) with k | k
        · exact k
        rw [List.getElem?_eq_none (by simpa using k)] at hj; simp at hj
      rw [List.getElem?_range hq] at hj
      simp at hj
      subst hj
      obtain ⟨r, dd, h1, h2, _, h4⟩ := key j hq
      rw [Addr.add_lit]
      refine hcell _ _ _ ?_
      have := hh2 _ r _ dd h1 h2
      rwa [Nat.add_assoc, ← h4] at this
    · intro u hu
      simp at hu
      obtain ⟨q, hq, rfl⟩ := hu
      obtain ⟨r, dd, h1, h2, ⟨x, hx, rfl⟩, h4⟩ := key q hq
      exact CR.oneC (hc _ _ _ dd h1 h2) (fun u e => hone x dd (List.mem_of_getElem? h2) u e)
    intro a r jj dd h1 h2
    have hjj : jj < sz := by
      rw [← hrow a r h1]
      rcases Nat.lt_or_ge jj r.length with k | k
      · exact k
      simp [List.getElem?_eq_none k] at h2
    have hal : a < lst.length := by
      rcases Nat.lt_or_ge a lst.length with k | k
      · exact k
      rw [List.getElem?_eq_none (by simpa using k)] at h1; simp at h1
    have hdiv : (a * sz + jj) / sz = a := by rw [Nat.mul_comm, Nat.mul_add_div hsz0, Nat.div_eq_of_lt hjj]; rfl
    have hmod : (a * sz + jj) % sz = jj := by rw [Nat.mul_comm, Nat.mul_add_mod, Nat.mod_eq_of_lt hjj]
    have hlt : a * sz + jj < lst.length * sz := by
      have := Nat.mul_le_mul_right sz (Nat.succ_le_of_lt hal)
      rw [Nat.succ_mul] at this; omega
    refine ⟨cell a jj, ?_, hc a r jj dd h1 h2⟩
    simp [hlt, hdiv, hmod]
theorem AO.appendFull {ad : Addr} {b c k k0 : Nat} {cs : List Value} (news : List α) (hx : ev ρ x = some (.slice (some ad) k0 k0)) (hy : ev ρ y = some (.slice (some ⟨b, 0, none⟩) k c)) (hd : Nat.blt d n = true) [ht : SlT P t e sz bytes] (hm : Fact.slc (.slice (some ad) k0 k0) sz (lst.map enc) ∈ F)
    (hone : ∀ x d, d ∈ enc x → ∀ v, d = .val v → oneC v = true) (hc : Cells F cs (news.map enc).flatten) (hk : news.length = k) (hk0 : 0 < k) (hsz : ∀ x, (enc x).length = sz) (h63 : lst.length + k ≤ maxLen) (hbytes : (lst.length + k) * bytes ≤ 140737488355328)
    (h : ∀ a k c, AT W0 n K ((d, .slice a k c) :: ρ) (Res.own (.slice a k c) e sz ((lst ++ news).map enc) :: L) F) : AO P W0 n K ⟨some d, .call ⟨.builtin .append, #[x, y], #[t, t]⟩, ty, pos, af, g⟩ Q ρ (Res.cells b cs.toArray e :: L) F := by
  intro a w s
  subst hk
  have hbl : w.heap[b]? = some (.cells cs.toArray e (0, 0)) := s.sat.block (i := 0) rfl
  have hrow : ∀ (ls : List α) (i : Nat) (r : List D), (ls.map enc)[i]? = some r → r.length = sz := by
    intro ls i r hr; simp at hr; obtain ⟨x, _, rfl⟩ := hr; exact hsz x
  obtain ⟨ti, z, hti, h1, h2, h3, h4⟩ := ht.info
  have hsz0 := ht.pos
  have hss := s.sat
  obtain ⟨hbb, hh, m, sx⟩ := s.sat
  obtain ⟨olds, hkl, hol, hoc, _, hor⟩ := cells_of_fact (w := w) hsz0 hsz hone (sx.fact _ hm : CR hh _ _) sx.cell
  subst hkl
  have hcl : cs.length = news.length * sz := by rw [hc.length, flat_length _ (hrow news)]; simp
  have hg := run_append_grow (P := P) w t ty e ti z ht.und hti h3 ad lst.length lst.length olds (by rw [h1]; exact hol) hoc ⟨b, 0, none⟩ news.length c cs (by rw [h1]; exact hcl) (fun j u hj => by rw [Addr.add_lit, block_cell hbl]; simpa using hj) HW (by simp only [maxLen] at h63; omega) (growslice_fits HW (by rw [h2]; exact hbytes))
  have hge := grownCap_ge w (lst.length + news.length) lst.length e
  have hcm := grownCap_le_maxLen w (lst.length + news.length) lst.length e h63
  generalize grownCap w (lst.length + news.length) lst.length e = G at hg hge hcm
  -- the new world
  have s1 : Sat W0 (Res.cells b cs.toArray e :: L) F w.drew := hss.drew
  have s2 := (Gn (r := Res.cells b cs.toArray e) (L := L) (F := F)) W0 _ s1
  obtain ⟨hb2, h5, m5, sx5⟩ := s2
  have hall : Sat W0 (Res.own (.slice (some ⟨w.heap.size, 0, none⟩) (lst.length + news.length) G) e sz ((lst ++ news).map enc) :: L) F (w.drew.alloc (.cells (olds.toArray ++ cs.toArray ++ Builtin.zeroCells z.cells (G - (lst.length + news.length))) e)) := by
    obtain ⟨olds', _, hol', hoc', _, hor'⟩ := cells_of_fact (w := w) hsz0 hsz hone (sx5.fact _ hm : CR h5 _ _) (fun b o v hv => sx5.cell b o v hv)
    have hee : olds' = olds := by
      apply List.ext_getElem?
      intro q
      rcases Nat.lt_or_ge q (lst.length * sz) with k | k
      · have q1 : q < olds'.length := by omega
        have q2 : q < olds.length := by omega
        have e1 := hoc' q _ (List.getElem?_eq_getElem q1)
        have e2 := hoc q _ (List.getElem?_eq_getElem q2)
        rw [e1] at e2
        rw [List.getElem?_eq_getElem q1, List.getElem?_eq_getElem q2]
        exact e2
      rw [List.getElem?_eq_none HW, List.getElem?_eq_none HW]
    subst hee
    have hn' : ((lst ++ news).map enc).length = lst.length + news.length := by simp
    have st : Step w.drew (w.drew.alloc (.cells (olds'.toArray ++ cs.toArray ++ Builtin.zeroCells z.cells (G - (lst.length + news.length))) e)) (fun _ => none) := Step.alloc _ _ _
    refine ⟨Ho hb2 st (fun _ _ e => by simp at e), h5, _, sx5.add hb2.size st _ (one w.heap.size (.cells (olds'.toArray ++ cs.toArray ++ Builtin.zeroCells z.cells (G - (lst.length + news.length))) e (0, 0))) ⟨hrow _, .inr ⟨w.heap.size, G, _, by rw [hn'], rfl, by rw [hn']; exact hge, hcm, ?_, ?_⟩⟩ ?_⟩
    · have hzs : z.cells.size = sz := by rw [← h4]
      simp only [Array.size_append, List.size_toArray, size_zeroCells, hzs, hol', hcl, ← Nat.add_mul]
      congr 1
      omega
    · intro q r j dd hq hj
      have hjl : j < sz := by
        rw [← hrow (lst ++ news) q r hq]
        rcases Nat.lt_or_ge j r.length with k | k
        · exact k
        simp [List.getElem?_eq_none k] at hj
      rcases Nat.lt_or_ge q lst.length with k | k
      · rw [List.map_append, List.getElem?_append_left (by simpa using k)] at hq
        obtain ⟨u, hu1, hu2⟩ := hor' q r j dd hq hj
        refine ⟨u, ?_, hu2⟩
        have hlt : q * sz + j < olds'.length := by
          have := Nat.mul_le_mul_right sz (Nat.succ_le_of_lt k)
          rw [Nat.succ_mul] at this; omega
        rw [Array.getElem?_append_left (by simp; omega), Array.getElem?_append_left (by simpa using hlt)]
        simpa using hu1
      rw [List.map_append, List.getElem?_append_right (by simpa using k)] at hq
      simp only [List.length_map] at hq
      obtain ⟨u, hu, hcu⟩ := hc.get sx5.fact _ _ (flat_get _ (hrow news) _ r j dd hq hj)
      refine ⟨u, ?_, hcu⟩
      have e1 : q * sz + j - olds'.length = (q - lst.length) * sz + j := by
        rw [hol', Nat.sub_mul]; have := Nat.mul_le_mul_right sz k; omega
      have hlt : (q - lst.length) * sz + j < cs.length := by
        rcases Nat.lt_or_ge ((q - lst.length) * sz + j) cs.length with p | p
        · exact p
        simp [List.getElem?_eq_none p] at hu
      have hmul := Nat.mul_le_mul_right sz k
      rw [Array.getElem?_append_left (by simp; omega), Array.getElem?_append_right (by simp; omega)]
      simp only [List.size_toArray, e1]
      simpa using hu
    intro b' O hm'
    obtain ⟨rfl, rfl⟩ := one_some hm'
    exact ⟨Nat.le_refl _, by show (w.heap.push _)[w.heap.size]? = _; simp⟩
  exact AO.appendGo rfl hd rfl s hx hy hg hall (h _ _ _)
theorem AO.sliceHM {v : Value} {j m : Int} {j' m' : Nat} {k1 k2 : IntKind} {z u : Operand} (hx : ev ρ x = some v) (hz : ev ρ z = some (.int k1 j)) (hu : ev ρ u = some (.int k2 m)) (hd : Nat.blt d n = true) [ht : SlT P t e sz bytes] (hj : j = (j' : Int)) (hm' : m = (m' : Int)) (hm : Fact.slc v sz (lst.map enc) ∈ F) (h1 : j' ≤ m') (h2 : m' ≤ lst.length) (h0 : 0 < lst.length)
    (h : ∀ ad, AT W0 n K ((d, .slice (some ad) j' m') :: ρ) L (.slc (.slice (some ad) j' m') sz ((lst.take j').map enc) :: F)) : AO P W0 n K ⟨some d, .slice t x none (some z) (some u), ty, pos, af, g⟩ Q ρ L F := by
  intro a w s
  subst hj hm'
  obtain ⟨hb, hh, mm, sx⟩ := s.sat
  have c : CR hh v (.slc sz (lst.map enc)) := sx.fact _ hm
  obtain ⟨ba, cap, rfl, hcap⟩ := c.sv
  have hl : (lst.map enc).length = lst.length := by simp
  obtain ⟨b0, o0, e0, _⟩ := GG (hx := hh) (i := 0) (lst := lst) (enc := enc) (sx.fact _ hm) h0
  subst e0
  have hr : (execOp a.eval ⟨some d, .slice t x none (some z) (some u), ty, pos, af, g⟩).run P w = .ok (.value (sliced (some ⟨b0, o0, none⟩) 0 j' m' sz)) w := by
    have := run_slice_hm (P := P) w t (some ⟨b0, o0, none⟩) (lst.map enc).length cap SlT.elem k1 k2 j' m' HW HW HW
    simp only [execOp, GD s.slots hx, Option.map_none, Option.map_some, GD s.slots hz, GD s.slots hu, Sem.run_bind, run_sliceAt_slice (P := P) w t _ _ _ _ SlT.elem, this, SlT.size]
    simp [Result.andThen]
  have hv : ∃ ad, sliced (some ⟨b0, o0, none⟩) 0 j' m' sz = .slice (some ad) j' m' := by
    unfold sliced
    split <;> exact ⟨_, rfl⟩
  obtain ⟨ad, hv⟩ := hv
  rw [hv] at hr
  refine ⟨Hy hr (fun _ e => by cases e), ?_⟩
  simp only [hr, owR]
  refine h ad _ _ ⟨s.slots.put (Nat.le_of_ble_eq_true hd) _, hb, hh, mm, sx.facts fun f hf => ?_⟩
  rcases List.mem_cons.1 hf with rfl | k
  · have := CR.part (b := 0) (o := 0) c 0 j' m' HW HW HW HW rfl rfl
    have e2 : (lst.take j').map enc = ((lst.map enc).drop 0).take (j' - 0) := by simp [List.map_take]
    rw [← e2, hv] at this; exact this
  exact sx.fact f k
end
section
variable {P : Program} {W0 : World} {n : Nat} {Q : Po} {ρ : Rho} {L : List Res} {F : List Fact} {hx : H} {bx : Bx} {sp : Nat → Bool} {sd : Bool} {fuel : Nat} {listed : Array Bool} {ops : Array Oper}
theorem AH.two {i j : Nat} {o1 o2 : Oper} (hr : Region.ready .any ops listed = [i, j]) (hi : ops[i]? = some o1) (hj : ops[j]? = some o2) (hg1 : guardIs ops ρ o1.guard = some true) (hg2 : guardIs ops ρ o2.guard = some true)
    (h1 : ∀ w0, AO P W0 n (Kont P ops Q hx bx sp fuel listed i w0) o1 Q ρ L F) (h2 : ∀ w0, AO P W0 n (Kont P ops Q hx bx sp fuel listed j w0) o2 Q ρ L F) : AH P W0 n ops Q hx bx sp sd (fuel + 1) listed ρ L F := by
  intro a w s hs
  refine ⟨fun h0 => by rw [hr] at h0; simp at h0, fun q hq => ?_⟩
  rw [hr] at hq
  simp at hq
  unfold opS
  rcases hq with rfl | rfl
  · simp only [hi]
    rw [if_pos (guardIs_wanted s.slots hg1)]
    exact h1 w a w s
  simp only [hj]
  rw [if_pos (guardIs_wanted s.slots hg2)]
  exact h2 w a w s
end
end Go.Sy
namespace Go.Sy
abbrev Hj := @AH.two
end Go.Sy
