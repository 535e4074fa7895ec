/- Joined of my own texts: FwQ, TyD, TyE, TyH, SubP. -/
import Derived.Test.YtinolpaapcpijaaGreatDoorK11
import Derived.Laws.AppendOwn
namespace Go.Sy
open Go Go.RowKit
section
variable {P : Program} {W0 : World} {n : Nat} {Q : Po} {ρ : Rho} {L : List Res} {F : List Fact} {ops : Array Oper} {l : List Oper} {K : Act → World → Prop}
variable {d : Tmp} {ty t : TypeId} {pos : String} {af : Array Edge} {g : Option (Nat × Bool)}
variable {x y : Operand} {e sz bytes : Nat} {α : Type} {enc : α → List D} {lst : List α}
theorem cells_of_fact {hh : H} {ad : Addr} {k c : Nat} {w : World} (hsz0 : 0 < sz) (hsz : ∀ x, (enc x).length = sz) (hone : ∀ x d, d ∈ enc x → ∀ v, d = .val v → oneC v = true) (hf : CR hh (.slice (some ad) k c) (.slc sz (lst.map enc))) (hcell : ∀ b o v, hh b o = some v → w.cell? ⟨b, o, none⟩ = some v) :
    ∃ cs : List Value, k = lst.length ∧ cs.length = lst.length * sz ∧ (∀ j u, cs[j]? = some u → w.cell? (ad.add j) = some u) ∧ (∀ u ∈ cs, oneC u = true) ∧ ∀ (i : Nat) (r : List D) (j : Nat) (d : D), (lst.map enc)[i]? = some r → r[j]? = some d → ∃ u, cs[i * sz + j]? = some u ∧ CR hh u d := by
  have hrow : ∀ (i : Nat) (r : List D), (lst.map enc)[i]? = some r → r.length = sz := by
    intro i r hr; simp at hr; obtain ⟨x, _, rfl⟩ := hr; exact hsz x
  generalize hR : lst.map enc = rows2 at hf
  generalize hL : rows2.length = len at hf
  cases hf with
  | nil => have hz : lst = [] := by simpa using hR
           subst hz; exact ⟨[], by simp, by simp, by simp, by simp, by simp⟩
  | slc _ _ b o cap cell hcap hmax hs2 hh2 hc =>
    subst hR
    have key : ∀ q, q < lst.length * sz → ∃ r dd, (lst.map enc)[q / sz]? = some r ∧ r[q % sz]? = some dd ∧ (∃ x ∈ lst, enc x = r) ∧ q = q / sz * sz + q % sz := by
      intro q hq
      have h1 : q / sz < lst.length := Nat.div_lt_of_lt_mul (by rwa [Nat.mul_comm])
      have h2 : q % sz < sz := Nat.mod_lt _ hsz0
      have hr : (lst.map enc)[q / sz]? = some (enc lst[q / sz]) := by simp [h1]
      have h3 : q % sz < (enc lst[q / sz]).length := by rw [hsz]; exact h2
      exact ⟨_, _, hr, List.getElem?_eq_getElem h3, ⟨_, List.getElem_mem h1, rfl⟩, by have := Nat.div_add_mod q sz; rw [Nat.mul_comm] at this; omega⟩
    refine ⟨(List.range (lst.length * sz)).map fun q => cell (q / sz) (q % sz), by simp, by simp, ?_, ?_, ?_⟩
    · intro j u hj
      rw [List.getElem?_map] at hj
      have hq : j < lst.length * sz := by
        rcases Nat.lt_or_ge j (lst.length * sz) with k | k
        · exact k
        · rw [List.getElem?_eq_none (by simpa using k)] at hj; simp at hj
      rw [List.getElem?_range hq] at hj
      simp at hj
      subst hj
      obtain ⟨r, dd, h1, h2, _, h4⟩ := key j hq
      rw [Addr.add_lit]
      refine hcell _ _ _ ?_
      have := hh2 _ r _ dd h1 h2
      rwa [Nat.add_assoc, ← h4] at this
    · intro u hu
      simp at hu
      obtain ⟨q, hq, rfl⟩ := hu
      obtain ⟨r, dd, h1, h2, ⟨x, hx, rfl⟩, h4⟩ := key q hq
      exact CR.oneC (hc _ _ _ dd h1 h2) (fun u e => hone x dd (List.mem_of_getElem? h2) u e)
    · intro a r jj dd h1 h2
      have hjj : jj < sz := by
        rw [← hrow a r h1]
        rcases Nat.lt_or_ge jj r.length with k | k
        · exact k
        · simp [List.getElem?_eq_none k] at h2
      have hal : a < lst.length := by
        rcases Nat.lt_or_ge a lst.length with k | k
        · exact k
        · rw [List.getElem?_eq_none (by simpa using k)] at h1; simp at h1
      have hdiv : (a * sz + jj) / sz = a := by rw [Nat.mul_comm, Nat.mul_add_div hsz0, Nat.div_eq_of_lt hjj]; rfl
      have hmod : (a * sz + jj) % sz = jj := by rw [Nat.mul_comm, Nat.mul_add_mod, Nat.mod_eq_of_lt hjj]
      have hlt : a * sz + jj < lst.length * sz := by
        have := Nat.mul_le_mul_right sz (Nat.succ_le_of_lt hal)
        rw [Nat.succ_mul] at this; omega
      refine ⟨cell a jj, ?_, hc a r jj dd h1 h2⟩
      simp [hlt, hdiv, hmod]
theorem AO.appendFull {ad : Addr} {b c k k0 : Nat} {cs : List Value} (news : List α) (hx : ev ρ x = some (.slice (some ad) k0 k0)) (hy : ev ρ y = some (.slice (some ⟨b, 0, none⟩) k c)) (hd : Nat.blt d n = true) [ht : SlT P t e sz bytes] (hm : Fact.slc (.slice (some ad) k0 k0) sz (lst.map enc) ∈ F)
    (hone : ∀ x d, d ∈ enc x → ∀ v, d = .val v → oneC v = true) (hc : Cells F cs (news.map enc).flatten) (hk : news.length = k) (hk0 : 0 < k) (hsz : ∀ x, (enc x).length = sz) (h63 : lst.length + k ≤ maxLen) (hbytes : (lst.length + k) * bytes ≤ 140737488355328)
    (h : ∀ a k c, AT W0 n K ((d, .slice a k c) :: ρ) (Res.own (.slice a k c) e sz ((lst ++ news).map enc) :: L) F) : AO P W0 n K ⟨some d, .call ⟨.builtin .append, #[x, y], #[t, t]⟩, ty, pos, af, g⟩ Q ρ (Res.cells b cs.toArray e :: L) F := by
  intro a w s
  subst hk
  have hbl : w.heap[b]? = some (.cells cs.toArray e (0, 0)) := s.sat.block (i := 0) rfl
  have hrow : ∀ (ls : List α) (i : Nat) (r : List D), (ls.map enc)[i]? = some r → r.length = sz := by
    intro ls i r hr; simp at hr; obtain ⟨x, _, rfl⟩ := hr; exact hsz x
  obtain ⟨ti, z, hti, h1, h2, h3, h4⟩ := ht.info
  have hsz0 := ht.pos
  have hss := s.sat
  obtain ⟨hbb, hh, m, sx⟩ := s.sat
  obtain ⟨olds, hkl, hol, hoc, _, hor⟩ := cells_of_fact (w := w) hsz0 hsz hone (sx.fact _ hm : CR hh _ _) sx.cell
  subst hkl
  have hcl : cs.length = news.length * sz := by rw [hc.length, flat_length _ (hrow news)]; simp
  have hg := run_append_grow (P := P) w t ty e ti z ht.und hti h3 ad lst.length lst.length olds (by rw [h1]; exact hol) hoc ⟨b, 0, none⟩ news.length c cs (by rw [h1]; exact hcl) (fun j u hj => by rw [Addr.add_lit, block_cell hbl]; simpa using hj) (by omega) (by simp only [maxLen] at h63; omega) (growslice_fits (by omega) (by rw [h2]; exact hbytes))
  have hge := grownCap_ge w (lst.length + news.length) lst.length e
  have hcm := grownCap_le_maxLen w (lst.length + news.length) lst.length e h63
  generalize grownCap w (lst.length + news.length) lst.length e = G at hg hge hcm
  -- the new world
  have s1 : Sat W0 (Res.cells b cs.toArray e :: L) F w.drew := hss.drew
  have s2 := (Sub.drop (r := Res.cells b cs.toArray e) (L := L) (F := F)) W0 _ s1
  obtain ⟨hb2, h5, m5, sx5⟩ := s2
  have hall : Sat W0 (Res.own (.slice (some ⟨w.heap.size, 0, none⟩) (lst.length + news.length) G) e sz ((lst ++ news).map enc) :: L) F (w.drew.alloc (.cells (olds.toArray ++ cs.toArray ++ Builtin.zeroCells z.cells (G - (lst.length + news.length))) e)) := by
    obtain ⟨olds', _, hol', hoc', _, hor'⟩ := cells_of_fact (w := w) hsz0 hsz hone (sx5.fact _ hm : CR h5 _ _) (fun b o v hv => sx5.cell b o v hv)
    have hee : olds' = olds := by
      apply List.ext_getElem?
      intro q
      rcases Nat.lt_or_ge q (lst.length * sz) with k | k
      · have q1 : q < olds'.length := by omega
        have q2 : q < olds.length := by omega
        have e1 := hoc' q _ (List.getElem?_eq_getElem q1)
        have e2 := hoc q _ (List.getElem?_eq_getElem q2)
        rw [e1] at e2
        rw [List.getElem?_eq_getElem q1, List.getElem?_eq_getElem q2]
        exact e2
      · rw [List.getElem?_eq_none (by omega), List.getElem?_eq_none (by omega)]
    subst hee
    have hn' : ((lst ++ news).map enc).length = lst.length + news.length := by simp
    have st : Step w.drew (w.drew.alloc (.cells (olds'.toArray ++ cs.toArray ++ Builtin.zeroCells z.cells (G - (lst.length + news.length))) e)) (fun _ => none) := Step.alloc _ _ _
    refine ⟨Sat.below_of hb2 st (fun _ _ e => by simp at e), h5, _, sx5.add hb2.size st _ (one w.heap.size (.cells (olds'.toArray ++ cs.toArray ++ Builtin.zeroCells z.cells (G - (lst.length + news.length))) e (0, 0))) ⟨hrow _, .inr ⟨w.heap.size, G, _, by rw [hn'], rfl, by rw [hn']; exact hge, hcm, ?_, ?_⟩⟩ ?_⟩
    · have hzs : z.cells.size = sz := by rw [← h4]
      simp only [Array.size_append, List.size_toArray, size_zeroCells, hzs, hol', hcl, ← Nat.add_mul]
      congr 1
      omega
    · intro q r j dd hq hj
      have hjl : j < sz := by
        rw [← hrow (lst ++ news) q r hq]
        rcases Nat.lt_or_ge j r.length with k | k
        · exact k
        · simp [List.getElem?_eq_none k] at hj
      rcases Nat.lt_or_ge q lst.length with k | k
      · rw [List.map_append, List.getElem?_append_left (by simpa using k)] at hq
        obtain ⟨u, hu1, hu2⟩ := hor' q r j dd hq hj
        refine ⟨u, ?_, hu2⟩
        have hlt : q * sz + j < olds'.length := by
          have := Nat.mul_le_mul_right sz (Nat.succ_le_of_lt k)
          rw [Nat.succ_mul] at this; omega
        rw [Array.getElem?_append_left (by simp; omega), Array.getElem?_append_left (by simpa using hlt)]
        simpa using hu1
      · rw [List.map_append, List.getElem?_append_right (by simpa using k)] at hq
        simp only [List.length_map] at hq
        obtain ⟨u, hu, hcu⟩ := hc.get sx5.fact _ _ (flat_get _ (hrow news) _ r j dd hq hj)
        refine ⟨u, ?_, hcu⟩
        have e1 : q * sz + j - olds'.length = (q - lst.length) * sz + j := by
          rw [hol', Nat.sub_mul]; have := Nat.mul_le_mul_right sz k; omega
        have hlt : (q - lst.length) * sz + j < cs.length := by
          rcases Nat.lt_or_ge ((q - lst.length) * sz + j) cs.length with p | p
          · exact p
          · simp [List.getElem?_eq_none p] at hu
        have hmul := Nat.mul_le_mul_right sz k
        rw [Array.getElem?_append_left (by simp; omega), Array.getElem?_append_right (by simp; omega)]
        simp only [List.size_toArray, e1]
        simpa using hu
    · intro b' O hm'
      obtain ⟨rfl, rfl⟩ := one_some hm'
      exact ⟨Nat.le_refl _, by show (w.heap.push _)[w.heap.size]? = _; simp⟩
  exact AO.appendGo rfl hd rfl s hx hy hg hall (h _ _ _)
theorem AO.sliceHM {v : Value} {j m : Int} {j' m' : Nat} {k1 k2 : IntKind} {z u : Operand} (hx : ev ρ x = some v) (hz : ev ρ z = some (.int k1 j)) (hu : ev ρ u = some (.int k2 m)) (hd : Nat.blt d n = true) [ht : SlT P t e sz bytes] (hj : j = (j' : Int)) (hm' : m = (m' : Int)) (hm : Fact.slc v sz (lst.map enc) ∈ F) (h1 : j' ≤ m') (h2 : m' ≤ lst.length) (h0 : 0 < lst.length)
    (h : ∀ ad, AT W0 n K ((d, .slice (some ad) j' m') :: ρ) L (.slc (.slice (some ad) j' m') sz ((lst.take j').map enc) :: F)) : AO P W0 n K ⟨some d, .slice t x none (some z) (some u), ty, pos, af, g⟩ Q ρ L F := by
  intro a w s
  subst hj hm'
  obtain ⟨hb, hh, mm, sx⟩ := s.sat
  have c : CR hh v (.slc sz (lst.map enc)) := sx.fact _ hm
  obtain ⟨ba, cap, rfl, hcap⟩ := c.sv
  have hl : (lst.map enc).length = lst.length := by simp
  obtain ⟨b0, o0, e0, _⟩ := row_of_fact (hx := hh) (i := 0) (lst := lst) (enc := enc) (sx.fact _ hm) h0
  subst e0
  have hr : (execOp a.eval ⟨some d, .slice t x none (some z) (some u), ty, pos, af, g⟩).run P w = .ok (.value (sliced (some ⟨b0, o0, none⟩) 0 j' m' sz)) w := by
    have := run_slice_hm (P := P) w t (some ⟨b0, o0, none⟩) (lst.map enc).length cap SlT.elem k1 k2 j' m' (by omega) (by omega) (by omega)
    simp only [execOp, ev_eval s.slots hx, Option.map_none, Option.map_some, ev_eval s.slots hz, ev_eval s.slots hu, Sem.run_bind, run_sliceAt_slice (P := P) w t _ _ _ _ SlT.elem, this, SlT.size]
    simp [Result.andThen]
  have hv : ∃ ad, sliced (some ⟨b0, o0, none⟩) 0 j' m' sz = .slice (some ad) j' m' := by
    unfold sliced
    split <;> exact ⟨_, rfl⟩
  obtain ⟨ad, hv⟩ := hv
  rw [hv] at hr
  refine ⟨not_defer hr (fun _ e => by cases e), ?_⟩
  simp only [hr, owR]
  refine h ad _ _ ⟨s.slots.put (Nat.le_of_ble_eq_true hd) _, hb, hh, mm, sx.facts fun f hf => ?_⟩
  rcases List.mem_cons.1 hf with rfl | k
  · have := CR.part (b := 0) (o := 0) c 0 j' m' (by omega) (by omega) (by omega) (by omega) rfl rfl
    have e2 : (lst.take j').map enc = ((lst.map enc).drop 0).take (j' - 0) := by simp [List.map_take]
    rw [← e2, hv] at this; exact this
  · exact sx.fact f k
end
section
variable {P : Program} {W0 : World} {n : Nat} {Q : Po} {ρ : Rho} {L : List Res} {F : List Fact} {hx : H} {bx : Bx} {sp : Nat → Bool} {sd : Bool} {fuel : Nat} {listed : Array Bool} {ops : Array Oper}
theorem AH.two {i j : Nat} {o1 o2 : Oper} (hr : Region.ready .any ops listed = [i, j]) (hi : ops[i]? = some o1) (hj : ops[j]? = some o2) (hg1 : guardIs ops ρ o1.guard = some true) (hg2 : guardIs ops ρ o2.guard = some true)
    (h1 : ∀ w0, AO P W0 n (Kont P ops Q hx bx sp fuel listed i w0) o1 Q ρ L F) (h2 : ∀ w0, AO P W0 n (Kont P ops Q hx bx sp fuel listed j w0) o2 Q ρ L F) : AH P W0 n ops Q hx bx sp sd (fuel + 1) listed ρ L F := by
  intro a w s hs
  refine ⟨fun h0 => by rw [hr] at h0; simp at h0, fun q hq => ?_⟩
  rw [hr] at hq
  simp at hq
  unfold opS
  rcases hq with rfl | rfl
  · simp only [hi]
    rw [if_pos (guardIs_wanted s.slots hg1)]
    exact h1 w a w s
  · simp only [hj]
    rw [if_pos (guardIs_wanted s.slots hg2)]
    exact h2 w a w s
end
end Go.Sy
namespace Go.Sy
open Go Go.Proofs Go.RowKit
theorem eTy_one : ∀ (x : Ty) (d : D), d ∈ eTy x → ∀ v, d = .val v → oneC v = true := by
  intro x d hd v hv
  subst hv
  simp only [List.mem_cons, D.val.injEq, List.not_mem_nil, or_false, reduceCtorEq] at hd
  rcases hd with rfl | rfl | rfl <;> rfl
abbrev cKey (k : Key) : Array Value := #[.int .i64 k.kind, .int .i64 k.n, S k.name, S k.words, S k.kids, S k.lengths]
attribute [local irreducible] AC AT AO AK AH ACalls Sub Res.cells Res.nix Res.own Res.map Exit.then Exit.inBlock bodyPost Code.wp Code.wpIn WL Next Post Kont
section
variable {W0 : World} {L : List Res} {F : List Fact} {R : Value → List Res → List Fact → Prop}
theorem Y.eqlK {n : Nat} {ρ : Rho} {T : World → Prop} {a b : Key} {x y : Operand} {d : Option Tmp} {yt ty : TypeId} {pos : String} {af : Array Edge} {g : Option (Nat × Bool)} (hx : ev ρ x = some (vKey a)) (hy : ev ρ y = some (vKey b)) : Yd Tryz.prog n ρ T ⟨d, .binOp .eql 163 x y yt, ty, pos, af, g⟩ (.bool (keyB a b)) := ⟨fun s w st _ => by
  simp only [execOp, ev_eval st hx, ev_eval st hy, Sem.run_bind, run_eqGuard_agg w _ _ _ _ _ _ key_guard, run_eql_struct, key_equalIn, Result.andThen, Sem.run_pure]⟩
set_option maxRecDepth 100000
set_option maxHeartbeats 4000000
def TellsT (W0 : World) (L : List Res) (F : List Fact) (g : FuncId) (cs : List Value) (p : Ty → Prop) : Prop :=
  ∀ (t : Ty) (_ : TyOk t) (a1 : Option Addr) (k1 c1 : Nat) (a2 : Option Addr) (k2 c2 : Nat) (F' : List Fact) (_ : ∀ f ∈ F, f ∈ F') (_ : fW t a1 k1 c1 ∈ F') (_ : fK t a2 k2 c2 ∈ F') (R : Value → List Res → List Fact → Prop), (p t → R (.bool true) L F') → (¬ p t → R (.bool false) L F') → ACalls Tryz.prog W0 g ([vTy t a1 k1 c1 a2 k2 c2] ++ cs).toArray L F' R
theorem add1_c (g : Glob W0) (t : Ty) (ht : TyOk t) (K : Key) {ty : TypeId} {b : Nat} {a1 a2 : Option Addr} {k1 c1 k2 c2 : Nat} (m1 : fW t a1 k1 c1 ∈ F) (m2 : fK t a2 k2 c2 ∈ F) (hT : keyT t = K → R (.bool true) (Res.cells b (cKey K) ty :: L) F) (hF : keyT t ≠ K → R (.bool false) (Res.cells b (cKey K) ty :: L) F) :
    ACalls Tryz.prog W0 110 #[vTy t a1 k1 c1 a2 k2 c2, .pointer (some ⟨b, 0, none⟩)] (Res.cells b (cKey K) ty :: L) F R := by
  refine ACalls.body Tryz.func110 rfl Tryz.ntmps110 rfl ?_
  refine AC.seq (AC.region (AL.go (AO.box rfl rfl (fun b2 => ?_))))
  refine AL.go (AO.assign rfl rfl (AL.nil (AK.seqN (AC.seq ?_))))
  refine AC.draw (fun _ => false) [(b2, _, _), (b, _, _)] bxA rfl (fun hx hX => ?_)
  refine AH.takeS (i := 0) rfl (Y.loadBA rfl lmA (by rfl)) (by kernel_rfl) (by kernel_rfl) rfl rfl rfl ?_
  refine AH.takeS (i := 2) rfl (Y.loadBA rfl lmA (by rfl)) (by kernel_rfl) (by kernel_rfl) rfl rfl rfl ?_
  refine AH.one (i := 1) (by kernel_rfl) rfl rfl (fun _ => ?_)
  refine AO.call rfl rfl (keyOf_c g t ht memA memA ?_)
  refine AT.held bxA memB ?_
  refine AH.takeB (i := 3) rfl (Y.eqlK (b := K) rfl rfl) (by kernel_rfl) rfl rfl (fun c7 => ?_) (fun c7 => ?_)
  ·refine AH.takeW (i := 4) rfl (Y.assign rfl) (by kernel_rfl) rfl rfl ?_
   refine AH.done (by kernel_rfl) ?_
   refine AK.seqN (AC.ret ?_)
   first | exact AK.ret (L' := Res.cells b (cKey K) ty :: L) (F' := F) Tryz.results110 rfl (Sub.drop.trans subF) (hT ((keyB_iff _ _).1 c7)) | exact AK.ret (L' := Res.cells b (cKey K) ty :: L) (F' := F) Tryz.results110 rfl (Sub.drop.trans subF) (hF (fun e => by rw [(keyB_iff _ _).2 e] at c7; exact absurd c7 (by decide)))
  ·refine AH.takeW (i := 4) rfl (Y.assign rfl) (by kernel_rfl) rfl rfl ?_
   refine AH.done (by kernel_rfl) ?_
   refine AK.seqN (AC.ret ?_)
   first | exact AK.ret (L' := Res.cells b (cKey K) ty :: L) (F' := F) Tryz.results110 rfl (Sub.drop.trans subF) (hT ((keyB_iff _ _).1 c7)) | exact AK.ret (L' := Res.cells b (cKey K) ty :: L) (F' := F) Tryz.results110 rfl (Sub.drop.trans subF) (hF (fun e => by rw [(keyB_iff _ _).2 e] at c7; exact absurd c7 (by decide)))
theorem indexFuncT_c (l : List Ty) (hok0 : ∀ t ∈ l, TyOk t) {a : Option Addr} {k c : Nat} (m1 : fL l a k c ∈ F) (g : FuncId) [FnT Tryz.prog g] (cs : List Value) (p : Ty → Prop) (hg : TellsT W0 L F g cs p)
    (hT : ∀ (j : Nat) (hj : j < l.length), p l[j] → R (.int .i64 (j : Int)) L F) (hF : (∀ j (hj : j < l.length), ¬ p l[j]) → R (.int .i64 (-1)) L F) : ACalls Tryz.prog W0 107 #[.slice a k c, .func (.func g) #[] cs.toArray] L F R := by
  refine ACalls.body Tryz.func107 rfl Tryz.ntmps107 rfl ?_
  refine AC.seq (AC.region (AL.go (AO.assign rfl rfl (AL.nil (AK.seqN (AC.seq ?_))))))
  refine AC.seq (AC.region (AL.go (AO.move rfl rfl ?_)))
  refine AL.go (AO.len rfl rfl (fun hl7 => ?_) (hm := by repeat (first | exact mem0 | assumption | refine memS ?_)))
  refine AL.go (AO.move rfl rfl (AL.nil (AK.seqN (AC.block ?_))))
  refine AC.loopC (fun (q : Nat) => q ≤ l.length ∧ ∀ j (hj : j < l.length), j < q → ¬ p l[j]) (fun q => [(0, .slice a k c), (1, .func (.func g) #[] cs.toArray), (7, .int .i64 l.length), (8, .int .i64 (q : Int))]) (fun q => l.length - q) 0 ⟨by omega, by omega⟩ srA ?_
  rintro q ⟨hq, hok⟩
  refine AC.seq (AC.region ?_)
  refine AL.go (AO.lss rfl rfl rfl (fun c9 => ?_) (fun c9 => ?_))
  ·refine AL.nil (AK.seqN (AC.seq (AC.condT rfl (AC.skip (AK.seqN ?_)))))
   refine AC.seq (AC.block (AC.seq (AC.region (AL.go (AO.move rfl rfl (AL.go (AO.assign rfl rfl ?_)))))))
   refine AL.nil (AK.seqN (AC.seq (AC.region (AL.go (AO.move rfl rfl (AL.go (AO.move rfl rfl ?_)))))))
   refine AL.go (AO.move rfl rfl ?_)
   have hql : q < l.length := by omega
   refine AL.go (AO.indexAddr rfl rfl rfl rfl memA hql (fun _ _ => ?_))
   refine AL.go (AO.loadFA rfl rfl ?_)
   intro a15 k15 z15 d15 e15 f15
   refine AL.go (AO.callC rfl rfl rfl (hg l[q] (hok0 _ (List.getElem_mem hql)) _ _ _ _ _ _ _ (fun f hf => List.mem_cons_of_mem _ (List.mem_cons_of_mem _ (List.mem_cons_of_mem _ hf))) memA memA _ (fun c16 => ?_) (fun c16 => ?_)))
   ·refine AL.nil (AK.seqN (AC.condT rfl (AC.seq (AC.region (AL.go (AO.move rfl rfl ?_))))))
    refine AL.go (AO.assign rfl rfl (AL.nil (AK.seqN (AC.ret (AK.blkR (AK.seqR ?_))))))
    refine AK.seqR (AK.blkR (AK.seqR ?_))
    first | exact AK.ret (L' := L) (F' := F) Tryz.results107 rfl subF (hT q hql c16) | exact AK.ret (L' := L) (F' := F) Tryz.results107 rfl subF (hF (fun j hj => hok j hj (by omega)))
   ·refine AL.nil (AK.seqN (AC.condF rfl (AC.skip (AK.blkN (AK.seqN ?_)))))
    refine AC.region (AL.go (AO.add rfl rfl rfl (by omega) (by omega) (AL.go (AO.move rfl rfl (AL.nil ?_)))))
    refine AK.next (q + 1) ⟨by omega, fun j hj hjq => ?_⟩ (by omega) srA subF
    rcases Nat.lt_succ_iff_lt_or_eq.1 hjq with k9 | rfl
    · exact hok j hj k9
    · exact c16
  ·refine AL.nil (AK.seqN (AC.seq (AC.condF rfl (AC.exit (AK.seqX ?_)))))
   refine AK.seqX (AK.blkX (AK.seqN (AC.seq (AC.region (AL.go (AO.assign rfl rfl ?_))))))
   refine AL.nil (AK.seqN (AC.ret ?_))
   first | exact AK.ret (L' := L) (F' := F) Tryz.results107 rfl subF (hT q hql c16) | exact AK.ret (L' := L) (F' := F) Tryz.results107 rfl subF (hF (fun j hj => hok j hj (by omega)))
theorem clipT_c (l : List Ty) (h0 : 0 < l.length) {a : Option Addr} {k c : Nat} (m1 : fL l a k c ∈ F) (h : ∀ ad, R (.slice (some ad) l.length l.length) L (fL l (some ad) l.length l.length :: F)) : ACalls Tryz.prog W0 111 #[.slice a k c] L F R := by
  refine ACalls.body Tryz.func111 rfl Tryz.ntmps111 rfl ?_
  refine AC.seq (AC.region (AL.go (AO.assign rfl rfl (AL.nil (AK.seqN (AC.seq ?_))))))
  refine AC.region (AL.go (AO.move rfl rfl (AL.go (AO.move rfl rfl ?_))))
  refine AL.go (AO.len rfl rfl (fun hl5 => ?_) (hm := by repeat (first | exact mem0 | assumption | refine memS ?_)))
  refine AL.go (AO.move rfl rfl ?_)
  refine AL.go (AO.len rfl rfl (fun hl7 => ?_) (hm := by repeat (first | exact mem0 | assumption | refine memS ?_)))
  refine AL.go (AO.sliceHM (j' := l.length) (m' := l.length) rfl rfl rfl rfl rfl rfl (enc := eTy) (lst := l) memA (by omega) (by omega) h0 (fun ad => ?_))
  rw [List.take_length]
  refine AL.go (AO.assign rfl rfl (AL.nil (AK.seqN (AC.ret ?_))))
  exact AK.ret Tryz.results111 rfl (Sub.refl _ _) (h _)
theorem add_c (g : Glob W0) (l : List Ty) (hok : ∀ t ∈ l, TyOk t) (t : Ty) (ht : TyOk t) {a a1 a2 : Option Addr} {k c k1 c1 k2 c2 : Nat} (m : fL l a k c ∈ F) (m1 : fW t a1 k1 c1 ∈ F) (m2 : fK t a2 k2 c2 ∈ F)
    (h1 : ¬ rightP l → R (.tuple #[.slice none 0 0, .int .i64 0, .int .i64 1]) L F)
    (h2 : rightP l → ∀ q (hq : q < l.length), l[q] = t → R (.tuple #[.slice a k c, .int .i64 (q : Int), .int .i64 0]) L F)
    (h3 : rightP l → t ∉ l → ¬ madeP l t → R (.tuple #[.slice none 0 0, .int .i64 0, .int .i64 1]) L F)
    (h4 : rightP l → t ∉ l → madeP l t → l.length = 400 → R (.tuple #[.slice none 0 0, .int .i64 0, .int .i64 7]) L F)
    (h5 : rightP l → t ∉ l → madeP l t → l.length < 400 → ∀ a k c, R (.tuple #[.slice a k c, .int .i64 (l.length : Int), .int .i64 0]) L (fL (l ++ [t]) a k c :: F)) :
    ACalls Tryz.prog W0 52 #[.slice a k c, vTy t a1 k1 c1 a2 k2 c2] L F R := by
  refine ACalls.body Tryz.func52 rfl Tryz.ntmps52 rfl ?_
  refine AC.seq (AC.region (AL.go (AO.box rfl rfl (fun b3 => ?_))))
  refine AL.go (AO.assign rfl rfl (AL.go (AO.assign rfl rfl (AL.go (AO.assign rfl rfl (AL.nil (AK.seqN (AC.seq ?_))))))))
  refine AC.seq (AC.region (AL.go (AO.move rfl rfl ?_)))
  refine AL.go (AO.call rfl rfl (right_c g l hok memA (fun c10 => ?_) (fun c10 => ?_)))
  ·refine AL.go (AO.not rfl rfl (AL.nil (AK.seqN (AC.condF rfl (AC.skip (AK.seqN ?_))))))
   refine AC.seq (AC.region ?_)
   refine AL.go (AO.loadBA rfl rfl ?_)
   refine AL.go (AO.call rfl rfl (keyOf_c g t ht memA memA ?_))
   refine AL.go (AO.alloc rfl (fun b7 => ?_))
   refine AL.go (AO.storeBA rfl rfl rfl rfl ?_)
   refine AL.nil (AK.seqN (AC.seq (AC.region (AL.go (AO.move rfl rfl ?_)))))
   refine AL.go (AO.makeFunc rfl rfl ?_)
   refine AL.go (AO.call rfl rfl (indexFuncT_c l hok m _ [.pointer (some ⟨b7, 0, none⟩)] (fun x => keyT x = keyT t) (fun x hx y1 y2 y3 y4 y5 y6 F' hF' n1 n2 R hT hF => add1_c g x hx (keyT t) n1 n2 hT hF) (fun j16 hj16 c16 => ?_) (fun c16 => ?_)))
   ·refine AL.go (AO.assign rfl rfl (AL.nil (AK.seqN (AC.seq (AC.block (AC.seq ?_))))))
    refine AC.region (AL.go (AO.move rfl rfl ?_))
    refine AL.go (AO.geq rfl rfl rfl (fun c19 => ?_) (fun c19 => absurd c19 (by omega)))
    refine AL.go (AO.assign rfl rfl (AL.nil (AK.seqN (AC.condT rfl (AC.seq (AC.region ?_))))))
    refine AL.go (AO.move rfl rfl (AL.go (AO.move rfl rfl (AL.go (AO.assign rfl rfl (AL.go (AO.assign rfl rfl (AL.go (AO.assign rfl rfl (AL.nil ?_))))))))))
    refine AK.seqN (AC.ret (AK.blkR (AK.seqR ?_)))
    first
    | exact AK.ret3 (L' := L) (F' := F) Tryz.results52 rfl rfl rfl subA (h1 c10)
    | exact AK.ret3 (L' := L) (F' := F) Tryz.results52 rfl rfl rfl subA (h2 c10 j16 hj16 (key_inj c16))
    | exact AK.ret3 (L' := L) (F' := F) Tryz.results52 rfl rfl rfl subA (h3 c10 hno c25)
    | exact AK.ret3 (L' := L) (F' := F) Tryz.results52 rfl rfl rfl subA (h4 c10 hno c25 (by omega))
    | exact AK.ret3 (L' := L) (F' := fL (l ++ [t]) a35 k35 z35 :: F) Tryz.results52 rfl rfl rfl ((Sub.commit (i := 0) rfl).trans (Sub.drop.trans (Sub.drop.trans (Sub.drop.trans (Sub.headF (fun x hx => by repeat (first | exact hx | refine List.mem_cons_of_mem _ ?_))))))) (h5 c10 hno c25 (by have := c10.2.1; omega) _ _ _)
   ·refine AL.go (AO.assign rfl rfl (AL.nil (AK.seqN (AC.seq (AC.block (AC.seq ?_))))))
    refine AC.region (AL.go (AO.move rfl rfl ?_))
    have hno : t ∉ l := fun hm => by
     obtain ⟨j, hj, e⟩ := List.getElem_of_mem hm
     exact c16 j hj (by rw [e])
    refine AL.go (AO.geq rfl rfl rfl (fun c19 => absurd c19 (by omega)) (fun c19 => ?_))
    refine AL.go (AO.assign rfl rfl (AL.nil (AK.seqN (AC.condF rfl (AC.seq (AC.region ?_))))))
    refine AL.go (AO.move rfl rfl ?_)
    refine AL.go (AO.loadBA rfl rfl ?_)
    refine AL.go (AO.call rfl rfl (made_c g l t ht memA memA memA (fun c25 => ?_) (fun c25 => ?_)))
    ·refine AL.go (AO.not rfl rfl (AL.go (AO.assign rfl rfl (AL.nil (AK.seqN (AC.condF rfl (AC.seq ?_)))))))
     refine AC.region (AL.go (AO.move rfl rfl ?_))
     refine AL.go (AO.len rfl rfl (fun hl29 => ?_) (hm := by repeat (first | exact mem0 | assumption | refine memS ?_)))
     refine AL.go (AO.eql rfl rfl rfl (fun c30 => ?_) (fun c30 => ?_))
     ·refine AL.go (AO.assign rfl rfl (AL.nil (AK.seqN (AC.condT rfl (AC.seq (AC.region ?_))))))
      refine AL.go (AO.assign rfl rfl (AL.go (AO.assign rfl rfl (AL.go (AO.assign rfl rfl (AL.nil (AK.seqN (AC.ret ?_))))))))
      refine AK.blkR (AK.seqR ?_)
      first
      | exact AK.ret3 (L' := L) (F' := F) Tryz.results52 rfl rfl rfl subA (h1 c10)
      | exact AK.ret3 (L' := L) (F' := F) Tryz.results52 rfl rfl rfl subA (h2 c10 j16 hj16 (key_inj c16))
      | exact AK.ret3 (L' := L) (F' := F) Tryz.results52 rfl rfl rfl subA (h3 c10 hno c25)
      | exact AK.ret3 (L' := L) (F' := F) Tryz.results52 rfl rfl rfl subA (h4 c10 hno c25 (by omega))
      | exact AK.ret3 (L' := L) (F' := fL (l ++ [t]) a35 k35 z35 :: F) Tryz.results52 rfl rfl rfl ((Sub.commit (i := 0) rfl).trans (Sub.drop.trans (Sub.drop.trans (Sub.drop.trans (Sub.headF (fun x hx => by repeat (first | exact hx | refine List.mem_cons_of_mem _ ?_))))))) (h5 c10 hno c25 (by have := c10.2.1; omega) _ _ _)
     ·refine AL.go (AO.assign rfl rfl (AL.nil (AK.seqN (AC.condF rfl (AC.skip (AK.blkN ?_))))))
      refine AK.seqN (AC.seq ?_)
      refine AC.draw (fun _ => false) [(b3, _, _)] bxA rfl (fun hx hX => ?_)
      have hk9 := (len_of_fact (hX (fL l a k c) memA)).1
      subst hk9
      refine AH.takeW (i := 0) rfl (Y.move rfl) (by kernel_rfl) rfl rfl ?_
      refine AH.takeS (i := 2) rfl (Y.loadBA rfl lmA (by rfl)) (by kernel_rfl) (by kernel_rfl) rfl rfl rfl ?_
      refine AH.takeW (i := 5) rfl (Y.move rfl) (by kernel_rfl) rfl rfl ?_
      refine AH.takeW (i := 6) rfl (Y.lenV rfl) (by kernel_rfl) rfl rfl ?_
      refine AH.two (i := 1) (j := 3) (by kernel_rfl) rfl rfl rfl rfl (fun _ => ?_) (fun _ => ?_)
      ·refine AO.call rfl rfl (clipT_c l (by have := c10.1; omega) memA (fun ad32 => ?_))
       refine AT.held bxA memB ?_
       refine AH.one (i := 3) (by kernel_rfl) rfl rfl (fun _ => ?_)
       refine AO.buildSlice rfl rfl rfl rfl rfl (fun b34 => ?_)
       refine AT.held bxA memB ?_
       refine AH.one (i := 4) (by kernel_rfl) rfl rfl (fun _ => ?_)
       refine AO.appendFull (enc := eTy) (lst := l) [t] rfl rfl rfl (show fL l _ _ _ ∈ _ from memA) eTy_one (.val (.val (.val (.slc (.slc .nil memA) memA)))) rfl (by decide) (fun _ => rfl) (by have := c10.2.1; simp only [maxLen]; omega) (by have := c10.2.1; omega) (fun a35 k35 z35 => ?_)
       refine AT.held bxA memB ?_
       refine AH.takeW (i := 7) rfl (Y.assign rfl) (by kernel_rfl) rfl rfl ?_
       refine AH.takeW (i := 8) rfl (Y.assign rfl) (by kernel_rfl) rfl rfl ?_
       refine AH.takeW (i := 9) rfl (Y.assign rfl) (by kernel_rfl) rfl rfl ?_
       refine AH.done (by kernel_rfl) ?_
       refine AK.seqN (AC.ret ?_)
       first
       | exact AK.ret3 (L' := L) (F' := F) Tryz.results52 rfl rfl rfl subA (h1 c10)
       | exact AK.ret3 (L' := L) (F' := F) Tryz.results52 rfl rfl rfl subA (h2 c10 j16 hj16 (key_inj c16))
       | exact AK.ret3 (L' := L) (F' := F) Tryz.results52 rfl rfl rfl subA (h3 c10 hno c25)
       | exact AK.ret3 (L' := L) (F' := F) Tryz.results52 rfl rfl rfl subA (h4 c10 hno c25 (by omega))
       | exact AK.ret3 (L' := L) (F' := fL (l ++ [t]) a35 k35 z35 :: F) Tryz.results52 rfl rfl rfl ((Sub.commit (i := 0) rfl).trans (Sub.drop.trans (Sub.drop.trans (Sub.drop.trans (Sub.headF (fun x hx => by repeat (first | exact hx | refine List.mem_cons_of_mem _ ?_))))))) (h5 c10 hno c25 (by have := c10.2.1; omega) _ _ _)
      ·refine AO.buildSlice rfl rfl rfl rfl rfl (fun b34 => ?_)
       refine AT.held bxA memB ?_
       refine AH.one (i := 1) (by kernel_rfl) rfl rfl (fun _ => ?_)
       refine AO.call rfl rfl (clipT_c l (by have := c10.1; omega) memA (fun ad32 => ?_))
       refine AT.held bxA memB ?_
       refine AH.one (i := 4) (by kernel_rfl) rfl rfl (fun _ => ?_)
       refine AO.appendFull (enc := eTy) (lst := l) [t] rfl rfl rfl (show fL l _ _ _ ∈ _ from memA) eTy_one (.val (.val (.val (.slc (.slc .nil memA) memA)))) rfl (by decide) (fun _ => rfl) (by have := c10.2.1; simp only [maxLen]; omega) (by have := c10.2.1; omega) (fun a35 k35 z35 => ?_)
       refine AT.held bxA memB ?_
       refine AH.takeW (i := 7) rfl (Y.assign rfl) (by kernel_rfl) rfl rfl ?_
       refine AH.takeW (i := 8) rfl (Y.assign rfl) (by kernel_rfl) rfl rfl ?_
       refine AH.takeW (i := 9) rfl (Y.assign rfl) (by kernel_rfl) rfl rfl ?_
       refine AH.done (by kernel_rfl) ?_
       refine AK.seqN (AC.ret ?_)
       first
       | exact AK.ret3 (L' := L) (F' := F) Tryz.results52 rfl rfl rfl subA (h1 c10)
       | exact AK.ret3 (L' := L) (F' := F) Tryz.results52 rfl rfl rfl subA (h2 c10 j16 hj16 (key_inj c16))
       | exact AK.ret3 (L' := L) (F' := F) Tryz.results52 rfl rfl rfl subA (h3 c10 hno c25)
       | exact AK.ret3 (L' := L) (F' := F) Tryz.results52 rfl rfl rfl subA (h4 c10 hno c25 (by omega))
       | exact AK.ret3 (L' := L) (F' := fL (l ++ [t]) a35 k35 z35 :: F) Tryz.results52 rfl rfl rfl ((Sub.commit (i := 0) rfl).trans (Sub.drop.trans (Sub.drop.trans (Sub.drop.trans (Sub.headF (fun x hx => by repeat (first | exact hx | refine List.mem_cons_of_mem _ ?_))))))) (h5 c10 hno c25 (by have := c10.2.1; omega) _ _ _)
    ·refine AL.go (AO.not rfl rfl (AL.go (AO.assign rfl rfl (AL.nil (AK.seqN (AC.condT rfl (AC.seq ?_)))))))
     refine AC.region (AL.go (AO.assign rfl rfl (AL.go (AO.assign rfl rfl (AL.go (AO.assign rfl rfl (AL.nil (AK.seqN ?_))))))))
     refine AC.ret (AK.blkR (AK.seqR ?_))
     first
     | exact AK.ret3 (L' := L) (F' := F) Tryz.results52 rfl rfl rfl subA (h1 c10)
     | exact AK.ret3 (L' := L) (F' := F) Tryz.results52 rfl rfl rfl subA (h2 c10 j16 hj16 (key_inj c16))
     | exact AK.ret3 (L' := L) (F' := F) Tryz.results52 rfl rfl rfl subA (h3 c10 hno c25)
     | exact AK.ret3 (L' := L) (F' := F) Tryz.results52 rfl rfl rfl subA (h4 c10 hno c25 (by omega))
     | exact AK.ret3 (L' := L) (F' := fL (l ++ [t]) a35 k35 z35 :: F) Tryz.results52 rfl rfl rfl ((Sub.commit (i := 0) rfl).trans (Sub.drop.trans (Sub.drop.trans (Sub.drop.trans (Sub.headF (fun x hx => by repeat (first | exact hx | refine List.mem_cons_of_mem _ ?_))))))) (h5 c10 hno c25 (by have := c10.2.1; omega) _ _ _)
  ·refine AL.go (AO.not rfl rfl (AL.nil (AK.seqN (AC.condT rfl (AC.seq (AC.region ?_))))))
   refine AL.go (AO.assign rfl rfl (AL.go (AO.assign rfl rfl (AL.go (AO.assign rfl rfl (AL.nil (AK.seqN (AC.ret ?_))))))))
   refine AK.seqR ?_
   first
   | exact AK.ret3 (L' := L) (F' := F) Tryz.results52 rfl rfl rfl subA (h1 c10)
   | exact AK.ret3 (L' := L) (F' := F) Tryz.results52 rfl rfl rfl subA (h2 c10 j16 hj16 (key_inj c16))
   | exact AK.ret3 (L' := L) (F' := F) Tryz.results52 rfl rfl rfl subA (h3 c10 hno c25)
   | exact AK.ret3 (L' := L) (F' := F) Tryz.results52 rfl rfl rfl subA (h4 c10 hno c25 (by omega))
   | exact AK.ret3 (L' := L) (F' := fL (l ++ [t]) a35 k35 z35 :: F) Tryz.results52 rfl rfl rfl ((Sub.commit (i := 0) rfl).trans (Sub.drop.trans (Sub.drop.trans (Sub.drop.trans (Sub.headF (fun x hx => by repeat (first | exact hx | refine List.mem_cons_of_mem _ ?_))))))) (h5 c10 hno c25 (by have := c10.2.1; omega) _ _ _)
end
end Go.Sy
namespace Go.Sy
open Go Go.Proofs Go.RowKit
abbrev vI (i : Int) : Value := .int .i64 i
def cutT (s : List UInt8) : List UInt8 := s.take (min s.length 4001)
theorem cutT_short {s : List UInt8} (h : s.length ≤ 4001) : cutT s = s := by
  unfold cutT; exact List.take_of_length_le (by omega)
attribute [local irreducible] AC AT AO AK AH ACalls Sub Res.cells Res.nix Res.own Res.map Exit.then Exit.inBlock bodyPost Code.wp Code.wpIn WL Next Post Kont
section
variable {W0 : World} {L : List Res} {F : List Fact} {R : Value → List Res → List Fact → Prop}
set_option maxRecDepth 100000
set_option maxHeartbeats 4000000
theorem text0_c (l : List Ty) (m : Int → Option (List UInt8)) (q : Nat) (hq : q < l.length) (hk : l[q].kind = 0) (hn : l[q].name.length ≤ 60) (hm : m q = none) {a : Option Addr} {k c bw bm i j : Nat} (mL : fL l a k c ∈ F)
    (hi : L[i]? = some (Res.cells bw #[.slice a k c, .map (some bm)] 175)) (hj : L[j]? = some (Res.map bm vI S m)) (hij : i ≠ j)
    (h : R (S l[q].name) (L.set j (Res.map bm vI S (upd m q l[q].name))) F) : ACalls Tryz.prog W0 109 #[.pointer (some ⟨bw, 0, none⟩), .int .i64 (q : Int)] L F R := by
  have hsh : cutT l[q].name = l[q].name := cutT_short (by omega)
  refine ACalls.body Tryz.func109 rfl Tryz.ntmps109 rfl ?_
  refine AC.seq (AC.region (AL.go (AO.assign rfl rfl (AL.nil (AK.seqN (AC.seq ?_))))))
  refine AC.seq (AC.region (AL.go (AO.move rfl rfl ?_)))
  refine AL.go (AO.nilCheckP rfl rfl ?_)
  refine AL.go (AO.field rfl rfl ?_)
  refine AL.go (AO.loadB (cs := [.slice a k c, .map (some bm)]) rfl rfl ?_ (hi := hi) (hv := rfl))
  refine AL.go (AO.move rfl rfl ?_)
  refine AL.go (AO.lookupOk (kenc := vI) (venc := S) (m := m) (i := j) (q : Int) rfl rfl rfl hj (fun y hy => absurd hy (by rw [hm]; simp)) (fun _ => ?_))
  refine AL.go (AO.move rfl rfl (AL.go (AO.extract rfl rfl rfl ?_)))
  refine AL.go (AO.extract rfl rfl rfl ?_)
  refine AL.go (AO.assign rfl rfl (AL.go (AO.assign rfl rfl (AL.nil (AK.seqN (AC.seq (AC.region ?_)))))))
  refine AL.go (AO.move rfl rfl (AL.nil (AK.seqN (AC.condF rfl (AC.skip (AK.seqN ?_))))))
  refine AC.seq (AC.region (AL.go (AO.move rfl rfl ?_)))
  refine AL.go (AO.nilCheckP rfl rfl ?_)
  refine AL.go (AO.field rfl rfl ?_)
  refine AL.go (AO.loadB (cs := [.slice a k c, .map (some bm)]) rfl rfl ?_ (hi := hi) (hv := rfl))
  refine AL.go (AO.move rfl rfl ?_)
  refine AL.go (AO.indexAddr rfl rfl rfl rfl memA hq (fun _ _ => ?_))
  refine AL.go (AO.loadFA rfl rfl ?_)
  intro a29 k29 z29 d29 e29 f29
  refine AL.go (AO.alloc rfl (fun b7 => ?_))
  refine AL.go (AO.storeBA rfl rfl rfl rfl ?_)
  refine AL.nil (AK.seqN (AC.seq (AC.region (AL.go (AO.assign rfl rfl (AL.nil ?_))))))
  refine AK.seqN (AC.seq (AC.seq (AC.region (AL.go (AO.field rfl rfl ?_)))))
  refine AL.go (AO.loadB rfl rfl ?_)
  refine AL.nil (AK.seqN (AC.block (AC.seq (AC.region ?_))))
  refine AL.go (AO.eql rfl rfl rfl (fun c33 => ?_) (fun c33 => absurd hk c33))
  refine AL.go (AO.assign rfl rfl (AL.nil (AK.seqN (AC.condT rfl (AC.region (AL.go (AO.field rfl rfl ?_)))))))
  refine AL.go (AO.loadB rfl rfl ?_)
  refine AL.go (AO.assign rfl rfl (AL.nil (AK.blkN (AK.seqN (AC.seq ?_)))))
  refine AC.draw (fun i => Nat.beq i 10) [(bw, _, _)] bxA rfl (fun hx hX => ?_)
  refine AH.takeW (i := 0) rfl (Y.move rfl) (by kernel_rfl) rfl rfl ?_
  refine AH.takeW (i := 1) rfl (Y.nilCheckP rfl) (by kernel_rfl) rfl rfl ?_
  refine AH.takeW (i := 2) rfl (Y.field rfl) (by kernel_rfl) rfl rfl ?_
  refine AH.takeS (i := 3) rfl (Y.loadB rfl lmA (by rfl)) (by kernel_rfl) (by kernel_rfl) rfl rfl rfl ?_
  refine AH.takeW (i := 4) rfl (Y.move rfl) (by kernel_rfl) rfl rfl ?_
  refine AH.takeW (i := 5) rfl (Y.move rfl) (by kernel_rfl) rfl rfl ?_
  refine AH.takeW (i := 6) rfl (Y.move rfl) (by kernel_rfl) rfl rfl ?_
  refine AH.takeW (i := 7) rfl (Y.lenS rfl) (by kernel_rfl) rfl rfl ?_
  refine AH.takeW (i := 8) rfl (Y.min rfl rfl) (by kernel_rfl) rfl rfl ?_
  refine AH.takeW (i := 9) rfl (Y.sliceSH (j' := min l[q].name.length 4001) rfl rfl (by omega) (by omega)) (by kernel_rfl) rfl rfl ?_
  refine AH.one (i := 10) (by kernel_rfl) rfl rfl (fun _ => ?_)
  refine AO.mapUpdate (kenc := vI) (venc := S) (m := m) (i := j + 1) (q : Int) (cutT l[q].name) rfl rfl rfl hj ?_
  refine AT.spoilt rfl ?_
  refine AH.done (by kernel_rfl) ?_
  refine AK.seqN (AC.seq (AC.region (AL.go (AO.move rfl rfl ?_))))
  refine AL.go (AO.nilCheckP rfl rfl ?_)
  refine AL.go (AO.field rfl rfl ?_)
  refine AL.go (AO.loadB (cs := [.slice a k c, .map (some bm)]) rfl rfl ?_ (i := i + 1) (hi := (List.getElem?_set_ne (Ne.symm hij)).trans hi) (hv := rfl))
  refine AL.go (AO.move rfl rfl ?_)
  refine AL.go (AO.lookup (kenc := vI) (venc := S) (m := upd m (q : Int) (cutT l[q].name)) (i := j + 1) (q : Int) rfl rfl rfl (List.getElem?_set_self (has_lt hj)) ?_)
  rw [upd_self]
  refine AL.go (AO.assign rfl rfl (AL.nil (AK.seqN (AC.ret ?_))))
  rw [hsh]
  exact AK.ret (L' := L.set j (Res.map bm vI S (upd m q l[q].name))) (F' := F) Tryz.results109 rfl subA h
theorem textS_c (l : List Ty) (m : Int → Option (List UInt8)) (q r : Nat) (hq : q < l.length) (hk : l[q].kind = 2) (hr : r < l.length) (hrk : l[r].kind = 0) (hn : l[r].name.length ≤ 60) (hkid : l[q].kids = [(r : Int)]) (hm : m q = none) (hmr : m r = none) {a : Option Addr} {k c bw bm i j : Nat} (mL : fL l a k c ∈ F)
    (hi : L[i]? = some (Res.cells bw #[.slice a k c, .map (some bm)] 175)) (hj : L[j]? = some (Res.map bm vI S m)) (hij : i ≠ j)
    (h : R (S (91 :: 93 :: l[r].name)) (L.set j (Res.map bm vI S (upd (upd m r l[r].name) q (91 :: 93 :: l[r].name)))) F) : ACalls Tryz.prog W0 109 #[.pointer (some ⟨bw, 0, none⟩), .int .i64 (q : Int)] L F R := by
  have hml : 1000000 ≤ maxLen := by decide
  have hle : ([91, 93] ++ l[r].name).length = (91 :: 93 :: l[r].name).length := rfl
  have hsh : cutT (91 :: 93 :: l[r].name) = 91 :: 93 :: l[r].name := cutT_short (by simp only [List.length_cons]; omega)
  refine ACalls.body Tryz.func109 rfl Tryz.ntmps109 rfl ?_
  refine AC.seq (AC.region (AL.go (AO.assign rfl rfl (AL.nil (AK.seqN (AC.seq ?_))))))
  refine AC.seq (AC.region (AL.go (AO.move rfl rfl ?_)))
  refine AL.go (AO.nilCheckP rfl rfl ?_)
  refine AL.go (AO.field rfl rfl ?_)
  refine AL.go (AO.loadB (cs := [.slice a k c, .map (some bm)]) rfl rfl ?_ (hi := hi) (hv := rfl))
  refine AL.go (AO.move rfl rfl ?_)
  refine AL.go (AO.lookupOk (kenc := vI) (venc := S) (m := m) (i := j) (q : Int) rfl rfl rfl hj (fun y hy => absurd hy (by rw [hm]; simp)) (fun _ => ?_))
  refine AL.go (AO.move rfl rfl (AL.go (AO.extract rfl rfl rfl ?_)))
  refine AL.go (AO.extract rfl rfl rfl ?_)
  refine AL.go (AO.assign rfl rfl (AL.go (AO.assign rfl rfl (AL.nil (AK.seqN (AC.seq (AC.region ?_)))))))
  refine AL.go (AO.move rfl rfl (AL.nil (AK.seqN (AC.condF rfl (AC.skip (AK.seqN ?_))))))
  refine AC.seq (AC.region (AL.go (AO.move rfl rfl ?_)))
  refine AL.go (AO.nilCheckP rfl rfl ?_)
  refine AL.go (AO.field rfl rfl ?_)
  refine AL.go (AO.loadB (cs := [.slice a k c, .map (some bm)]) rfl rfl ?_ (hi := hi) (hv := rfl))
  refine AL.go (AO.move rfl rfl ?_)
  refine AL.go (AO.indexAddr rfl rfl rfl rfl memA hq (fun _ _ => ?_))
  refine AL.go (AO.loadFA rfl rfl ?_)
  intro a29 k29 z29 d29 e29 f29
  refine AL.go (AO.alloc rfl (fun b7 => ?_))
  refine AL.go (AO.storeBA rfl rfl rfl rfl ?_)
  refine AL.nil (AK.seqN (AC.seq (AC.region (AL.go (AO.assign rfl rfl (AL.nil ?_))))))
  refine AK.seqN (AC.seq (AC.seq (AC.region (AL.go (AO.field rfl rfl ?_)))))
  refine AL.go (AO.loadB rfl rfl ?_)
  refine AL.nil (AK.seqN (AC.block (AC.seq (AC.region ?_))))
  refine AL.go (AO.eql rfl rfl rfl (fun c33 => absurd c33 (by omega)) (fun c33 => ?_))
  refine AL.go (AO.assign rfl rfl (AL.nil (AK.seqN (AC.condF rfl (AC.seq (AC.region ?_))))))
  refine AL.go (AO.eql rfl rfl rfl (fun c37 => absurd c37 (by omega)) (fun c37 => ?_))
  refine AL.go (AO.assign rfl rfl (AL.nil (AK.seqN (AC.condF rfl (AC.seq (AC.region ?_))))))
  refine AL.go (AO.eql rfl rfl rfl (fun c46 => ?_) (fun c46 => absurd hk c46))
  refine AL.go (AO.assign rfl rfl (AL.nil (AK.seqN (AC.condT rfl (AC.region (AL.go (AO.move rfl rfl ?_)))))))
  refine AL.go (AO.field rfl rfl ?_)
  refine AL.go (AO.loadB rfl rfl ?_)
  have hk0 : 0 < l[q].kids.length := by simp [hkid]
  have hkr : l[q].kids[0] = (r : Int) := by simp only [hkid, List.getElem_cons_zero]
  refine AL.go (AO.indexAddr (k := 0) rfl rfl rfl rfl (show fK l[q] _ _ _ ∈ _ from memA) hk0 (fun _ _ => ?_))
  refine AL.go (AO.loadF rfl rfl ?_)
  rw [hkr]
  refine AL.go (AO.call rfl rfl (text0_c l m r hr hrk hn hmr (i := i + 1) (j := j + 1) memA hi hj (by omega) ?_))
  have hjj := has_lt hj
  have hi2 : (L.set j (Res.map bm vI S (upd m r l[r].name)))[i]? = some (Res.cells bw #[.slice a k c, .map (some bm)] 175) := (List.getElem?_set_ne (Ne.symm hij)).trans hi
  simp only [List.set_cons_zero, List.set_cons_succ]
  refine AL.go (AO.addS rfl rfl rfl (by first | omega | (simp; omega)) (AL.go (AO.assign rfl rfl (AL.nil (AK.blkN (AK.seqN (AC.seq ?_)))))))
  refine AC.draw (fun i => Nat.beq i 10) [(bw, _, _)] bxA rfl (fun hx hX => ?_)
  refine AH.takeW (i := 0) rfl (Y.move rfl) (by kernel_rfl) rfl rfl ?_
  refine AH.takeW (i := 1) rfl (Y.nilCheckP rfl) (by kernel_rfl) rfl rfl ?_
  refine AH.takeW (i := 2) rfl (Y.field rfl) (by kernel_rfl) rfl rfl ?_
  refine AH.takeS (i := 3) rfl (Y.loadB rfl lmA (by rfl)) (by kernel_rfl) (by kernel_rfl) rfl rfl rfl ?_
  refine AH.takeW (i := 4) rfl (Y.move rfl) (by kernel_rfl) rfl rfl ?_
  refine AH.takeW (i := 5) rfl (Y.move rfl) (by kernel_rfl) rfl rfl ?_
  refine AH.takeW (i := 6) rfl (Y.move rfl) (by kernel_rfl) rfl rfl ?_
  refine AH.takeW (i := 7) rfl (Y.lenS rfl) (by kernel_rfl) rfl rfl ?_
  refine AH.takeW (i := 8) rfl (Y.min rfl rfl) (by kernel_rfl) rfl rfl ?_
  refine AH.takeW (i := 9) rfl (Y.sliceSH (a := 91 :: 93 :: l[r].name) (j' := min (91 :: 93 :: l[r].name).length 4001) rfl rfl (by omega) (by omega)) (by kernel_rfl) rfl rfl ?_
  refine AH.one (i := 10) (by kernel_rfl) rfl rfl (fun _ => ?_)
  refine AO.mapUpdate (kenc := vI) (venc := S) (m := upd m r l[r].name) (i := j + 1) (q : Int) (cutT (91 :: 93 :: l[r].name)) rfl rfl rfl (List.getElem?_set_self hjj) ?_
  refine AT.spoilt rfl ?_
  refine AH.done (by kernel_rfl) ?_
  refine AK.seqN (AC.seq (AC.region (AL.go (AO.move rfl rfl ?_))))
  refine AL.go (AO.nilCheckP rfl rfl ?_)
  refine AL.go (AO.field rfl rfl ?_)
  refine AL.go (AO.loadB (cs := [.slice a k c, .map (some bm)]) rfl rfl ?_ (i := i + 1) (hi := by simp only [List.set_cons_succ, List.getElem?_cons_succ, List.set_set]; exact (List.getElem?_set_ne (Ne.symm hij)).trans hi) (hv := rfl))
  refine AL.go (AO.move rfl rfl ?_)
  refine AL.go (AO.lookup (kenc := vI) (venc := S) (m := upd (upd m r l[r].name) (q : Int) (cutT (91 :: 93 :: l[r].name))) (i := j + 1) (q : Int) rfl rfl rfl (List.getElem?_set_self (by simp; omega)) ?_)
  rw [upd_self]
  refine AL.go (AO.assign rfl rfl (AL.nil (AK.seqN (AC.ret ?_))))
  rw [hsh]
  simp only [List.set_cons_succ, List.set_set]
  exact AK.ret (L' := L.set j (Res.map bm vI S (upd (upd m r l[r].name) q (91 :: 93 :: l[r].name)))) (F' := F) Tryz.results109 rfl subA h
end
end Go.Sy
namespace Go.Sy
open Go Go.Proofs Go.RowKit
structure TyIn (t : Ty) : Prop where
  kind : -9223372036854775808 ≤ t.kind ∧ t.kind ≤ 9223372036854775807
  n : -9223372036854775808 ≤ t.n ∧ t.n ≤ 9223372036854775807
  kid : ∀ k ∈ t.kids, -9223372036854775808 ≤ k ∧ k ≤ 9223372036854775807
theorem right_snoc {l : List Ty} {t : Ty} (h : rightP l) (hn : t ∉ l) (hm : madeP l t) (hl : l.length < 400) : rightP (l ++ [t]) := by
  refine ⟨by have := h.1; simp; omega, by simp; omega, fun i hi => ?_⟩
  have h22 := h.1
  rcases Nat.lt_or_ge i l.length with k | k
  · have hr := h.2.2 i k
    unfold rowAt at hr ⊢
    rw [List.getElem_append_left k, List.take_append_of_le_length (by omega)]
    exact hr
  · have hil : i = l.length := by simp at hi; omega
    subst hil
    unfold rowAt
    rw [if_neg (by omega), List.getElem_append_right (by omega), List.take_append_of_le_length (by omega), List.take_length]
    simp only [Nat.sub_self, List.getElem_cons_zero]
    exact ⟨hm, hn⟩
def sliceT : Ty := ⟨2, [], 0, [], [2]⟩
theorem start_right : rightP startL := by
  have hl := start_len
  refine ⟨by omega, by omega, fun i hi => ?_⟩
  unfold rowAt
  rw [if_pos (by omega), start_get hi]
def AddP (l : List Ty) (t : Ty) (l' : List Ty) (i e : Int) : Prop :=
  (∃ q : Nat, ∃ hq : q < l.length, l[q] = t ∧ l' = l ∧ i = (q : Int) ∧ e = 0) ∨
  (t ∉ l ∧ ((¬ madeP l t ∧ l' = [] ∧ i = 0 ∧ e = 1) ∨ (madeP l t ∧ l.length = 400 ∧ l' = [] ∧ i = 0 ∧ e = 7) ∨ (madeP l t ∧ l.length ≠ 400 ∧ l' = l ++ [t] ∧ i = (l.length : Int) ∧ e = 0)))
theorem right_inj {l : List Ty} (h : rightP l) {i j : Nat} (hi : i < l.length) (hj : j < l.length) (e : l[i] = l[j]) : i = j := by
  rcases Nat.lt_trichotomy i j with k | k | k
  · refine absurd ?_ (right_once h j hj)
    rw [← e, List.mem_take_iff_getElem]
    exact ⟨i, by omega, rfl⟩
  · exact k
  · refine absurd ?_ (right_once h i hi)
    rw [e, List.mem_take_iff_getElem]
    exact ⟨j, by omega, rfl⟩
theorem addP_one {l : List Ty} {t : Ty} {l1 l2 : List Ty} {i1 e1 i2 e2 : Int} (hr : rightP l) (h1 : AddP l t l1 i1 e1) (h2 : AddP l t l2 i2 e2) : l1 = l2 ∧ i1 = i2 ∧ e1 = e2 := by
  rcases h1 with ⟨q, hq, a1, a2, a3, a4⟩ | ⟨n1, h1⟩
  · rcases h2 with ⟨r, hr', b1, b2, b3, b4⟩ | ⟨n2, _⟩
    · have := right_inj hr hq hr' (a1.trans b1.symm)
      subst this
      exact ⟨by rw [a2, b2], by rw [a3, b3], by rw [a4, b4]⟩
    · exact absurd (at_mem hq a1) n2
  · rcases h2 with ⟨r, hr', b1, _⟩ | ⟨n2, h2⟩
    · exact absurd (at_mem hr' b1) n1
    · rcases h1 with ⟨m1, a2, a3, a4⟩ | ⟨m1, z1, a2, a3, a4⟩ | ⟨m1, z1, a2, a3, a4⟩ <;> rcases h2 with ⟨m2, b2, b3, b4⟩ | ⟨m2, z2, b2, b3, b4⟩ | ⟨m2, z2, b2, b3, b4⟩
      all_goals first | exact absurd m2 m1 | exact absurd m1 m2 | exact absurd z2 z1 | exact absurd z1 z2 | exact ⟨by rw [a2, b2], by rw [a3, b3], by rw [a4, b4]⟩
attribute [local irreducible] AC AT AO AK AH ACalls Sub Res.cells Res.nix Res.own Res.map Exit.then Exit.inBlock bodyPost Code.wp Code.wpIn WL Next Post Kont
section
variable {W0 : World} {L : List Res} {F : List Fact} {R : Value → List Res → List Fact → Prop}
set_option maxRecDepth 100000
set_option maxHeartbeats 4000000
theorem ptextS_c (g : Glob W0) (l : List Ty) (hok : ∀ t ∈ l, TyOk t) (hright : rightP l) (q r : Nat) (hq : q < l.length) (hk : l[q].kind = 2) (hr : r < l.length) (hrk : l[r].kind = 0) (hkid : l[q].kids = [(r : Int)]) {a : Option Addr} {k c : Nat} (mL : fL l a k c ∈ F)
    (h : R (.tuple #[S (91 :: 93 :: l[r].name), .int .i64 0]) L F) : ACalls Tryz.prog W0 51 #[.slice a k c, .int .i64 (q : Int)] L F R := by
  have hn := (hok _ (List.getElem_mem hr)).name
  refine ACalls.body Tryz.func51 rfl Tryz.ntmps51 rfl ?_
  refine AC.seq (AC.region (AL.go (AO.assign rfl rfl (AL.go (AO.assign rfl rfl (AL.nil (AK.seqN ?_)))))))
  refine AC.seq (AC.block (AC.seq (AC.region (AL.go (AO.move rfl rfl ?_)))))
  refine AL.go (AO.call rfl rfl (right_c g l hok memA (fun c10 => ?_) (fun c10 => absurd hright c10)))
  refine AL.go (AO.not rfl rfl (AL.go (AO.assign rfl rfl (AL.nil (AK.seqN (AC.condF rfl (AC.seq ?_)))))))
  refine AC.region (AL.go (AO.move rfl rfl ?_))
  refine AL.go (AO.lss rfl rfl rfl (fun c14 => absurd c14 (by omega)) (fun c14 => ?_))
  refine AL.go (AO.move rfl rfl (AL.yes rfl rfl (AO.move rfl rfl (AL.yes rfl rfl (AO.move rfl rfl ?_)))))
  refine AL.yes rfl rfl (AO.len rfl rfl (fun hl18 => ?_) (hm := by repeat (first | exact mem0 | assumption | refine memS ?_)))
  refine AL.yes rfl rfl (AO.geq rfl rfl rfl (fun c19 => absurd c19 (by omega)) (fun c19 => ?_))
  refine AL.go (AO.pickF rfl rfl rfl (AL.go (AO.assign rfl rfl (AL.nil (AK.seqN (AC.condF rfl (AC.skip ?_)))))))
  refine AK.blkN (AK.seqN (AC.seq (AC.region (AL.go (AO.move rfl rfl ?_)))))
  refine AL.go (AO.makeMap vI S rfl (fun b22 => ?_))
  refine AL.go (AO.build rfl rfl rfl ?_)
  refine AL.go (AO.box rfl rfl (fun b24 => ?_))
  refine AL.go (AO.assign rfl rfl (AL.nil (AK.seqN (AC.seq (AC.region (AL.go (AO.move rfl rfl ?_)))))))
  refine AL.go (AO.move rfl rfl ?_)
  refine AL.go (AO.call rfl rfl (textS_c l (fun _ => none) q r hq hk hr hrk hn hkid rfl rfl (i := 0) (j := 1) memA rfl rfl (by decide) ?_))
  refine AL.go (AO.assign rfl rfl (AL.nil (AK.seqN (AC.seq (AC.seq (AC.region ?_))))))
  refine AL.go (AO.move rfl rfl (AL.go (AO.lenS rfl rfl ?_)))
  refine AL.go (AO.gtr rfl rfl rfl (fun c30 => absurd c30 (by simp only [List.length_cons]; omega)) (fun c30 => ?_))
  refine AL.nil (AK.seqN (AC.condF rfl (AC.skip (AK.seqN (AC.seq ?_)))))
  refine AC.region (AL.go (AO.move rfl rfl (AL.go (AO.assign rfl rfl (AL.go (AO.assign rfl rfl (AL.nil (AK.seqN ?_))))))))
  refine AC.ret ?_
  exact AK.ret2 (L' := L) (F' := F) Tryz.results51 rfl rfl subA h
theorem add2_c (g : Glob W0) (l : List Ty) (hok : ∀ t ∈ l, TyOk t) (t : Ty) (ht : TyOk t) {a a1 a2 : Option Addr} {k c k1 c1 k2 c2 : Nat} (m : fL l a k c ∈ F) (m1 : fW t a1 k1 c1 ∈ F) (m2 : fK t a2 k2 c2 ∈ F)
    (h1 : ¬ rightP l → R (.tuple #[.slice none 0 0, .int .i64 0, .int .i64 1]) L (fL [] none 0 0 :: F))
    (h2 : rightP l → ∀ l' i e a k c, AddP l t l' i e → R (.tuple #[.slice a k c, .int .i64 i, .int .i64 e]) L (fL l' a k c :: F)) :
    ACalls Tryz.prog W0 52 #[.slice a k c, vTy t a1 k1 c1 a2 k2 c2] L F R := by
  refine ACalls.weak (Sub.nilF (sz := 5)) ?_
  refine ACalls.post (R1 := fun v L1 F1 => L1 = L ∧ ((¬ rightP l ∧ v = .tuple #[.slice none 0 0, .int .i64 0, .int .i64 1] ∧ F1 = fL [] none 0 0 :: F) ∨ (rightP l ∧ ∃ l' i e a k c, AddP l t l' i e ∧ v = .tuple #[.slice a k c, .int .i64 i, .int .i64 e] ∧ (∀ f ∈ F, f ∈ F1) ∧ fL l' a k c ∈ F1)))
    (add_c g l hok t ht (List.mem_cons_of_mem _ m) (List.mem_cons_of_mem _ m1) (List.mem_cons_of_mem _ m2)
      (fun n => ⟨rfl, Or.inl ⟨n, rfl, rfl⟩⟩)
      (fun n q hq e => ⟨rfl, Or.inr ⟨n, l, q, 0, a, k, c, Or.inl ⟨q, hq, e, rfl, rfl, rfl⟩, rfl, fun f hf => List.mem_cons_of_mem _ hf, List.mem_cons_of_mem _ m⟩⟩)
      (fun n no nm => ⟨rfl, Or.inr ⟨n, [], 0, 1, none, 0, 0, Or.inr ⟨no, Or.inl ⟨nm, rfl, rfl, rfl⟩⟩, rfl, fun f hf => List.mem_cons_of_mem _ hf, List.mem_cons_self⟩⟩)
      (fun n no nm hl => ⟨rfl, Or.inr ⟨n, [], 0, 7, none, 0, 0, Or.inr ⟨no, Or.inr (Or.inl ⟨nm, hl, rfl, rfl, rfl⟩)⟩, rfl, fun f hf => List.mem_cons_of_mem _ hf, List.mem_cons_self⟩⟩)
      (fun n no nm hl a' k' c' => ⟨rfl, Or.inr ⟨n, l ++ [t], l.length, 0, a', k', c', Or.inr ⟨no, Or.inr (Or.inr ⟨nm, by omega, rfl, rfl, rfl⟩)⟩, rfl, fun f hf => List.mem_cons_of_mem _ (List.mem_cons_of_mem _ hf), List.mem_cons_self⟩⟩)) ?_
  rintro v L1 F1 ⟨rfl, ⟨n, rfl, rfl⟩ | ⟨n, l', i, e, a', k', c', hp, rfl, hf, hm⟩⟩
  · exact ⟨_, _, Sub.refl _ _, h1 n⟩
  · exact ⟨_, _, Sub.facts (mem1 hm hf), h2 n l' i e a' k' c' hp⟩
end
end Go.Sy
namespace Go.Sy
open Go Go.Proofs
theorem start_plain : ∀ t ∈ startL, t.kids = [] ∧ t.words = [] ∧ t.kind ≠ 9 ∧ (t.kind = 7 → t.name = []) := by decide
structure RtOk (q : Nat) (t : Ty) : Prop where
  kids : ∀ k ∈ t.kids, 0 ≤ k ∧ k < q
  few : t.kids.length ≤ 16
  param : t.kind = 9 → 0 ≤ t.n ∧ t.n < 16 ∧ t.kids = []
  bare : t.kind = 7 → t.name = []
  iface : t.kind = 7 → t.words.length = t.kids.length
theorem rt_of_right {l : List Ty} (h : rightP l) {q : Nat} (hq : q < l.length) : RtOk q l[q] := by
  have hr := h.2.2 q hq
  unfold rowAt at hr
  by_cases c : q < 22
  · rw [if_pos c] at hr
    have hql : q < startL.length := by rw [start_len]; exact c
    rw [start_get hql] at hr
    obtain ⟨h1, h2, h3, h4⟩ := start_plain _ (List.getElem_mem hql)
    rw [hr]
    generalize startL[q] = t at h1 h2 h3 h4
    exact ⟨by rw [h1]; simp, by rw [h1]; simp, fun e => absurd e h3, h4, fun _ => by rw [h1, h2]; rfl⟩
  · rw [if_neg c] at hr
    obtain ⟨⟨hkids, hlen, hname, _, hK⟩, _⟩ := hr
    have htl : (l.take q).length = q := by rw [List.length_take]; omega
    rw [kidsP, htl] at hkids
    generalize l[q] = t at hkids hlen hname hK
    refine ⟨hkids, hlen, fun e => ?_, fun e => hname (by omega), fun e => ((madeK_7 e).1 hK).1⟩
    have := (madeK_9 e).1 hK
    exact ⟨this.1, this.2.1, List.eq_nil_of_length_eq_zero this.2.2⟩
def askK (A : List Int) (m : Int) (ks : List Int) : Int := ks.foldl (fun m k => max m (A.getD k.toNat 0)) m
def ask0 (t : Ty) : Int := if t.kind = 9 then t.n + 1 else 0
def ask1 (A : List Int) (t : Ty) : Int := askK A (ask0 t) t.kids
def asksL (l : List Ty) : List Int := l.foldl (fun A t => A ++ [ask1 A t]) []
theorem asks_step {l : List Ty} {q : Nat} (hq : q < l.length) : asksL (l.take (q + 1)) = asksL (l.take q) ++ [ask1 (asksL (l.take q)) l[q]] := by
  rw [List.take_succ_eq_append_getElem hq, asksL, List.foldl_append]; rfl
theorem asks_len (l : List Ty) : ∀ q, q ≤ l.length → (asksL (l.take q)).length = q
  | 0, _ => by simp [asksL]
  | q + 1, h => by rw [asks_step (by omega), List.length_append, asks_len l q (by omega)]; rfl
theorem askK_snoc (A : List Int) (m : Int) (ks : List Int) {v : Nat} (hv : v < ks.length) : askK A m (ks.take (v + 1)) = max (askK A m (ks.take v)) (A.getD ks[v].toNat 0) := by
  rw [List.take_succ_eq_append_getElem hv, askK, List.foldl_append]; rfl
theorem askK_ge (A : List Int) : ∀ (ks : List Int) (m : Int), m ≤ askK A m ks ∧ ∀ k ∈ ks, A.getD k.toNat 0 ≤ askK A m ks
  | [], m => ⟨Int.le_refl _, by simp⟩
  | k :: ks, m => by
    obtain ⟨h1, h2⟩ := askK_ge A ks (max m (A.getD k.toNat 0))
    have e : askK A m (k :: ks) = askK A (max m (A.getD k.toNat 0)) ks := rfl
    rw [e]
    refine ⟨by omega, fun x hx => ?_⟩
    rcases List.mem_cons.1 hx with rfl | hx
    · omega
    · exact h2 x hx
theorem getD_app {α : Type} (a b : List α) {k : Nat} (z : α) (hk : k < a.length) : (a ++ b).getD k z = a.getD k z := by
  rw [List.getD_eq_getElem?_getD, List.getElem?_append_left hk, List.getD_eq_getElem?_getD]
theorem asks_pre (l : List Ty) : ∀ (d q k : Nat), q + d ≤ l.length → k < q → (asksL (l.take (q + d))).getD k 0 = (asksL (l.take q)).getD k 0
  | 0, _, _, _, _ => rfl
  | d + 1, q, k, h, hk => by
    have e : q + (d + 1) = q + d + 1 := by omega
    rw [e, asks_step (by omega), getD_app _ _ _ (by rw [asks_len l _ (by omega)]; omega)]
    exact asks_pre l d q k (by omega) hk
theorem asks_at {l : List Ty} {i n : Nat} (hi : i < l.length) (hn : n ≤ i) : (asksL (l.take (i + 1))).getD n 0 = ask1 (asksL (l.take n)) (l[n]'(by omega)) := by
  have e : i + 1 = n + 1 + (i - n) := by omega
  rw [e, asks_pre l (i - n) (n + 1) n (by omega) (by omega), asks_step (by omega), List.getD_eq_getElem?_getD, List.getElem?_append_right (by rw [asks_len l n (by omega)]; omega), asks_len l n (by omega)]
  simp
theorem asks_kid {l : List Ty} (hr : rightP l) {i n : Nat} (hi : i < l.length) (hn : n ≤ i) {k : Int} (hk : k ∈ (l[n]'(by omega)).kids) : (asksL (l.take (i + 1))).getD k.toNat 0 ≤ (asksL (l.take (i + 1))).getD n 0 := by
  have hb := (rt_of_right hr (show n < l.length by omega)).kids k hk
  have e : i + 1 = n + (i + 1 - n) := by omega
  rw [asks_at hi hn]
  rw [e, asks_pre l (i + 1 - n) n k.toNat (by omega) (by omega)]
  exact (askK_ge _ _ _).2 k hk
theorem asks_nonneg {l : List Ty} (hr : rightP l) {i n : Nat} (hi : i < l.length) (hn : n ≤ i) : 0 ≤ (asksL (l.take (i + 1))).getD n 0 := by
  rw [asks_at hi hn]
  have h1 := (askK_ge (asksL (l.take n)) (l[n]'(by omega)).kids (ask0 (l[n]'(by omega)))).1
  have h0 : 0 ≤ ask0 (l[n]'(by omega)) := by
    unfold ask0
    split
    · have := ((rt_of_right hr (show n < l.length by omega)).param ‹_›).1; omega
    · omega
  exact Int.le_trans h0 h1
def markK (M : List Bool) (ks : List Int) : List Bool := ks.foldl (fun M k => M.set k.toNat true) M
def partStep (l : List Ty) (M : List Bool) (n : Nat) : List Bool := if M.getD n false = true then markK M (rowK l n) else M
where rowK (l : List Ty) (n : Nat) : List Int := (l.getD n (basicT [])).kids
def partsN (l : List Ty) (i : Nat) : Nat → List Bool
  | 0 => (List.replicate (i + 1) false).set i true
  | j + 1 => partStep l (partsN l i j) (i - j)
def partsL (l : List Ty) (i : Nat) : List Bool := partsN l i (i + 1)
theorem markK_len : ∀ (ks : List Int) (M : List Bool), (markK M ks).length = M.length
  | [], _ => rfl
  | k :: ks, M => by show (markK (M.set k.toNat true) ks).length = _; rw [markK_len ks]; simp
theorem markK_snoc (M : List Bool) (ks : List Int) {v : Nat} (hv : v < ks.length) : markK M (ks.take (v + 1)) = (markK M (ks.take v)).set ks[v].toNat true := by
  rw [List.take_succ_eq_append_getElem hv, markK, List.foldl_append]; rfl
theorem set_getD (M : List Bool) (a n : Nat) : (M.set a true).getD n false = (if a = n ∧ a < M.length then true else M.getD n false) := by
  simp only [List.getD_eq_getElem?_getD, List.getElem?_set]
  by_cases h1 : a = n
  · subst h1
    by_cases h2 : a < M.length
    · simp [h2]
    · simp [h2]
  · simp [h1]
theorem markK_get : ∀ (ks : List Int) (M : List Bool) (n : Nat), (∀ k ∈ ks, k.toNat < M.length) → ((markK M ks).getD n false = true ↔ M.getD n false = true ∨ ∃ k ∈ ks, k.toNat = n)
  | [], M, n, _ => by simp [markK]
  | k :: ks, M, n, h => by
    show (markK (M.set k.toNat true) ks).getD n false = true ↔ _
    have hk := h k (.head _)
    rw [markK_get ks _ n (fun x hx => by rw [List.length_set]; exact h x (.tail _ hx)), set_getD]
    by_cases e : k.toNat = n
    · simp [e, e ▸ hk]
    · simp [e]
theorem partsN_len (l : List Ty) (i : Nat) : ∀ j, (partsN l i j).length = i + 1
  | 0 => by simp [partsN]
  | j + 1 => by
    rw [partsN, partStep]
    split
    · rw [markK_len, partsN_len l i j]
    · exact partsN_len l i j
section
variable {l : List Ty} (hr : rightP l) {i : Nat} (hi : i < l.length)
include hr hi
omit hr in
theorem row_kid {n : Nat} (hn : n ≤ i) : partStep.rowK l n = (l[n]'(by omega)).kids := by
  unfold partStep.rowK; simp [List.getD, List.getElem?_eq_getElem (show n < l.length by omega)]
theorem kid_low {n : Nat} (hn : n ≤ i) {k : Int} (hk : k ∈ partStep.rowK l n) : 0 ≤ k ∧ k < n := by
  rw [row_kid hi hn] at hk
  exact (rt_of_right hr (show n < l.length by omega)).kids k hk
theorem mkpart_get (j : Nat) (hj : j ≤ i) (n : Nat) : (partsN l i (j + 1)).getD n false = true ↔ (partsN l i j).getD n false = true ∨ ((partsN l i j).getD (i - j) false = true ∧ ∃ k ∈ partStep.rowK l (i - j), k.toNat = n) := by
  rw [partsN, partStep]
  split
  · rename_i c
    rw [markK_get _ _ _ (fun k hk => by have := kid_low hr hi (Nat.sub_le i j) hk; rw [partsN_len]; omega)]
    exact ⟨fun h => h.imp id (fun h => ⟨c, h⟩), fun h => h.imp id (fun h => h.2)⟩
  · rename_i c
    constructor
    · exact fun h => .inl h
    · rintro (h | ⟨h, _⟩)
      · exact h
      · exact absurd h c
theorem mkpart_stay (n : Nat) : ∀ d j, j + d ≤ i + 1 → i ≤ n + j → ((partsN l i (j + d)).getD n false = true ↔ (partsN l i j).getD n false = true)
  | 0, _, _, _ => Iff.rfl
  | d + 1, j, h, hn => by
    have e : j + (d + 1) = j + d + 1 := by omega
    rw [e, mkpart_get hr hi (j + d) (by omega)]
    have ih := mkpart_stay n d j (by omega) hn
    constructor
    · rintro (h1 | ⟨_, k, hk, e2⟩)
      · exact ih.1 h1
      · have := kid_low hr hi (Nat.sub_le i (j + d)) hk; omega
    · exact fun h1 => .inl (ih.2 h1)
theorem mkpart_mono (n : Nat) : ∀ d j, j + d ≤ i + 1 → (partsN l i j).getD n false = true → (partsN l i (j + d)).getD n false = true
  | 0, _, _, h => h
  | d + 1, j, hd, h => by
    have e : j + (d + 1) = j + d + 1 := by omega
    rw [e, mkpart_get hr hi (j + d) (by omega)]
    exact .inl (mkpart_mono n d j (by omega) h)
theorem parts_kid {n : Nat} (hn : n ≤ i) (hm : (partsL l i).getD n false = true) {k : Int} (hk : k ∈ (l[n]'(by omega)).kids) : (partsL l i).getD k.toNat false = true := by
  unfold partsL at hm ⊢
  have e : i + 1 = (i - n) + (n + 1) := by omega
  rw [e] at hm ⊢
  have h1 := (mkpart_stay hr hi n (n + 1) (i - n) (by omega) (by omega)).1 hm
  have e2 : (i - n) + (n + 1) = (i - n + 1) + n := by omega
  rw [e2]
  refine mkpart_mono hr hi _ n (i - n + 1) (by omega) ?_
  rw [mkpart_get hr hi (i - n) (by omega)]
  have e3 : i - (i - n) = n := by omega
  rw [e3]
  exact .inr ⟨h1, k, by rw [row_kid hi hn]; exact hk, rfl⟩
theorem parts_self : (partsL l i).getD i false = true := by
  unfold partsL
  have := mkpart_mono hr hi i (i + 1) 0 (by omega) (by rw [partsN, set_getD]; simp)
  simpa using this
theorem parts_ask {n : Nat} : ∀ j, j ≤ i + 1 → (partsN l i j).getD n false = true → n ≤ i ∧ (asksL (l.take (i + 1))).getD n 0 ≤ (asksL (l.take (i + 1))).getD i 0 := by
  intro j
  induction j generalizing n with
  | zero =>
    intro _ h
    rw [partsN, set_getD] at h
    split at h
    · rename_i c; obtain ⟨rfl, _⟩ := c; exact ⟨Nat.le_refl _, Int.le_refl _⟩
    · rcases Nat.lt_or_ge n (i + 1) with c | c
      · rw [List.getD_eq_getElem?_getD, List.getElem?_replicate] at h; simp [c] at h
      · rw [List.getD_eq_getElem?_getD, List.getElem?_eq_none (by simpa using c)] at h; simp at h
  | succ j ih =>
    intro hj h
    rw [mkpart_get hr hi j (by omega)] at h
    rcases h with h | ⟨h1, k, hk, e⟩
    · exact ih (by omega) h
    · have h2 := ih (by omega) h1
      have hb := kid_low hr hi (Nat.sub_le i j) hk
      rw [row_kid hi (Nat.sub_le i j)] at hk
      have h3 := asks_kid hr hi (Nat.sub_le i j) hk
      rw [e] at h3
      exact ⟨by omega, Int.le_trans h3 h2.2⟩
end
end Go.Sy
namespace Go.Sy
open Go Go.Proofs
instance (w : List UInt8) : Decidable (markP w) := by unfold markP; infer_instance
abbrev Tm := List UInt8 × Int
def zips (t : Ty) : List Tm := t.words.zip t.kids
theorem snocInd {α : Type} {P : List α → Prop} (h0 : P []) (hs : ∀ l x, P l → P (l ++ [x])) (l : List α) : P l := by
  have h : ∀ r : List α, P r.reverse := by
    intro r
    induction r with
    | nil => exact h0
    | cons x r ih => rw [List.reverse_cons]; exact hs _ _ ih
  have := h l.reverse
  rwa [List.reverse_reverse] at this
def markOf (zs : List Tm) (k : Int) : List UInt8 := zs.foldl (fun is z => if markP z.1 ∧ z.2 = k ∧ is ≠ [126] then z.1 else is) []
def termsR (m : Nat) (zs : List Tm) : List Tm := (List.range m).filterMap fun (p : Nat) => if markOf zs (p : Int) = [] then none else some (markOf zs (p : Int), (p : Int))
def declsR (zs : List Tm) : List Tm := zs.filter fun z => !decide (markP z.1)
def termsT (m : Nat) (t : Ty) : Ty := ⟨t.kind, [], t.n, (declsR (zips t) ++ termsR m (zips t)).map (·.1), (declsR (zips t) ++ termsR m (zips t)).map (·.2)⟩
def addTm (a : List Tm) (z : Tm) : List Tm := match a.findIdx? (·.2 == z.2) with
  | none => a ++ [z]
  | some k => if z.1 = [126] then a.set k z else a
def termsA (zs : List Tm) : List Tm := zs.foldl (fun a z => if markP z.1 then addTm a z else a) []
theorem markOf_snoc (zs : List Tm) (z : Tm) (k : Int) : markOf (zs ++ [z]) k = if markP z.1 ∧ z.2 = k ∧ markOf zs k ≠ [126] then z.1 else markOf zs k := by
  unfold markOf; rw [List.foldl_append]; rfl
theorem termsA_snoc (zs : List Tm) (z : Tm) : termsA (zs ++ [z]) = if markP z.1 then addTm (termsA zs) z else termsA zs := by
  unfold termsA; rw [List.foldl_append]; rfl
theorem markOf_is (zs : List Tm) (k : Int) : markOf zs k = [] ∨ markP (markOf zs k) := by
  refine snocInd (P := fun zs => markOf zs k = [] ∨ markP (markOf zs k)) ?_ ?_ zs
  · exact .inl rfl
  · intro zs z ih
    rw [markOf_snoc]
    split
    · exact .inr ‹_ ∧ _›.1
    · exact ih
theorem idx_none {a : List Tm} {k : Int} (h : a.findIdx? (·.2 == k) = none) : k ∉ a.map (·.2) := by
  intro hm
  obtain ⟨x, hx, e⟩ := List.mem_map.1 hm
  have := List.findIdx?_eq_none_iff.1 h x hx
  simp [e] at this
theorem idx_some {a : List Tm} {k : Int} {j : Nat} (h : a.findIdx? (·.2 == k) = some j) : ∃ hj : j < a.length, a[j].2 = k := by
  obtain ⟨hj, h1, _⟩ := List.findIdx?_eq_some_iff_getElem.1 h
  exact ⟨hj, by simpa using h1⟩
theorem addTm_kids (a : List Tm) (z : Tm) : (addTm a z).map (·.2) = if z.2 ∈ a.map (·.2) then a.map (·.2) else a.map (·.2) ++ [z.2] := by
  unfold addTm
  cases h : a.findIdx? (·.2 == z.2) with
  | none => rw [if_neg (idx_none h)]; simp
  | some j =>
    obtain ⟨hj, e⟩ := idx_some h
    rw [if_pos (List.mem_map.2 ⟨_, List.getElem_mem hj, e⟩)]
    simp only
    split
    · rw [List.map_set]
      have : z.2 = (a.map (·.2))[j]'(by simpa using hj) := by simp [e]
      rw [this]; exact List.set_getElem_self _
    · rfl
theorem termsA_is (zs : List Tm) : ((termsA zs).map (·.2)).Nodup ∧ ∀ x : Tm, x ∈ termsA zs ↔ x.1 = markOf zs x.2 ∧ x.1 ≠ [] := by
  refine snocInd (P := fun zs => ((termsA zs).map (·.2)).Nodup ∧ ∀ x : Tm, x ∈ termsA zs ↔ x.1 = markOf zs x.2 ∧ x.1 ≠ []) ?_ ?_ zs
  · exact ⟨by simp [termsA], fun x => by simp [termsA, markOf]⟩
  · intro zs z ih
    obtain ⟨hn, hm⟩ := ih
    rw [termsA_snoc]
    by_cases c : markP z.1
    · rw [if_pos c]
      have hz0 : z.1 ≠ [] := by rcases c with e | e <;> rw [e] <;> simp
      have hmem : z.2 ∈ (termsA zs).map (·.2) ↔ markOf zs z.2 ≠ [] := by
        constructor
        · intro h
          obtain ⟨x, hx, e⟩ := List.mem_map.1 h
          have := (hm x).1 hx
          rw [← e, ← this.1]; exact this.2
        · exact fun h => List.mem_map.2 ⟨(markOf zs z.2, z.2), (hm _).2 ⟨rfl, h⟩, rfl⟩
      constructor
      · rw [addTm_kids]
        split
        · exact hn
        · rename_i h
          exact List.nodup_append.2 ⟨hn, by simp, fun a ha b hb => by
            have : b = z.2 := by simpa using hb
            subst this; intro e; subst e; exact h ha⟩
      · intro x
        rw [markOf_snoc]
        unfold addTm
        cases h : (termsA zs).findIdx? (·.2 == z.2) with
        | none =>
          have hno := idx_none h
          have h0 : markOf zs z.2 = [] := by
            rcases Classical.em (markOf zs z.2 = []) with k | k
            · exact k
            · exact absurd (hmem.2 k) hno
          simp only [List.mem_append, List.mem_singleton]
          constructor
          · rintro (hx | rfl)
            · have := (hm x).1 hx
              have hne : z.2 ≠ x.2 := fun e => hno (e ▸ List.mem_map.2 ⟨x, hx, rfl⟩)
              rw [if_neg (fun k => hne k.2.1)]; exact this
            · rw [if_pos ⟨c, rfl, by rw [h0]; simp⟩]; exact ⟨rfl, hz0⟩
          · rintro ⟨h1, h2⟩
            by_cases e : z.2 = x.2
            · rw [if_pos ⟨c, e, by rw [← e, h0]; simp⟩] at h1
              exact .inr (Prod.ext h1 e.symm)
            · rw [if_neg (fun k => e k.2.1)] at h1
              exact .inl ((hm x).2 ⟨h1, h2⟩)
        | some j =>
          obtain ⟨hj, ej⟩ := idx_some h
          have hjm := (hm _).1 (List.getElem_mem hj)
          simp only
          have huniq : ∀ y ∈ termsA zs, y.2 = z.2 → y = (termsA zs)[j] := by
            intro y hy e
            have := (hm y).1 hy
            refine Prod.ext ?_ (e.trans ej.symm)
            rw [this.1, hjm.1, e, ej]
          by_cases ct : z.1 = [126]
          · rw [if_pos ct]
            have hset : ∀ y : Tm, y ∈ (termsA zs).set j z ↔ y = z ∨ (y ∈ termsA zs ∧ y.2 ≠ z.2) := by
              intro y
              rw [List.mem_iff_getElem?]
              constructor
              · rintro ⟨q, hq⟩
                by_cases e : j = q
                · subst e; rw [List.getElem?_set_self hj] at hq; exact .inl (Option.some.inj hq).symm
                · rw [List.getElem?_set_ne e] at hq
                  have hyq := List.mem_of_getElem? hq
                  refine .inr ⟨hyq, fun e2 => e ?_⟩
                  have hql : q < (termsA zs).length := by
                    rcases Nat.lt_or_ge q (termsA zs).length with k | k
                    · exact k
                    · simp [List.getElem?_eq_none k] at hq
                  have e3 : (termsA zs)[q] = y := by rw [List.getElem?_eq_getElem hql] at hq; exact Option.some.inj hq
                  have e4 : ((termsA zs).map (·.2))[j]'(by simpa using hj) = ((termsA zs).map (·.2))[q]'(by simpa using hql) := by
                    simp only [List.getElem_map]; rw [e3, e2, ej]
                  exact (List.getElem_inj (h₀ := by simpa using hj) (h₁ := by simpa using hql) hn).1 e4
              · rintro (rfl | ⟨hy, hne⟩)
                · exact ⟨j, List.getElem?_set_self hj⟩
                · obtain ⟨q, hq, rfl⟩ := List.getElem_of_mem hy
                  refine ⟨q, ?_⟩
                  rw [List.getElem?_set_ne (fun e => hne (by subst e; exact ej)), List.getElem?_eq_getElem hq]
            rw [hset]
            constructor
            · rintro (rfl | ⟨hx, hne⟩)
              · refine ⟨?_, hz0⟩
                by_cases e : markOf zs x.2 = [126]
                · rw [if_neg (fun k => k.2.2 e), e]; exact ct
                · rw [if_pos ⟨c, rfl, e⟩]
              · rw [if_neg (fun k => hne k.2.1.symm)]; exact (hm x).1 hx
            · rintro ⟨h1, h2⟩
              by_cases e : z.2 = x.2
              · left
                refine Prod.ext ?_ e.symm
                by_cases e2 : markOf zs x.2 = [126]
                · rw [if_neg (fun k => k.2.2 e2), e2] at h1; rw [h1, ct]
                · rw [if_pos ⟨c, e, e2⟩] at h1; exact h1
              · rw [if_neg (fun k => e k.2.1)] at h1
                exact .inr ⟨(hm x).2 ⟨h1, h2⟩, fun k => e k.symm⟩
          · rw [if_neg ct]
            have hz61 : z.1 = [61] := c.resolve_right ct
            constructor
            · intro hx
              have := (hm x).1 hx
              by_cases e : z.2 = x.2
              · by_cases e2 : markOf zs x.2 = [126]
                · rw [if_neg (fun k => k.2.2 e2)]; exact this
                · rw [if_pos ⟨c, e, e2⟩]
                  have h5 : markP (markOf zs x.2) := (markOf_is zs x.2).resolve_left (by rw [← this.1]; exact this.2)
                  exact ⟨by rw [this.1, hz61]; exact h5.resolve_right e2, this.2⟩
              · rw [if_neg (fun k => e k.2.1)]; exact this
            · rintro ⟨h1, h2⟩
              by_cases e : z.2 = x.2
              · have h5 : markP (markOf zs z.2) := (markOf_is zs z.2).resolve_left (by rw [← ej, ← hjm.1]; exact hjm.2)
                by_cases e2 : markOf zs x.2 = [126]
                · rw [if_neg (fun k => k.2.2 e2)] at h1; exact (hm x).2 ⟨h1, h2⟩
                · rw [if_pos ⟨c, e, e2⟩] at h1
                  refine (hm x).2 ⟨?_, h2⟩
                  rw [h1, hz61, ← e]; rw [← e] at e2; exact (h5.resolve_right e2).symm
              · rw [if_neg (fun k => e k.2.1)] at h1
                exact (hm x).2 ⟨h1, h2⟩
    · rw [if_neg c]
      refine ⟨hn, fun x => ?_⟩
      rw [markOf_snoc, if_neg (fun k => c k.1)]
      exact hm x
theorem termsR_mem (m : Nat) (zs : List Tm) (x : Tm) : x ∈ termsR m zs ↔ x.1 = markOf zs x.2 ∧ x.1 ≠ [] ∧ 0 ≤ x.2 ∧ x.2 < m := by
  unfold termsR
  rw [List.mem_filterMap]
  constructor
  · rintro ⟨p, hp, e⟩
    have hpm := List.mem_range.1 hp
    split at e
    · cases e
    · injection e with e; subst e
      exact ⟨rfl, ‹_›, by simp only; omega, by simp only; omega⟩
  · rintro ⟨h1, h2, h3, h4⟩
    refine ⟨x.2.toNat, List.mem_range.2 (by omega), ?_⟩
    have e : ((x.2.toNat : Nat) : Int) = x.2 := by omega
    rw [e, if_neg (by rw [← h1]; exact h2), ← h1]
theorem termsR_sorted (m : Nat) (zs : List Tm) : (termsR m zs).Pairwise fun x y => x.2 < y.2 := by
  unfold termsR
  refine List.Pairwise.filterMap (R := fun (a b : Nat) => a < b) _ ?_ List.pairwise_lt_range
  intro a b hab x hx y hy
  split at hx
  · cases hx
  · split at hy
    · cases hy
    · injection hx with hx; injection hy with hy; subst hx hy; simp only; omega
theorem markOf_kid (zs : List Tm) (k : Int) (h : markOf zs k ≠ []) : ∃ z ∈ zs, markP z.1 ∧ z.2 = k := by
  revert h
  refine snocInd (P := fun zs => markOf zs k ≠ [] → ∃ z ∈ zs, markP z.1 ∧ z.2 = k) (fun h => absurd rfl h) ?_ zs
  intro zs z ih h
  rw [markOf_snoc] at h
  split at h
  · rename_i c; exact ⟨z, by simp, c.1, c.2.1⟩
  · obtain ⟨y, hy, h2⟩ := ih h
    exact ⟨y, List.mem_append_left _ hy, h2⟩
theorem terms_sort {m : Nat} {zs : List Tm} (hz : ∀ z ∈ zs, markP z.1 → 0 ≤ z.2 ∧ z.2 < m) {lst : List Tm} (hp : lst.Perm (termsA zs)) (hs : lst.Pairwise fun x y => x.2 ≤ y.2) : lst = termsR m zs := by
  obtain ⟨hn, hm⟩ := termsA_is zs
  have hnd : (termsA zs).Nodup := by
    have h1 : (termsA zs).Pairwise fun a b => a.2 ≠ b.2 := List.pairwise_map.1 hn
    exact h1.imp fun h e => h (by rw [e])
  have hnr : (termsR m zs).Nodup := (termsR_sorted m zs).imp fun h e => by rw [e] at h; omega
  have hperm : lst.Perm (termsR m zs) := hp.trans ((List.perm_ext_iff_of_nodup hnd hnr).2 fun x => by
    rw [hm, termsR_mem]
    constructor
    · rintro ⟨h1, h2⟩
      obtain ⟨z, hz1, hz2, hz3⟩ := markOf_kid zs x.2 (by rw [← h1]; exact h2)
      have := hz z hz1 hz2
      exact ⟨h1, h2, by omega, by omega⟩
    · exact fun h => ⟨h.1, h.2.1⟩)
  refine List.Perm.eq_of_pairwise (le := fun x y => x.2 ≤ y.2) ?_ hs ((termsR_sorted m zs).imp fun h => by omega) hperm
  intro a b ha hb h1 h2
  have ha2 := (termsR_mem m zs a).1 (hperm.mem_iff.1 ha)
  have hb2 := (termsR_mem m zs b).1 hb
  have e : a.2 = b.2 := by omega
  exact Prod.ext (by rw [ha2.1, hb2.1, e]) e
def oddP (l : List Ty) (t : Ty) : Prop := ∃ z ∈ zips t, markP z.1 ∧ (kindAt l z.2 = 7 ∨ kindAt l z.2 = 9 ∨ (14 ≤ z.2 ∧ z.2 ≤ 19))
open Classical in
noncomputable def addF (l : List Ty) (t : Ty) : List Ty × Int × Int := if h : ∃ p : List Ty × Int × Int, AddP l t p.1 p.2.1 p.2.2 then h.choose else ([], 0, 0)
theorem addF_is {l : List Ty} {t : Ty} {m : List Ty} {i e : Int} (hr : rightP l) (h : AddP l t m i e) : addF l t = (m, i, e) := by
  have hx : ∃ p : List Ty × Int × Int, AddP l t p.1 p.2.1 p.2.2 := ⟨(m, i, e), h⟩
  unfold addF
  rw [dif_pos hx]
  obtain ⟨h1, h2, h3⟩ := addP_one hr hx.choose_spec h
  exact Prod.ext h1 (Prod.ext h2 h3)
def mapK (ins : List Int) (t : Ty) : Ty := ⟨t.kind, t.name, t.n, t.words, t.kids.map fun k => ins.getD k.toNat 0⟩
open Classical in
noncomputable def putS (out : List Ty) (ins : List Int) (t : Ty) : Except Int (List Ty × List Int) :=
  if t.kind = 7 ∧ oddP out t then .error 11
  else if (addF out (if t.kind = 7 then termsT out.length t else t)).2.2 = 0 then .ok ((addF out (if t.kind = 7 then termsT out.length t else t)).1, ins ++ [(addF out (if t.kind = 7 then termsT out.length t else t)).2.1])
  else .error (addF out (if t.kind = 7 then termsT out.length t else t)).2.2
noncomputable def stepS (l : List Ty) (args A : List Int) (M : List Bool) (n : Nat) (out : List Ty) (ins : List Int) : Except Int (List Ty × List Int) :=
  if M.getD n false = false ∨ A.getD n 0 = 0 then .ok (out, ins ++ [(n : Int)])
  else if (l.getD n (basicT [])).kind = 9 then .ok (out, ins ++ [args.getD (l.getD n (basicT [])).n.toNat 0])
  else putS out ins (mapK ins (l.getD n (basicT [])))
noncomputable def subN (l : List Ty) (args A : List Int) (M : List Bool) : Nat → Except Int (List Ty × List Int)
  | 0 => .ok (l, [])
  | n + 1 => match subN l args A M n with
    | .error e => .error e
    | .ok (out, ins) => stepS l args A M n out ins
def badArgs (l : List Ty) (i : Nat) (args : List Int) : Prop := (args.length : Int) < (asksL (l.take (i + 1))).getD i 0 ∨ ∃ a ∈ args, ¬(0 ≤ a ∧ a < l.length)
open Classical in
noncomputable def subR (l : List Ty) (i : Nat) (args : List Int) : Except Int (List Ty × Int) :=
  if badArgs l i args then .error 1 else match subN l args (asksL (l.take (i + 1))) (partsL l i) (i + 1) with
    | .error e => .error e
    | .ok (out, ins) => .ok (out, ins.getD i 0)
theorem subN_error {l : List Ty} {args A : List Int} {M : List Bool} {n : Nat} {e : Int} (h : subN l args A M n = .error e) : ∀ d, subN l args A M (n + d) = .error e
  | 0 => h
  | d + 1 => by rw [← Nat.add_assoc, subN, subN_error h d]
structure SubOk (l : List Ty) (n : Nat) (out : List Ty) (ins : List Int) : Prop where
  right : rightP out
  pre : l <+: out
  len : ins.length = n
  ins : ∀ p : Nat, p < n → 0 ≤ ins.getD p 0 ∧ ins.getD p 0 < out.length
theorem mapK_kids {ins : List Int} {out : List Ty} {n : Nat} (h : ∀ p : Nat, p < n → 0 ≤ ins.getD p 0 ∧ ins.getD p 0 < out.length) {t : Ty} (ht : ∀ k ∈ t.kids, 0 ≤ k ∧ k < n) : ∀ k ∈ (mapK ins t).kids, 0 ≤ k ∧ k < out.length := by
  intro k hk
  obtain ⟨x, hx, rfl⟩ := List.mem_map.1 hk
  have := ht x hx
  exact h x.toNat (by omega)
theorem SubOk.step {l : List Ty} {n : Nat} {out : List Ty} {ins : List Int} (h : SubOk l n out ins) {m : List Ty} {k : Int} (hm : rightP m) (hp : out <+: m) (hk : 0 ≤ k ∧ k < m.length) : SubOk l (n + 1) m (ins ++ [k]) := by
  refine ⟨hm, h.pre.trans hp, by rw [List.length_append, h.len]; rfl, fun p hpn => ?_⟩
  have hl := hp.length_le
  rcases Nat.lt_or_ge p n with c | c
  · rw [getD_app _ _ _ (by rw [h.len]; exact c)]
    have := h.ins p c
    omega
  · have e : p = ins.length := by have := h.len; omega
    subst e
    simpa [List.getD_eq_getElem?_getD] using hk
theorem add_pre {l : List Ty} {t : Ty} {m : List Ty} {i e : Int} (hr : rightP l) (h : AddP l t m i e) (he : e = 0) : rightP m ∧ l <+: m ∧ 0 ≤ i ∧ i < m.length := by
  rcases h with ⟨q, hq, h1, h2, h3, h4⟩ | ⟨n, ⟨_, h2, _, h4⟩ | ⟨_, _, h2, _, h4⟩ | ⟨hm, hl, h2, h3, h4⟩⟩
  · subst h2; exact ⟨hr, List.prefix_rfl, by omega, by omega⟩
  · omega
  · omega
  · subst h2
    have h400 := hr.2.1
    exact ⟨right_snoc hr n hm (by omega), List.prefix_append _ _, by omega, by rw [List.length_append]; simp only [List.length_cons, List.length_nil]; omega⟩
theorem declsR_snoc (zs : List Tm) (z : Tm) : declsR (zs ++ [z]) = if markP z.1 then declsR zs else declsR zs ++ [z] := by
  unfold declsR
  rw [List.filter_append]
  by_cases c : markP z.1
  · simp [c]
  · simp [c]
end Go.Sy
