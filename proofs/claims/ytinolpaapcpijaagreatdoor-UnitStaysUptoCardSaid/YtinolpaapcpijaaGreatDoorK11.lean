/- Joined of my own texts: FwP, Bld, Typ2, Typ3, Typ4, Typ5, Typ6, Typ7, TyA, TyB, TyC. -/
import Derived.Test.YtinolpaapcpijaaGreatDoorK10
import Derived.Lib.AppendStr
import Derived.Lib.UnsafeStr
import Derived.Lib.Builder
import Derived.Laws.Externs
namespace Go.Sy
open Go Go.RowKit Go.Lib
abbrev eB (c : UInt8) : List D := [.val (.int .u8 c.toNat)]
def bV (l : List UInt8) : List Value := l.map fun c => .int .u8 c.toNat
theorem bV_length (l : List UInt8) : (bV l).length = l.length := by simp [bV]
theorem bV_append (l m : List UInt8) : bV (l ++ m) = bV l ++ bV m := by simp [bV]
theorem strCells_S (s : List UInt8) : strCells ⟨s.toArray⟩ = bV s := by simp [strCells, bV]
section
variable {P : Program} {W0 : World} {L : List Res} {F : List Fact} {t u e : TypeId} {v : Value} {lst : List UInt8} {i : Nat}
theorem eB_row {l : List UInt8} {a : Nat} {r : List D} {j : Nat} {d : D} (ha : (l.map eB)[a]? = some r) (hj : r[j]? = some d) : j = 0 ∧ ∃ c, l[a]? = some c ∧ d = .val (.int .u8 c.toNat) := by
  rw [List.getElem?_map] at ha
  cases hc : l[a]? with
  | none => rw [hc] at ha; simp at ha
  | some c =>
    rw [hc] at ha
    simp only [Option.map_some, Option.some.injEq] at ha
    subst ha
    have hj0 : j = 0 := by
      have := (List.getElem?_eq_some_iff.1 hj).1
      simpa using this
    subst hj0
    simp at hj
    exact ⟨rfl, c, rfl, hj.symm⟩
theorem CR.val_eq {h : H} {x y : Value} (c : CR h x (.val y)) : x = y := by cases c; rfl
theorem own_bytes {w : World} {h : H} {m : Nat → Hl} (sx : SatX W0.heap.size L F w h m) (hi : L[i]? = some (Res.own v e 1 (lst.map eB))) : w.ownsRow W0.heap.size e 1 v lst.length (bV lst) ∧ (∀ k, m i k = none → some k ≠ v.ownBlock) := by
  have hl := has_lt hi
  obtain ⟨_, hp⟩ : ownP v e 1 (lst.map eB) h (m i) := sx.res i _ hi
  rcases hp with ⟨hv, hr, _⟩ | ⟨g, cap, cur, hv, hm, hcap, hmax, hcs, hx⟩
  · have hl0 : lst = [] := by simpa using hr
    subst hl0 hv
    exact ⟨⟨rfl, .inl ⟨rfl, rfl⟩⟩, fun k _ he => by simp [Value.ownBlock] at he⟩
  · have hll : (lst.map eB).length = lst.length := by simp
    rw [hll] at hv hcap
    have hbl := sx.own i g _ hl (by rw [hm]; exact one_self _ _)
    refine ⟨⟨by rw [bV_length]; omega, .inr ⟨g, cap, cur, hv, hbl.1, hbl.2.1, hcap, hmax, hcs, ?_⟩⟩, ?_⟩
    · apply List.ext_getElem?
      intro j
      rcases Nat.lt_or_ge j lst.length with q | q
      · rw [List.getElem?_take_of_lt (by omega)]
        obtain ⟨x, hx1, hx2⟩ := hx j (eB lst[j]) 0 _ (by simp [q]) rfl
        have := hx2.val_eq
        subst this
        simp only [Nat.mul_one, Nat.add_zero] at hx1
        simp [bV, q, hx1]
      · rw [List.getElem?_eq_none (by simp; omega), List.getElem?_eq_none (by rw [bV_length]; omega)]
    · intro k hk he
      subst hv
      simp [Value.ownBlock] at he
      subst he
      rw [hm, one_self] at hk
      simp at hk
theorem to_own {w : World} {h : H} {B : Nat} (ho : w.ownsRow B e 1 v lst.length (bV lst)) : ∃ m' : Hl, ownP v e 1 (lst.map eB) h m' ∧ ∀ b O, m' b = some O → v.ownBlock = some b ∧ B ≤ b ∧ w.heap[b]? = some O := by
  have hrow : ∀ (a : Nat) (r : List D), (lst.map eB)[a]? = some r → r.length = 1 := by
    intro a r hr; simp at hr; obtain ⟨x, _, rfl⟩ := hr; rfl
  rcases ho.2 with ⟨hv, hz⟩ | ⟨g, cap, cur, hv, hb, hg, hnc, hcm, hcs, ht⟩
  · have : lst = [] := List.eq_nil_of_length_eq_zero hz
    subst this
    exact ⟨fun _ => none, ⟨hrow, .inl ⟨hv, rfl, fun _ => rfl⟩⟩, fun b O h => by simp at h⟩
  · refine ⟨one g (.cells cur e (0, 0)), ⟨hrow, .inr ⟨g, cap, cur, by simpa using hv, rfl, by simpa using hnc, hcm, hcs, ?_⟩⟩, ?_⟩
    · intro a r j d ha hj
      obtain ⟨rfl, c, hc, rfl⟩ := eB_row ha hj
      have hal : a < lst.length := (List.getElem?_eq_some_iff.1 hc).1
      refine ⟨.int .u8 c.toNat, ?_, .val _⟩
      have h1 : (cur.toList.take (lst.length * 1))[a]? = some (.int .u8 c.toNat) := by rw [ht]; simp [bV, hc]
      rw [List.getElem?_take_of_lt (by omega)] at h1
      simpa using h1
    · intro b O hO
      obtain ⟨rfl, rfl⟩ := one_some hO
      exact ⟨by rw [hv]; rfl, hb, hg⟩
theorem appendS_where {w : World} {ti : TypeInfo} {ty : TypeId} (ht : P.underlying t = some (.slice e)) (hu : P.underlying u = some .string) (hti : P.info? e = some ti) (hz : ti.zero = some (.int .u8 0)) (hs1 : ti.size = 1) (hb1 : ti.bytes = 1)
    {base n : Nat} {xs : List Value} (hown : w.ownsRow base e 1 v n xs) {s : ByteArray} (h63 : n + s.size ≤ maxLen) (hbytes : n + s.size ≤ 140737488355328) {v' : Value} {w' : World}
    (hr : (Builtin.append_ #[t, u] ty #[v, .string s]).run P w = .ok v' w') {g : Nat} (hg : v'.ownBlock = some g) : v.ownBlock = some g ∨ w.heap.size ≤ g := by
  have hsmall : n + s.size ≤ 9223372036854775807 := by simp only [maxLen] at h63; omega
  rcases hown.2 with ⟨rfl, rfl⟩ | ⟨q, cap, cur, rfl, hbg, hq, hnc, hcm, hcs, htake⟩
  · obtain ⟨v2, w2, hr2, ho2, _, _⟩ := run_append_own_string (P := P) (w := w) w.heap.size t u ty e ti ht hu hti hz hs1 hb1 (.slice none 0 0) 0 [] (World.ownsRow_nil w _ e 1) s h63 hbytes (Nat.le_refl _)
    rw [hr] at hr2
    injection hr2 with e1 e2
    subst e1
    right
    rcases ho2.2 with ⟨rfl, _⟩ | ⟨q, _, _, rfl, hb, _⟩
    · simp [Value.ownBlock] at hg
    · simp [Value.ownBlock] at hg; omega
  · by_cases hroom : n + s.size ≤ cap
    · have hr2 := run_append_room_string (P := P) (w := w) t u ty e ti ht hu hti hs1 q n cap cur hq s hroom (by omega)
      rw [hr] at hr2
      injection hr2 with e1 e2
      subst e1
      left; simpa [Value.ownBlock] using hg
    · have holds : ∀ j x, xs[j]? = some x → w.cell? ((⟨q, 0, none⟩ : Addr).add j) = some x := hown.cells (g := q) rfl
      have hr2 := run_append_grow_string (P := P) (w := w) t u ty e ti (.int .u8 0) ht hu hti hz ⟨q, 0, none⟩ n cap xs (by rw [hs1]; exact hown.1) holds s (by omega) (by omega) (by rw [hb1]; exact growslice_fits (by omega) (by omega))
      rw [hr] at hr2
      injection hr2 with e1 e2
      subst e1
      right; simp [Value.ownBlock] at hg; omega
theorem appendS_own {w : World} {s : List UInt8} [ht : SlT P t e 1 1] [hu : StT P u] [hz : ZeT P e (.int .u8 0)] (sat : Sat W0 L F w) (hi : L[i]? = some (Res.own v e 1 (lst.map eB)))
    (h63 : lst.length + s.length ≤ maxLen) (hbytes : lst.length + s.length ≤ 140737488355328) (aty : TypeId) :
    ∃ v' w', (Builtin.append_ #[t, u] aty #[v, S s]).run P w = .ok v' w' ∧ Sat W0 (L.set i (Res.own v' e 1 ((lst ++ s).map eB))) F w' ∧ (v' = .slice none 0 0 ↔ v = .slice none 0 0 ∧ s = []) := by
  obtain ⟨hb, h, m, sx⟩ := sat
  have hl := has_lt hi
  obtain ⟨ti, z, hti, h1, h2, h3, h4⟩ := ht.info
  have hzz : z = .int .u8 0 := by
    have := hz.zero w
    simp [zeroValue, typeInfo, hti, h3] at this; exact this
  subst hzz
  obtain ⟨hown, hblk⟩ := own_bytes sx hi
  have hss : (⟨s.toArray⟩ : ByteArray).size = s.length := S_size s
  obtain ⟨v', w', hrun, hown', hg, hnil⟩ := run_append_own_string (P := P) (w := w) W0.heap.size t u aty e ti ht.und hu.und hti h3 h1 h2 v lst.length (bV lst) hown ⟨s.toArray⟩ (by rw [hss]; exact h63) (by rw [hss]; exact hbytes) hb.size
  have hw := fun g => appendS_where (P := P) (v := v) (ty := aty) (g := g) ht.und hu.und hti h3 h1 h2 hown (s := ⟨s.toArray⟩) (by rw [hss]; exact h63) (by rw [hss]; exact hbytes) hrun
  rw [hss] at hown' hnil
  rw [strCells_S, ← bV_append, show lst.length + s.length = (lst ++ s).length by simp] at hown'
  obtain ⟨m', hp', hm'⟩ := to_own (h := h) hown'
  have st : Step w w' (m i) := ⟨hg.os, hg.tape, hg.output, hg.size, fun k hk hmk => hg.block k hk (hblk k hmk)⟩
  refine ⟨v', w', hrun, ⟨Sat.below_of hb st (fun b O hm => (sx.own i b O hl hm).1), h, _, sx.upd hb.size hl st _ m' hp' ?_⟩, ?_⟩
  · intro b O hO
    obtain ⟨q1, q2, q3⟩ := hm' b O hO
    refine ⟨?_, q3⟩
    rcases hw b q1 with k | k
    · left; intro hn; exact hblk b hn k.symm
    · exact .inr k
  · rw [hnil]
    constructor
    · rintro ⟨a, b⟩; exact ⟨a, List.eq_nil_of_length_eq_zero b⟩
    · rintro ⟨a, b⟩; exact ⟨a, by rw [b]; rfl⟩
end
section
variable {P : Program} {W0 : World} {n : Nat} {K : Act → World → Prop} {Q : Po} {ρ : Rho} {L : List Res} {F : List Fact} {t u e : TypeId}
theorem AO.appendS {x y : Operand} {v : Value} {s lst : List UInt8} {i : Nat} {d : Tmp} {ty : TypeId} {pos : String} {af : Array Edge} {g : Option (Nat × Bool)} [ht : SlT P t e 1 1] [hu : StT P u] [hz : ZeT P e (.int .u8 0)] (hx : ev ρ x = some v) (hy : ev ρ y = some (S s)) (hd : Nat.blt d n = true)
    (hi : L[i]? = some (Res.own v e 1 (lst.map eB))) (h63 : lst.length + s.length ≤ maxLen) (hbytes : lst.length + s.length ≤ 140737488355328)
    (h : ∀ a k c, ((Value.slice a k c) = .slice none 0 0 ↔ v = .slice none 0 0 ∧ s = []) → AT W0 n K ((d, .slice a k c) :: ρ) (L.set i (Res.own (.slice a k c) e 1 ((lst ++ s).map eB))) F) : AO P W0 n K ⟨some d, .call ⟨.builtin .append, #[x, y], #[t, u]⟩, ty, pos, af, g⟩ Q ρ L F := by
  intro a w st
  obtain ⟨v', w', hrun, s', hn⟩ := appendS_own (P := P) (t := t) (u := u) st.sat hi h63 hbytes ty
  obtain ⟨a0, c0, rfl⟩ := s'.ownSl (i := i) (v := v') (e := e) (sz := 1) (rows := (lst ++ s).map eB) (by simp [has_lt hi])
  have hr : (execOp a.eval ⟨some d, .call ⟨.builtin .append, #[x, y], #[t, u]⟩, ty, pos, af, g⟩).run P w = .ok (.value (.slice a0 ((lst ++ s).map eB).length c0)) w' := by
    simp [execOp, resolve, invoke, builtin, ev_eval st.slots hx, ev_eval st.slots hy, hrun]
  refine ⟨not_defer hr (fun _ e => by cases e), ?_⟩
  simp only [hr, owR]
  exact h _ _ _ hn _ _ ⟨st.slots.put (Nat.le_of_ble_eq_true hd) _, s'⟩
theorem ACalls.ownForm {f : FuncId} {args : Array Value} {R : Value → List Res → List Fact → Prop} {v : Value} {lst : List UInt8} {j : Nat} (hj : L[j]? = some (Res.own v e 1 (lst.map eB))) (hne : lst ≠ [])
    (h : ∀ g c, v = .slice (some ⟨g, 0, none⟩) lst.length c → c ≠ 0 → ACalls P W0 f args L F R) : ACalls P W0 f args L F R := by
  intro w s
  have s0 := s
  obtain ⟨_, hh, m, sx⟩ := s
  obtain ⟨_, hp⟩ : ownP v e 1 (lst.map eB) hh (m j) := sx.res j _ hj
  rcases hp with ⟨_, hr, _⟩ | ⟨g, cap, cur, hv, _, hcap, _⟩
  · exact absurd (by simpa using hr) hne
  · rw [List.length_map] at hv hcap
    have : 0 < lst.length := List.length_pos_iff.2 hne
    exact h g cap hv (by omega) w s0
theorem AO.sliceData0 {x : Operand} {k c : Nat} {d : Tmp} {ty : TypeId} {pos : String} {af : Array Edge} {g : Option (Nat × Bool)} (hx : ev ρ x = some (.slice none k c)) (hd : Nat.blt d n = true) (h : AT W0 n K ((d, .pointer none) :: ρ) L F) :
    AO P W0 n K ⟨some d, .call ⟨.builtin .unsafeSliceData, #[x], #[t]⟩, ty, pos, af, g⟩ Q ρ L F :=
  AO.val hd (fun a w st => by
    have := Lib.run_unsafeSliceData_nil (P := P) (w := w) #[t] ty k c
    simp [execOp, resolve, invoke, builtin, ev_eval st.slots hx, this]) h
theorem AO.sliceData1 {x : Operand} {a : Addr} {k c : Nat} {d : Tmp} {ty : TypeId} {pos : String} {af : Array Edge} {g : Option (Nat × Bool)} (hx : ev ρ x = some (.slice (some a) k c)) (hc : c ≠ 0) (hd : Nat.blt d n = true) (h : AT W0 n K ((d, .pointer (some a)) :: ρ) L F) :
    AO P W0 n K ⟨some d, .call ⟨.builtin .unsafeSliceData, #[x], #[t]⟩, ty, pos, af, g⟩ Q ρ L F :=
  AO.val hd (fun a' w st => by
    have := Lib.run_unsafeSliceData_row (P := P) (w := w) #[t] ty a k c hc
    simp [execOp, resolve, invoke, builtin, ev_eval st.slots hx, this]) h
theorem AO.unsafeStr0 {x y : Operand} {d : Tmp} {ty : TypeId} {pos : String} {af : Array Edge} {g : Option (Nat × Bool)} (hx : ev ρ x = some (.pointer none)) (hy : ev ρ y = some (.int .i64 0)) (hd : Nat.blt d n = true) (h : AT W0 n K ((d, S []) :: ρ) L F) :
    AO P W0 n K ⟨some d, .call ⟨.builtin .unsafeString, #[x, y], #[t, u]⟩, ty, pos, af, g⟩ Q ρ L F :=
  AO.val hd (fun a w st => by
    have := Lib.run_unsafeString_none (P := P) (w := w) t u ty none
    have e0 : (Value.string .empty) = S [] := rfl
    rw [e0] at this
    simp [execOp, resolve, invoke, builtin, ev_eval st.slots hx, ev_eval st.slots hy, this]) h
theorem Sat.freeze {w : World} (s : Sat W0 L F w) {j g k c m : Nat} {rows : List (List D)} (hj : L[j]? = some (Res.own (.slice (some ⟨g, 0, none⟩) k c) e 1 rows)) : Sat W0 (L.set j Res.nix) F (w.freeze ⟨g, 0, none⟩ m) := by
  obtain ⟨hb, h, mm, sx⟩ := s
  have hl := has_lt hj
  obtain ⟨_, hp⟩ : ownP _ e 1 rows h (mm j) := sx.res j _ hj
  obtain ⟨cur, hm⟩ : ∃ O, mm j = one g O := by
    rcases hp with ⟨hv, _⟩ | ⟨g', cap, cur, hv, hm, _⟩
    · simp at hv
    · simp at hv
      obtain ⟨rfl, _⟩ := hv
      exact ⟨_, hm⟩
  have st : Step w (w.freeze ⟨g, 0, none⟩ m) (mm j) := by
    unfold World.freeze
    split
    · exact ⟨rfl, rfl, rfl, Nat.le_refl _, fun _ _ _ => rfl⟩
    · refine ⟨rfl, rfl, rfl, by simp, fun k _ hk => ?_⟩
      have hkg : k ≠ g := fun e => by rw [e, hm, one_self] at hk; simp at hk
      simp only [Array.getElem?_modify]
      rw [if_neg (by omega)]
  exact ⟨Sat.below_of hb st (fun b O hO => (sx.own j b O hl hO).1), h, _, sx.upd hb.size hl st Res.nix (fun _ => none) (fun _ => rfl) (by simp)⟩
theorem AO.unsafeStr1 {x y : Operand} {lst : List UInt8} {j b k c : Nat} {tp ti : TypeId} {d : Tmp} {ty : TypeId} {pos : String} {af : Array Edge} {g : Option (Nat × Bool)} (hp : P.underlying tp = some (.pointer e)) (hc1 : P.cellsOf e = 1) (hx : ev ρ x = some (.pointer (some ⟨b, 0, none⟩))) (hy : ev ρ y = some (.int .i64 lst.length)) (hd : Nat.blt d n = true)
    (hj : L[j]? = some (Res.own (.slice (some ⟨b, 0, none⟩) k c) e 1 (lst.map eB))) (hne : lst ≠ []) (h : AT W0 n K ((d, S lst) :: ρ) (L.set j Res.nix) F) :
    AO P W0 n K ⟨some d, .call ⟨.builtin .unsafeString, #[x, y], #[tp, ti]⟩, ty, pos, af, g⟩ Q ρ L F := by
  intro a w st
  have s := st.sat
  have s' := s.freeze (m := lst.length) hj
  obtain ⟨hb, hh, mm, sx⟩ := s
  obtain ⟨hown, _⟩ := own_bytes sx hj
  obtain ⟨g', cap, cur, hv, hbg, hg, hnc, hcm, hcs, htake⟩ : ∃ g' cap cur, Value.slice (some ⟨b, 0, none⟩) k c = .slice (some ⟨g', 0, none⟩) lst.length cap ∧ W0.heap.size ≤ g' ∧ w.heap[g']? = some (.cells cur e (0, 0)) ∧ lst.length ≤ cap ∧ cap ≤ maxLen ∧ cur.size = cap * 1 ∧ cur.toList.take (lst.length * 1) = bV lst := by
    rcases hown.2 with ⟨hv, _⟩ | ⟨g', cap, cur, hv, r⟩
    · simp at hv
    · exact ⟨g', cap, cur, hv, r⟩
  simp at hv
  obtain ⟨rfl, rfl, rfl⟩ := hv
  have hrun := Lib.run_unsafeString_row (P := P) w tp ti ty e hp hc1 b cur.size (by simp [World.shape?, hg]) lst hne (by omega) (by unfold maxLen at hcm; omega) (fun j x hx => by
    have := hown.cells (g := b) rfl j (.int .u8 x.toNat) (by simp [bV, hx])
    exact this)
  have hr : (execOp a.eval ⟨some d, .call ⟨.builtin .unsafeString, #[x, y], #[tp, ti]⟩, ty, pos, af, g⟩).run P w = .ok (.value (S lst)) (w.freeze ⟨b, 0, none⟩ lst.length) := by
    simp [execOp, resolve, invoke, builtin, ev_eval st.slots hx, ev_eval st.slots hy, hrun]
  refine ⟨not_defer hr (fun _ e => by cases e), ?_⟩
  simp only [hr, owR]
  exact h _ _ ⟨st.slots.put (Nat.le_of_ble_eq_true hd) _, s'⟩
theorem Sub.dropAt {r : Res} {j : Nat} (hj : L[j]? = some r) : Sub L F (L.set j Res.nix) F := fun _ _ s => s.dropAt (has_lt hj)
theorem AO.lookupB {κ : Type} {kenc : κ → Value} {m : κ → Option Bool} {k e : TypeId} {x y : Operand} {b i : Nat} {d : Tmp} {ty : TypeId} {pos : String} {af : Array Edge} {g : Option (Nat × Bool)} (q : κ) (hx : ev ρ x = some (.map (some b))) (hy : ev ρ y = some (kenc q)) (hd : Nat.blt d n = true) [hk : KyT P k kenc] [ht : MpT P t k e] [hz : ZeT P e (.bool false)]
    (hi : L[i]? = some (Res.map b kenc Value.bool m)) (h1 : m q = some true → AT W0 n K ((d, .bool true) :: ρ) L F) (h2 : m q ≠ some true → AT W0 n K ((d, .bool false) :: ρ) L F) : AO P W0 n K ⟨some d, .lookup t x y false, ty, pos, af, g⟩ Q ρ L F := by
  refine AO.lookup (kenc := kenc) (venc := Value.bool) (m := m) q hx hy hd hi ?_
  cases hm : m q with
  | none => exact h2 (by rw [hm]; simp)
  | some z => cases z with
    | true => exact h1 hm
    | false => exact h2 (by rw [hm]; simp)
variable {x y : Operand} {a : Addr} {d : Tmp} {ty yt : TypeId} {pos : String} {af : Array Edge} {g : Option (Nat × Bool)}
theorem AO.eqlP {te : TypeId} {p : Option Addr} (hu : P.underlying t = some (.pointer te)) (hx : ev ρ x = some (.pointer p)) (hy : ev ρ y = some (.pointer none)) (hd : Nat.blt d n = true) (h : AT W0 n K ((d, .bool p.isNone) :: ρ) L F) :
    AO P W0 n K ⟨some d, .binOp .eql t x y yt, ty, pos, af, g⟩ Q ρ L F :=
  AO.val hd (fun s w st => by
    have hp : P.underlying t = some (.pointer (P.pointee t)) := by simp [Program.pointee, hu]
    have := run_eql_pointer_nil (P := P) (w := w) t p hp
    simp [execOp, ev_eval st.slots hx, ev_eval st.slots hy, eqGuard, this]) h
theorem AO.neqPs {te : TypeId} (hu : P.underlying t = some (.pointer te)) (hj : (P.info? te).isSome = true) (hx : ev ρ x = some (.pointer (some a))) (hy : ev ρ y = some (.pointer (some a))) (hd : Nat.blt d n = true) (h : AT W0 n K ((d, .bool false) :: ρ) L F) :
    AO P W0 n K ⟨some d, .binOp .neq t x y yt, ty, pos, af, g⟩ Q ρ L F :=
  AO.val hd (fun s w st => by
    obtain ⟨j, hj⟩ := Option.isSome_iff_exists.1 hj
    have := Lib.run_neq_ptr_same (P := P) w a hu hj
    simp [execOp, ev_eval st.slots hx, ev_eval st.slots hy, eqGuard, this]) h
theorem AO.toUnsafe {src dst te tb : TypeId} {m b i : Nat} {cs : Array Value} (hs : P.underlying src = some (.pointer te)) (hd' : P.underlying dst = some .unsafePointer) (hj : (P.info? te).map (·.size) = some m) (hj0 : Nat.beq m 0 = false) (hi : L[i]? = some (Res.cells b cs tb)) (h0 : 0 < cs.size)
    (hx : ev ρ x = some (.pointer (some ⟨b, 0, none⟩))) (hd : Nat.blt d n = true) (h : AT W0 n K ((d, .pointer (some ⟨b, 0, none⟩)) :: ρ) L F) : AO P W0 n K ⟨some d, .convert src dst x, ty, pos, af, g⟩ Q ρ L F :=
  AO.val hd (fun s w st => by
    have hb := st.sat.block hi
    obtain ⟨j, hj, hjs⟩ := Option.map_eq_some_iff.1 hj
    have hj0 : j.size ≠ 0 := by rw [hjs]; intro e; rw [e] at hj0; exact absurd hj0 (by decide)
    have := Lib.run_to_unsafe (P := P) w ⟨b, 0, none⟩ hs hd' hj hj0 (e := tb) (cells := cs.size) (by simp [World.shape?, hb]) h0
    simp [execOp, ev_eval st.slots hx, this]) h
theorem AO.fromUnsafe {src dst te tb : TypeId} {b i : Nat} {cs : Array Value} (hs : P.underlying src = some .unsafePointer) (hd' : P.underlying dst = some (.pointer te)) (hj : (P.info? te).isSome = true) (hi : L[i]? = some (Res.cells b cs tb)) (hl : liesAt P P.depth tb (cs.size / P.cellsOf tb) 0 te 1 = true)
    (hx : ev ρ x = some (.pointer (some ⟨b, 0, none⟩))) (hd : Nat.blt d n = true) (h : AT W0 n K ((d, .pointer (some ⟨b, 0, none⟩)) :: ρ) L F) : AO P W0 n K ⟨some d, .convert src dst x, ty, pos, af, g⟩ Q ρ L F :=
  AO.val hd (fun s w st => by
    have hb := st.sat.block hi
    obtain ⟨j, hj⟩ := Option.isSome_iff_exists.1 hj
    have := Lib.run_from_unsafe (P := P) w ⟨b, 0, none⟩ hs hd' hj (e := tb) (cells := cs.size) (by simp [World.shape?, hb]) hl
    simp [execOp, ev_eval st.slots hx, this]) h
theorem AO.noEscape {f : FuncId} {fn : Func} {ts : Array TypeId} {v : Value} (hf : P.funcs[f]? = some fn) (hname : (fn.name == "runtime.NumGoroutine") = false) (hb : fn.body.isNone = true) (hn : Extern.findNext fn = none) (he : Extern.find fn = some Extern.AbiNoEscape.same)
    (hx : ev ρ x = some v) (hd : Nat.blt d n = true) (h : AT W0 n K ((d, v) :: ρ) L F) : AO P W0 n K ⟨some d, .call ⟨.value (.func f), #[x], ts⟩, ty, pos, af, g⟩ Q ρ L F :=
  AO.val hd (fun s w st => by
    have := run_callFunc_extern hf hname hb hn he #[v] w
    have e2 := Lib.run_noEscape (P := P) (w := w) v
    rw [e2] at this
    simp only [Result.andThen] at this
    have hL := evL_eval st.slots (show evL ρ [x] = some [v] by simp [evL, hx])
    simp only [execOp, resolve, hL]
    simp [Act.eval, Deferred.ofValue, invoke, this]) h
end
end Go.Sy
namespace Go.Sy
open Go Go.Proofs
attribute [local irreducible] AC AT AO AK AH ACalls Sub Res.cells Res.nix Res.own Exit.then Exit.inBlock bodyPost Code.wp Code.wpIn WL Next Post Kont
section
variable {W0 : World} {L : List Res} {F : List Fact} {R : Value → List Res → List Fact → Prop}
set_option maxRecDepth 100000
set_option maxHeartbeats 4000000
theorem bcheck0_c {b i : Nat} {v : Value} (hi : L[i]? = some (Res.cells b #[.pointer none, v] 223)) (h : R (.tuple #[]) (L.set i (Res.cells b #[.pointer (some ⟨b, 0, none⟩), v] 223)) F) :
    ACalls Tryz.prog W0 203 #[.pointer (some ⟨b, 0, none⟩)] L F R := by
  refine ACalls.body Tryz.func203 rfl Tryz.ntmps203 rfl ?_
  refine AC.seq (AC.region (AL.go (AO.move rfl rfl ?_)))
  refine AL.go (AO.nilCheckP rfl rfl ?_)
  refine AL.go (AO.field rfl rfl ?_)
  refine AL.go (AO.loadB (cs := [.pointer none, v]) rfl rfl ?_ (hi := hi) (hv := rfl))
  refine AL.go (AO.eqlP Tryz.underlying220 rfl rfl rfl ?_)
  refine AL.nil (AK.seqN (AC.condT rfl (AC.region (AL.go (AO.move rfl rfl (AL.go (AO.move rfl rfl ?_)))))))
  refine AL.go (AO.toUnsafe (m := 2) Tryz.underlying220 Tryz.underlying289 (by kernel_rfl) rfl hi (Nat.zero_lt_succ 1) rfl rfl ?_)
  refine AL.go (AO.noEscape Tryz.func243 (by kernel_rfl) (by kernel_rfl) (by kernel_rfl) (by kernel_rfl) rfl rfl ?_)
  refine AL.go (AO.fromUnsafe Tryz.underlying289 Tryz.underlying220 (by kernel_rfl) hi (by kernel_rfl) rfl rfl ?_)
  refine AL.go (AO.nilCheckP rfl rfl ?_)
  refine AL.go (AO.field rfl rfl ?_)
  refine AL.go (AO.storeB (i := i) (cs := [.pointer none, v]) rfl rfl rfl ?_ (hi := hi) (ho := rfl))
  refine AL.nil ?_
  exact AK.end0 Tryz.results203 (Sub.refl _ _) h
theorem bcheck1_c {b i : Nat} {v : Value} (hi : L[i]? = some (Res.cells b #[.pointer (some ⟨b, 0, none⟩), v] 223)) (h : R (.tuple #[]) L F) :
    ACalls Tryz.prog W0 203 #[.pointer (some ⟨b, 0, none⟩)] L F R := by
  refine ACalls.body Tryz.func203 rfl Tryz.ntmps203 rfl ?_
  refine AC.seq (AC.region (AL.go (AO.move rfl rfl ?_)))
  refine AL.go (AO.nilCheckP rfl rfl ?_)
  refine AL.go (AO.field rfl rfl ?_)
  refine AL.go (AO.loadB (cs := [.pointer (some ⟨b, 0, none⟩), v]) rfl rfl ?_ (hi := hi) (hv := rfl))
  refine AL.go (AO.eqlP Tryz.underlying220 rfl rfl rfl ?_)
  refine AL.nil (AK.seqN (AC.condF rfl (AC.seq (AC.region (AL.go (AO.move rfl rfl ?_))))))
  refine AL.go (AO.nilCheckP rfl rfl ?_)
  refine AL.go (AO.field rfl rfl ?_)
  refine AL.go (AO.loadB (cs := [.pointer (some ⟨b, 0, none⟩), v]) rfl rfl ?_ (hi := hi) (hv := rfl))
  refine AL.go (AO.move rfl rfl ?_)
  refine AL.go (AO.neqPs Tryz.underlying220 (by kernel_rfl) rfl rfl rfl ?_)
  refine AL.nil (AK.seqN (AC.condF rfl (AC.skip ?_)))
  exact AK.end0 Tryz.results203 (Sub.refl _ _) h
theorem set3 {α : Type} {l : List α} {i j : Nat} {a o c : α} (hij : i ≠ j) : (((l.set i a).set j o).set i c) = (l.set j o).set i c := by
  rw [List.set_comm a o hij, List.set_set]
theorem wstr0_c {b i j : Nat} {v : Value} {lst s : List UInt8} (hij : i ≠ j) (hi : L[i]? = some (Res.cells b #[.pointer none, v] 223)) (hj : L[j]? = some (Res.own v 5 1 (lst.map eB))) (hlen : lst.length + s.length ≤ 100000000)
    (h : ∀ a k c, (Value.slice a k c = .slice none 0 0 ↔ v = .slice none 0 0 ∧ s = []) → R (.tuple #[.int .i64 s.length, .nilIface]) ((L.set j (Res.own (.slice a k c) 5 1 ((lst ++ s).map eB))).set i (Res.cells b #[.pointer (some ⟨b, 0, none⟩), .slice a k c] 223)) F) :
    ACalls Tryz.prog W0 157 #[.pointer (some ⟨b, 0, none⟩), S s] L F R := by
  have hml : 1000000000 ≤ maxLen := by decide
  have hi1 : (L.set i (Res.cells b #[.pointer (some ⟨b, 0, none⟩), v] 223))[i]? = some (Res.cells b #[.pointer (some ⟨b, 0, none⟩), v] 223) := by simp [has_lt hi]
  have hj1 : (L.set i (Res.cells b #[.pointer (some ⟨b, 0, none⟩), v] 223))[j]? = some (Res.own v 5 1 (lst.map eB)) := by rw [List.getElem?_set_ne hij]; exact hj
  refine ACalls.body Tryz.func157 rfl Tryz.ntmps157 rfl ?_
  refine AC.seq (AC.region (AL.go (AO.assign rfl rfl (AL.go (AO.assign rfl rfl (AL.nil (AK.seqN ?_)))))))
  refine AC.seq (AC.region (AL.go (AO.move rfl rfl ?_)))
  refine AL.go (AO.call rfl rfl (bcheck0_c hi ?_))
  refine AL.nil (AK.seqN (AC.seq (AC.region (AL.go (AO.move rfl rfl (AL.go (AO.move rfl rfl ?_)))))))
  refine AL.go (AO.nilCheckP rfl rfl ?_)
  refine AL.go (AO.field rfl rfl ?_)
  refine AL.go (AO.loadB (cs := [.pointer (some ⟨b, 0, none⟩), v]) rfl rfl ?_ (hi := hi1) (hv := rfl))
  refine AL.go (AO.move rfl rfl ?_)
  refine AL.go (AO.appendS (i := j) rfl rfl rfl hj1 (by omega) (by omega) (fun a14 k14 z14 n14 => ?_))
  refine AL.go (AO.nilCheckP rfl rfl ?_)
  refine AL.go (AO.field rfl rfl ?_)
  have hi2 : ((L.set i (Res.cells b #[.pointer (some ⟨b, 0, none⟩), v] 223)).set j (Res.own (.slice a14 k14 z14) 5 1 ((lst ++ s).map eB)))[i]? = some (Res.cells b #[.pointer (some ⟨b, 0, none⟩), v] 223) := by rw [List.getElem?_set_ne hij.symm]; exact hi1
  refine AL.go (AO.storeB (i := i) (cs := [.pointer (some ⟨b, 0, none⟩), v]) rfl rfl rfl ?_ (hi := hi2) (ho := rfl))
  refine AL.nil (AK.seqN (AC.seq (AC.region (AL.go (AO.move rfl rfl (AL.go (AO.lenS rfl rfl ?_)))))))
  refine AL.go (AO.assign rfl rfl (AL.go (AO.assign rfl rfl (AL.nil (AK.seqN (AC.ret ?_))))))
  refine AK.ret2 (F' := F) Tryz.results157 rfl rfl (Sub.ofEq ?_) (h a14 k14 z14 n14)
  exact set3 hij
theorem wstr1_c {b i j : Nat} {v : Value} {lst s : List UInt8} (hij : i ≠ j) (hi : L[i]? = some (Res.cells b #[.pointer (some ⟨b, 0, none⟩), v] 223)) (hj : L[j]? = some (Res.own v 5 1 (lst.map eB))) (hlen : lst.length + s.length ≤ 100000000)
    (h : ∀ a k c, (Value.slice a k c = .slice none 0 0 ↔ v = .slice none 0 0 ∧ s = []) → R (.tuple #[.int .i64 s.length, .nilIface]) ((L.set j (Res.own (.slice a k c) 5 1 ((lst ++ s).map eB))).set i (Res.cells b #[.pointer (some ⟨b, 0, none⟩), .slice a k c] 223)) F) :
    ACalls Tryz.prog W0 157 #[.pointer (some ⟨b, 0, none⟩), S s] L F R := by
  have hml : 1000000000 ≤ maxLen := by decide
  have hi1 : (L)[i]? = some (Res.cells b #[.pointer (some ⟨b, 0, none⟩), v] 223) := by exact hi
  have hj1 : (L)[j]? = some (Res.own v 5 1 (lst.map eB)) := by exact hj
  refine ACalls.body Tryz.func157 rfl Tryz.ntmps157 rfl ?_
  refine AC.seq (AC.region (AL.go (AO.assign rfl rfl (AL.go (AO.assign rfl rfl (AL.nil (AK.seqN ?_)))))))
  refine AC.seq (AC.region (AL.go (AO.move rfl rfl ?_)))
  refine AL.go (AO.call rfl rfl (bcheck1_c hi ?_))
  refine AL.nil (AK.seqN (AC.seq (AC.region (AL.go (AO.move rfl rfl (AL.go (AO.move rfl rfl ?_)))))))
  refine AL.go (AO.nilCheckP rfl rfl ?_)
  refine AL.go (AO.field rfl rfl ?_)
  refine AL.go (AO.loadB (cs := [.pointer (some ⟨b, 0, none⟩), v]) rfl rfl ?_ (hi := hi1) (hv := rfl))
  refine AL.go (AO.move rfl rfl ?_)
  refine AL.go (AO.appendS (i := j) rfl rfl rfl hj1 (by omega) (by omega) (fun a14 k14 z14 n14 => ?_))
  refine AL.go (AO.nilCheckP rfl rfl ?_)
  refine AL.go (AO.field rfl rfl ?_)
  have hi2 : ((L).set j (Res.own (.slice a14 k14 z14) 5 1 ((lst ++ s).map eB)))[i]? = some (Res.cells b #[.pointer (some ⟨b, 0, none⟩), v] 223) := by rw [List.getElem?_set_ne hij.symm]; exact hi1
  refine AL.go (AO.storeB (i := i) (cs := [.pointer (some ⟨b, 0, none⟩), v]) rfl rfl rfl ?_ (hi := hi2) (ho := rfl))
  refine AL.nil (AK.seqN (AC.seq (AC.region (AL.go (AO.move rfl rfl (AL.go (AO.lenS rfl rfl ?_)))))))
  refine AL.go (AO.assign rfl rfl (AL.go (AO.assign rfl rfl (AL.nil (AK.seqN (AC.ret ?_))))))
  refine AK.ret2 (F' := F) Tryz.results157 rfl rfl (Sub.ofEq ?_) (h a14 k14 z14 n14)
  rfl
theorem wstr_c {b i j : Nat} {p : Option Addr} {v : Value} {lst s : List UInt8} (hp : p = none ∨ p = some ⟨b, 0, none⟩) (hij : i ≠ j) (hi : L[i]? = some (Res.cells b #[.pointer p, v] 223)) (hj : L[j]? = some (Res.own v 5 1 (lst.map eB))) (hlen : lst.length + s.length ≤ 100000000)
    (h : ∀ a k c, (Value.slice a k c = .slice none 0 0 ↔ v = .slice none 0 0 ∧ s = []) → R (.tuple #[.int .i64 s.length, .nilIface]) ((L.set j (Res.own (.slice a k c) 5 1 ((lst ++ s).map eB))).set i (Res.cells b #[.pointer (some ⟨b, 0, none⟩), .slice a k c] 223)) F) :
    ACalls Tryz.prog W0 157 #[.pointer (some ⟨b, 0, none⟩), S s] L F R := by
  rcases hp with rfl | rfl
  · exact wstr0_c hij hi hj hlen h
  · exact wstr1_c hij hi hj hlen h
theorem bstr0_c {b i : Nat} {p : Option Addr} (hi : L[i]? = some (Res.cells b #[.pointer p, .slice none 0 0] 223)) (h : R (S []) L F) :
    ACalls Tryz.prog W0 159 #[.pointer (some ⟨b, 0, none⟩)] L F R := by
  refine ACalls.body Tryz.func159 rfl Tryz.ntmps159 rfl ?_
  refine AC.seq (AC.region (AL.go (AO.assign rfl rfl (AL.nil (AK.seqN (AC.seq ?_))))))
  refine AC.draw (fun _ => false) [(b, [.pointer p, .slice none 0 0], 223)] (.cons hi .nil) rfl (fun hx hX => ?_)
  refine AH.takeW (i := 0) rfl (Y.move rfl) (by kernel_rfl) rfl rfl ?_
  refine AH.takeW (i := 1) rfl (Y.nilCheckP rfl) (by kernel_rfl) rfl rfl ?_
  refine AH.takeW (i := 2) rfl (Y.field rfl) (by kernel_rfl) rfl rfl ?_
  refine AH.takeS (i := 3) rfl (Y.loadB rfl (.head _) (by rfl)) (by kernel_rfl) (by kernel_rfl) rfl rfl rfl ?_
  refine AH.takeW (i := 5) rfl (Y.move rfl) (by kernel_rfl) rfl rfl ?_
  refine AH.takeW (i := 6) rfl (Y.nilCheckP rfl) (by kernel_rfl) rfl rfl ?_
  refine AH.takeW (i := 7) rfl (Y.field rfl) (by kernel_rfl) rfl rfl ?_
  refine AH.takeS (i := 8) rfl (Y.loadB rfl (.head _) (by rfl)) (by kernel_rfl) (by kernel_rfl) rfl rfl rfl ?_
  refine AH.takeW (i := 9) rfl (Y.lenV rfl) (by kernel_rfl) rfl rfl ?_
  refine AH.one (i := 4) (by kernel_rfl) rfl rfl (fun _ => ?_)
  refine AO.sliceData0 rfl rfl ?_
  refine AT.held (.cons hi .nil) mem0 ?_
  refine AH.one (i := 10) (by kernel_rfl) rfl rfl (fun _ => ?_)
  refine AO.unsafeStr0 rfl rfl rfl ?_
  refine AT.held (.cons hi .nil) mem0 ?_
  refine AH.takeW (i := 11) rfl (Y.assign rfl) (by kernel_rfl) rfl rfl ?_
  refine AH.done (by kernel_rfl) ?_
  refine AK.seqN (AC.ret ?_)
  exact AK.ret (L' := L) (F' := F) Tryz.results159 rfl subF h
theorem bstr1_c {b i j g k : Nat} {p : Option Addr} {lst : List UInt8} (hij : i ≠ j) (hk : k ≠ 0) (hne : lst ≠ []) (hi : L[i]? = some (Res.cells b #[.pointer p, .slice (some ⟨g, 0, none⟩) lst.length k] 223)) (hj : L[j]? = some (Res.own (.slice (some ⟨g, 0, none⟩) lst.length k) 5 1 (lst.map eB)))
    (h : R (S lst) (L.set j Res.nix) F) : ACalls Tryz.prog W0 159 #[.pointer (some ⟨b, 0, none⟩)] L F R := by
  have hi2 : (L.set j Res.nix)[i]? = some (Res.cells b #[.pointer p, .slice (some ⟨g, 0, none⟩) lst.length k] 223) := by rw [List.getElem?_set_ne hij.symm]; exact hi
  refine ACalls.body Tryz.func159 rfl Tryz.ntmps159 rfl ?_
  refine AC.seq (AC.region (AL.go (AO.assign rfl rfl (AL.nil (AK.seqN (AC.seq ?_))))))
  refine AC.draw (fun _ => false) [(b, [.pointer p, .slice (some ⟨g, 0, none⟩) lst.length k], 223)] (.cons hi .nil) rfl (fun hx hX => ?_)
  refine AH.takeW (i := 0) rfl (Y.move rfl) (by kernel_rfl) rfl rfl ?_
  refine AH.takeW (i := 1) rfl (Y.nilCheckP rfl) (by kernel_rfl) rfl rfl ?_
  refine AH.takeW (i := 2) rfl (Y.field rfl) (by kernel_rfl) rfl rfl ?_
  refine AH.takeS (i := 3) rfl (Y.loadB rfl (.head _) (by rfl)) (by kernel_rfl) (by kernel_rfl) rfl rfl rfl ?_
  refine AH.takeW (i := 5) rfl (Y.move rfl) (by kernel_rfl) rfl rfl ?_
  refine AH.takeW (i := 6) rfl (Y.nilCheckP rfl) (by kernel_rfl) rfl rfl ?_
  refine AH.takeW (i := 7) rfl (Y.field rfl) (by kernel_rfl) rfl rfl ?_
  refine AH.takeS (i := 8) rfl (Y.loadB rfl (.head _) (by rfl)) (by kernel_rfl) (by kernel_rfl) rfl rfl rfl ?_
  refine AH.takeW (i := 9) rfl (Y.lenV rfl) (by kernel_rfl) rfl rfl ?_
  refine AH.one (i := 4) (by kernel_rfl) rfl rfl (fun _ => ?_)
  refine AO.sliceData1 rfl hk rfl ?_
  refine AT.held (.cons hi .nil) mem0 ?_
  refine AH.one (i := 10) (by kernel_rfl) rfl rfl (fun _ => ?_)
  refine AO.unsafeStr1 Tryz.underlying260 (by kernel_rfl) rfl rfl rfl hj hne ?_
  refine AT.held (.cons hi2 .nil) mem0 ?_
  refine AH.takeW (i := 11) rfl (Y.assign rfl) (by kernel_rfl) rfl rfl ?_
  refine AH.done (by kernel_rfl) ?_
  refine AK.seqN (AC.ret ?_)
  exact AK.ret (L' := L.set j Res.nix) (F' := F) Tryz.results159 rfl subF h
theorem bstr_c {b i j : Nat} {p : Option Addr} {v : Value} {lst : List UInt8} (hij : i ≠ j) (hi : L[i]? = some (Res.cells b #[.pointer p, v] 223)) (hj : L[j]? = some (Res.own v 5 1 (lst.map eB))) (hn : lst = [] → v = .slice none 0 0)
    (h : R (S lst) (L.set j Res.nix) F) : ACalls Tryz.prog W0 159 #[.pointer (some ⟨b, 0, none⟩)] L F R := by
  by_cases hne : lst = []
  · have hv := hn hne
    subst hne hv
    exact ACalls.weak (Sub.dropAt hj) (bstr0_c (L := L.set j Res.nix) (by rw [List.getElem?_set_ne hij.symm]; exact hi) h)
  · refine ACalls.ownForm hj hne (fun g c hv hc => ?_)
    subst hv
    exact bstr1_c hij hc hne hi hj h
end
end Go.Sy
namespace Go.Sy
open Go Go.Proofs Go.RowKit
structure TyOk (t : Ty) : Prop where
  kind : -9223372036854775808 ≤ t.kind ∧ t.kind ≤ 9223372036854775807
  n : -9223372036854775808 ≤ t.n ∧ t.n ≤ 9223372036854775807
  name : t.name.length ≤ 60
  words : t.words.length ≤ 20
  word : ∀ w ∈ t.words, w.length ≤ 1048576
  kids : t.kids.length ≤ 20
  kid : ∀ k ∈ t.kids, -9223372036854775808 ≤ k ∧ k ≤ 9223372036854775807
abbrev vKey (k : Key) : Value := .agg #[.int .i64 k.kind, .int .i64 k.n, S k.name, S k.words, S k.kids, S k.lengths]
theorem flat_len {m : Nat} : ∀ (l : List (List UInt8)), (∀ s ∈ l, s.length ≤ m) → l.flatten.length ≤ m * l.length
  | [], _ => by simp
  | s :: l, h => by
    have ih := flat_len l (fun x hx => h x (.tail _ hx))
    have hs := h s (.head _)
    simp only [List.flatten_cons, List.length_append, List.length_cons, Nat.mul_succ]
    omega
theorem commas_len : ∀ (l : List Int), (∀ k ∈ l, -9223372036854775808 ≤ k ∧ k ≤ 9223372036854775807) → (commas l).length ≤ 21 * l.length
  | [], _ => by simp [commas]
  | k :: l, h => by
    have ih := commas_len l (fun x hx => h x (.tail _ hx))
    have hs := itoa_len (h k (.head _))
    rw [commas_cons]
    simp only [List.length_append, List.length_cons, Nat.mul_succ]
    omega
theorem flat_step {l : List (List UInt8)} {q : Nat} (hq : q < l.length) : (l.take q).flatten ++ l[q] = (l.take (q + 1)).flatten := by
  rw [List.take_succ_eq_append_getElem hq, List.flatten_append]; simp only [List.flatten_cons, List.flatten_nil, List.append_nil]
theorem lens_step {l : List (List UInt8)} {q : Nat} (hq : q < l.length) : commas (lensOf (l.take q)) ++ (Lib.itoa (l[q].length : Int) ++ [44]) = commas (lensOf (l.take (q + 1))) := by
  rw [List.take_succ_eq_append_getElem hq, lensOf, lensOf, List.map_append, List.map_cons, List.map_nil, commas_snoc]
theorem kids_step {l : List Int} {q : Nat} (hq : q < l.length) : commas (l.take q) ++ (Lib.itoa l[q] ++ [44]) = commas (l.take (q + 1)) := by
  rw [List.take_succ_eq_append_getElem hq, commas_snoc]
theorem nil_keep {v v' : Value} {a b : List UInt8} (h : a = [] → v = .slice none 0 0) (hn : v' = .slice none 0 0 ↔ v = .slice none 0 0 ∧ b = []) : a ++ b = [] → v' = .slice none 0 0 := by
  intro e
  have := List.append_eq_nil_iff.1 e
  exact hn.2 ⟨h this.1, this.2⟩
theorem lens_ok {l : List (List UInt8)} (h : ∀ w ∈ l, w.length ≤ 1048576) : ∀ k ∈ lensOf l, -9223372036854775808 ≤ k ∧ k ≤ 9223372036854775807 := by
  intro k hk
  unfold lensOf at hk
  obtain ⟨w, hw, rfl⟩ := List.mem_map.1 hk
  have := h w hw
  omega
attribute [local irreducible] AC AT AO AK AH ACalls Sub Res.cells Res.nix Res.own Exit.then Exit.inBlock bodyPost Code.wp Code.wpIn WL Next Post Kont
section
variable {W0 : World} {L : List Res} {F : List Fact} {R : Value → List Res → List Fact → Prop}
set_option maxRecDepth 100000
set_option maxHeartbeats 4000000
theorem keyOf_c (g : Glob W0) (t : Ty) (ht : TyOk t) {a1 a2 : Option Addr} {k1 c1 k2 c2 : Nat} (m1 : fW t a1 k1 c1 ∈ F) (m2 : fK t a2 k2 c2 ∈ F) (h : R (vKey (keyT t)) L F) :
    ACalls Tryz.prog W0 100 #[vTy t a1 k1 c1 a2 k2 c2] L F R := by
  have hw := ht.word
  have hwl := ht.words
  have hk := ht.kid
  have hkl := ht.kids
  have hml : 1000000000 ≤ maxLen := by decide
  refine ACalls.body Tryz.func100 rfl Tryz.ntmps100 rfl ?_
  refine AC.seq (AC.region (AL.go (AO.box rfl rfl (fun b1 => ?_))))
  refine AL.go (AO.alloc rfl (fun b2 => ?_))
  refine AL.nil (AK.seqN (AC.seq (AC.region (AL.go (AO.field rfl rfl ?_)))))
  refine AL.go (AO.loadB rfl rfl ?_)
  refine AL.go (AO.field rfl rfl ?_)
  refine AL.go (AO.loadB rfl rfl ?_)
  refine AL.go (AO.field rfl rfl ?_)
  refine AL.go (AO.loadB rfl rfl ?_)
  refine AL.go (AO.build rfl rfl rfl (AL.go (AO.alloc rfl (fun b3 => ?_))))
  refine AL.go (AO.storeBA rfl rfl rfl rfl ?_)
  refine AL.nil (AK.seqN (AC.seq (AC.region (AL.go (AO.alloc rfl (fun b4 => ?_))))))
  refine AL.go (AO.alloc rfl (fun b5 => ?_))
  refine AL.go (AO.alloc rfl (fun b6 => ?_))
  refine AT.sub ((Sub.ownNil (e := 5) (sz := 1)).trans ((Sub.ownNil (e := 5) (sz := 1)).trans (Sub.ownNil (e := 5) (sz := 1)))) ?_
  refine AL.nil (AK.seqN (AC.seq (AC.seq (AC.region (AL.go (AO.field rfl rfl ?_))))))
  refine AL.go (AO.loadB rfl rfl ?_)
  refine AL.go (AO.len rfl rfl (fun hl20 => ?_) (hm := by repeat (first | exact mem0 | assumption | refine memS ?_)))
  refine AL.go (AO.move rfl rfl (AL.nil (AK.seqN (AC.block ?_))))
  refine AC.loop (fun (i : Nat × (Option Addr × Option Addr × Nat × Nat) × (Option Addr × Option Addr × Nat × Nat)) => i.1 ≤ t.words.length ∧ (i.2.1.1 = none ∨ i.2.1.1 = some ⟨b4, 0, none⟩) ∧ (i.2.2.1 = none ∨ i.2.2.1 = some ⟨b6, 0, none⟩) ∧ ((t.words.take i.1).flatten = [] → Value.slice i.2.1.2.1 i.2.1.2.2.1 i.2.1.2.2.2 = .slice none 0 0) ∧ (commas (lensOf (t.words.take i.1)) = [] → Value.slice i.2.2.2.1 i.2.2.2.2.1 i.2.2.2.2.2 = .slice none 0 0)) (fun i => [(1, .pointer (some ⟨b1, 0, none⟩)), (2, .pointer (some ⟨b2, 0, none⟩)), (3, .pointer (some ⟨b3, 0, none⟩)), (4, .pointer (some ⟨b4, 0, none⟩)), (5, .pointer (some ⟨b5, 0, none⟩)), (6, .pointer (some ⟨b6, 0, none⟩)), (19, .slice a1 k1 c1), (20, .int .i64 t.words.length), (21, .int .i64 (i.1 : Int))]) (fun i => Res.own (.slice i.2.1.2.1 i.2.1.2.2.1 i.2.1.2.2.2) 5 1 ((t.words.take i.1).flatten.map eB) :: Res.own (.slice none 0 0) 5 1 [] :: Res.own (.slice i.2.2.2.1 i.2.2.2.2.1 i.2.2.2.2.2) 5 1 ((commas (lensOf (t.words.take i.1))).map eB) :: Res.cells b6 #[.pointer i.2.2.1, .slice i.2.2.2.1 i.2.2.2.2.1 i.2.2.2.2.2] 223 :: Res.cells b5 #[.pointer none, .slice none 0 0] 223 :: Res.cells b4 #[.pointer i.2.1.1, .slice i.2.1.2.1 i.2.1.2.2.1 i.2.1.2.2.2] 223 :: _) (fun _ => F) (fun i => t.words.length - i.1) (0, (none, none, 0, 0), (none, none, 0, 0)) ⟨by omega, Or.inl rfl, Or.inl rfl, fun _ => rfl, fun _ => rfl⟩ srA (Sub.refl _ _) ?_
  rintro ⟨q, ⟨pw, aw, kw, zw⟩, ⟨pl, al, kl, zl⟩⟩ ⟨hq, hpw, hpl, hnw, hnl⟩
  simp only at hq hpw hpl hnw hnl ⊢
  refine AC.seq (AC.region ?_)
  refine AL.go (AO.lss rfl rfl rfl (fun c22 => ?_) (fun c22 => ?_))
  ·refine AL.nil (AK.seqN (AC.seq (AC.condT rfl (AC.skip (AK.seqN ?_)))))
   refine AC.seq (AC.block (AC.seq (AC.region ?_)))
   have hql : q < t.words.length := by omega
   have hsl := hw _ (List.getElem_mem hql)
   have hfl := flat_len (m := 1048576) (t.words.take q) (fun s hs => hw s (List.mem_of_mem_take hs))
   have htl : (t.words.take q).length ≤ 20 := by simp; omega
   have hcl := commas_len (lensOf (t.words.take q)) (lens_ok (fun s hs => hw s (List.mem_of_mem_take hs)))
   have hll : (lensOf (t.words.take q)).length ≤ 20 := by simp [lensOf]; omega
   have hil : (Lib.itoa (t.words[q].length : Int)).length ≤ 20 := itoa_len (by omega)
   refine AL.go (AO.indexAddr rfl rfl rfl rfl memA hql (fun _ _ => ?_))
   refine AL.go (AO.loadF rfl rfl ?_)
   intros
   refine AL.go (AO.assign rfl rfl (AL.nil (AK.seqN (AC.seq (AC.region (AL.go (AO.move rfl rfl ?_)))))))
   refine AL.go (AO.call rfl rfl (wstr_c (b := b4) (i := 5) (j := 0) hpw (by decide) rfl rfl (by omega) (fun a26 k26 z26 n26 => ?_)))
   refine AL.nil (AK.seqN (AC.region (AL.go (AO.move rfl rfl (AL.go (AO.lenS rfl rfl ?_))))))
   refine AL.go (AO.call rfl rfl (itoa_c g _ (by omega) ?_))
   refine AL.go (AO.addS rfl rfl rfl (by first | omega | (simp; omega)) ?_)
   refine AL.go (AO.call rfl rfl (wstr_c (b := b6) (i := 3) (j := 2) hpl (by decide) rfl rfl (by rw [List.length_append]; simp only [List.length_cons, List.length_nil]; omega) (fun a31 k31 z31 n31 => ?_)))
   rw [flat_step hql, lens_step hql]
   refine AL.nil (AK.blkN (AK.seqN (AC.region (AL.go (AO.add rfl rfl rfl (by omega) (by omega) (AL.go (AO.move rfl rfl ?_)))))))
   refine AL.nil ?_
   refine AK.next (q + 1, (some ⟨b4, 0, none⟩, a26, k26, z26), (some ⟨b6, 0, none⟩, a31, k31, z31)) ⟨by simp only; omega, Or.inr rfl, Or.inr rfl, by rw [← flat_step hql]; exact nil_keep hnw n26, by rw [← lens_step hql]; exact nil_keep hnl n31⟩ (by simp only; omega) srA subF
  ·refine AL.nil (AK.seqN (AC.seq (AC.condF rfl (AC.exit (AK.seqX ?_)))))
   refine AK.seqX (AK.blkX (AK.seqN (AC.seq (AC.seq (AC.region ?_)))))
   refine AL.go (AO.field rfl rfl ?_)
   refine AL.go (AO.loadB rfl rfl ?_)
   refine AL.go (AO.len rfl rfl (fun hl35 => ?_) (hm := by repeat (first | exact mem0 | assumption | refine memS ?_)))
   refine AL.go (AO.move rfl rfl (AL.nil (AK.seqN (AC.block ?_))))
   have hw9 : t.words.take q = t.words := List.take_of_length_le (by omega)
   rw [hw9] at hnw hnl ⊢
   refine AC.loop (fun (i : Nat × (Option Addr × Option Addr × Nat × Nat)) => i.1 ≤ t.kids.length ∧ (i.2.1 = none ∨ i.2.1 = some ⟨b5, 0, none⟩) ∧ (commas (t.kids.take i.1) = [] → Value.slice i.2.2.1 i.2.2.2.1 i.2.2.2.2 = .slice none 0 0)) (fun i => [(1, .pointer (some ⟨b1, 0, none⟩)), (2, .pointer (some ⟨b2, 0, none⟩)), (3, .pointer (some ⟨b3, 0, none⟩)), (4, .pointer (some ⟨b4, 0, none⟩)), (5, .pointer (some ⟨b5, 0, none⟩)), (6, .pointer (some ⟨b6, 0, none⟩)), (34, .slice a2 k2 c2), (35, .int .i64 t.kids.length), (36, .int .i64 (i.1 : Int))]) (fun i => Res.own (.slice aw kw zw) 5 1 (t.words.flatten.map eB) :: Res.own (.slice i.2.2.1 i.2.2.2.1 i.2.2.2.2) 5 1 ((commas (t.kids.take i.1)).map eB) :: Res.own (.slice al kl zl) 5 1 ((commas (lensOf t.words)).map eB) :: Res.cells b6 #[.pointer pl, .slice al kl zl] 223 :: Res.cells b5 #[.pointer i.2.1, .slice i.2.2.1 i.2.2.2.1 i.2.2.2.2] 223 :: Res.cells b4 #[.pointer pw, .slice aw kw zw] 223 :: _) (fun _ => F) (fun i => t.kids.length - i.1) (0, (none, none, 0, 0)) ⟨by omega, Or.inl rfl, fun _ => rfl⟩ srA (Sub.refl _ _) ?_
   rintro ⟨u, ⟨pk, ak, kk, zk⟩⟩ ⟨hu, hpk, hnk⟩
   simp only at hu hpk hnk ⊢
   refine AC.seq (AC.region ?_)
   refine AL.go (AO.lss rfl rfl rfl (fun c37 => ?_) (fun c37 => ?_))
   ·refine AL.nil (AK.seqN (AC.seq (AC.condT rfl (AC.skip (AK.seqN ?_)))))
    refine AC.seq (AC.block (AC.seq (AC.region ?_)))
    have hul : u < t.kids.length := by omega
    have hkr := hk _ (List.getElem_mem hul)
    have hcl := commas_len (t.kids.take u) (fun s hs => hk s (List.mem_of_mem_take hs))
    have hll : (t.kids.take u).length ≤ 20 := by simp; omega
    have hil : (Lib.itoa t.kids[u]).length ≤ 20 := itoa_len hkr
    refine AL.go (AO.indexAddr rfl rfl rfl rfl memA hul (fun _ _ => ?_))
    refine AL.go (AO.loadF rfl rfl ?_)
    intros
    refine AL.go (AO.assign rfl rfl (AL.nil (AK.seqN (AC.region (AL.go (AO.move rfl rfl ?_))))))
    refine AL.go (AO.call rfl rfl (itoa_c g _ hkr ?_))
    refine AL.go (AO.addS rfl rfl rfl (by first | omega | (simp; omega)) ?_)
    refine AL.go (AO.call rfl rfl (wstr_c (b := b5) (i := 4) (j := 1) hpk (by decide) rfl rfl (by rw [List.length_append]; simp only [List.length_cons, List.length_nil]; omega) (fun a43 k43 z43 n43 => ?_)))
    rw [kids_step hul]
    refine AL.nil (AK.blkN (AK.seqN (AC.region (AL.go (AO.add rfl rfl rfl (by omega) (by omega) (AL.go (AO.move rfl rfl ?_)))))))
    refine AL.nil ?_
    refine AK.next (u + 1, (some ⟨b5, 0, none⟩, a43, k43, z43)) ⟨by simp only; omega, Or.inr rfl, by rw [← kids_step hul]; exact nil_keep hnk n43⟩ (by simp only; omega) srA subF
   ·refine AL.nil (AK.seqN (AC.seq (AC.condF rfl (AC.exit (AK.seqX ?_)))))
    refine AK.seqX (AK.blkX (AK.seqN (AC.seq (AC.region ?_))))
    have hk9 : t.kids.take u = t.kids := List.take_of_length_le (by omega)
    rw [hk9] at hnk ⊢
    refine AL.go (AO.call rfl rfl (bstr_c (b := b4) (i := 5) (j := 0) (by decide) rfl rfl hnw ?_))
    refine AL.go (AO.call rfl rfl (bstr_c (b := b5) (i := 4) (j := 1) (by decide) rfl rfl hnk ?_))
    refine AL.go (AO.call rfl rfl (bstr_c (b := b6) (i := 3) (j := 2) (by decide) rfl rfl hnl ?_))
    refine AL.go (AO.field rfl rfl ?_)
    refine AL.go (AO.storeB rfl rfl rfl ?_)
    refine AL.go (AO.field rfl rfl ?_)
    refine AL.go (AO.storeB rfl rfl rfl ?_)
    refine AL.go (AO.field rfl rfl ?_)
    refine AL.go (AO.storeB rfl rfl rfl ?_)
    refine AL.nil (AK.seqN (AC.seq (AC.region ?_)))
    refine AL.go (AO.loadBA rfl rfl ?_)
    refine AL.go (AO.storeBA rfl rfl rfl rfl ?_)
    refine AL.nil (AK.seqN (AC.ret ?_))
    exact AK.retV (rs := [.cell 2 _]) (L' := L) (F' := F) Tryz.results100 (.agg (j := 7) rfl rfl rfl .nil) subA h
end
end Go.Sy
namespace Go.Sy
open Go Go.Proofs Go.RowKit
theorem trimp_eq (s : List UInt8) : Lib.trimPrefix s [43] = fieldN s := by
  unfold Lib.trimPrefix fieldN
  cases s with
  | nil => rfl
  | cons x r =>
    by_cases h : x = 43
    · subst h; simp [Lib.hasPrefix]
    · have : Lib.hasPrefix (x :: r) [43] = false := by simp [Lib.hasPrefix, List.isPrefixOf, Ne.symm h]
      rw [this]
      simp
      split
      · rename_i e; exact absurd (List.cons.inj e).1 h
      · rfl
def SeenIs (ws : List (List UInt8)) (q : Nat) (m : List UInt8 → Option Bool) : Prop := ∀ x, m x = some true ↔ x ≠ [95] ∧ ∃ (j : Nat) (hj : j < ws.length), j < q ∧ fieldN ws[j] = x
theorem SeenIs.zero (ws : List (List UInt8)) : SeenIs ws 0 (fun _ => none) := fun x => ⟨fun h => by simp at h, fun ⟨_, j, _, h, _⟩ => absurd h (by omega)⟩
theorem SeenIs.step {ws : List (List UInt8)} {q : Nat} {m : List UInt8 → Option Bool} (h : SeenIs ws q m) (hq : q < ws.length) {b : Bool} (hb : b = true ↔ fieldN ws[q] ≠ [95]) : SeenIs ws (q + 1) (upd m (fieldN ws[q]) b) := by
  intro x
  by_cases hx : x = fieldN ws[q]
  · subst hx
    rw [upd_self, Option.some.injEq, hb]
    exact ⟨fun h1 => ⟨h1, q, hq, by omega, rfl⟩, fun h1 => h1.1⟩
  · rw [upd_ne _ hx, h x]
    constructor
    · rintro ⟨h1, j, hj, h2, h3⟩; exact ⟨h1, j, hj, by omega, h3⟩
    · rintro ⟨h1, j, hj, h2, h3⟩
      refine ⟨h1, j, hj, ?_, h3⟩
      rcases Nat.lt_succ_iff_lt_or_eq.1 h2 with k | rfl
      · exact k
      · exact absurd h3.symm hx
theorem field_step {ws : List (List UInt8)} {q : Nat} {m : List UInt8 → Option Bool} (hs : SeenIs ws q m) (hok : ∀ i (hi : i < ws.length), i < q → fieldAt ws i hi) (hq : q < ws.length) (h1 : isName (fieldN ws[q]) = true) (h2 : m (fieldN ws[q]) ≠ some true) : ∀ i (hi : i < ws.length), i < q + 1 → fieldAt ws i hi := by
  intro i hi hiq
  rcases Nat.lt_succ_iff_lt_or_eq.1 hiq with k | rfl
  · exact hok i hi k
  · refine ⟨h1, fun j hj e => ?_⟩
    refine Classical.byContradiction (fun hne => h2 ((hs _).2 ⟨hne, j, by omega, hj, e⟩))
theorem field_seen {ws : List (List UInt8)} {q : Nat} {m : List UInt8 → Option Bool} (hs : SeenIs ws q m) (hq : q < ws.length) (h2 : m (fieldN ws[q]) = some true) : ¬ fieldsP ws := by
  intro hf
  obtain ⟨hne, j, hj, hjq, e⟩ := (hs _).1 h2
  exact hne ((hf q hq).2 j hjq e)
attribute [local irreducible] AC AT AO AK AH ACalls Sub Res.cells Res.nix Res.own Res.map Exit.then Exit.inBlock bodyPost Code.wp Code.wpIn WL Next Post Kont
section
variable {W0 : World} {L : List Res} {F : List Fact} {R : Value → List Res → List Fact → Prop}
set_option maxRecDepth 100000
set_option maxHeartbeats 4000000
theorem trimp_c (s : List UInt8) (h : R (S (fieldN s)) L F) : ACalls Tryz.prog W0 153 #[S s, S [43]] L F R := by
  refine ACalls.lib0 (fun w _ => ?_) h
  have := Tryz.strings_TrimPrefix ⟨s.toArray⟩ ⟨#[43]⟩ w
  have e : Lib.trimPrefix (⟨s.toArray⟩ : ByteArray).data.toList (⟨#[43]⟩ : ByteArray).data.toList = fieldN s := trimp_eq s
  rw [e] at this
  exact this
theorem pmark_c (s : List UInt8) (hT : markP s → R (.bool true) L F) (hF : ¬ markP s → R (.bool false) L F) : ACalls Tryz.prog W0 205 #[S s] L F R := by
  refine ACalls.body Tryz.func205 rfl Tryz.ntmps205 rfl ?_
  refine AC.seq (AC.region (AL.go (AO.assign rfl rfl (AL.nil (AK.seqN (AC.seq ?_))))))
  refine AC.region (AL.go (AO.move rfl rfl ?_))
  refine AL.go (AO.eqlS rfl rfl rfl (fun c4 => ?_) (fun c4 => ?_))
  ·refine AL.go (AO.move rfl rfl (AL.no rfl rfl rfl rfl (AL.no rfl rfl rfl rfl (AL.go (AO.pickT rfl rfl rfl (AL.go (AO.assign rfl rfl (AL.nil ?_))))))))
   refine AK.seqN (AC.ret ?_)
   first | exact AK.ret Tryz.results205 rfl (Sub.refl _ _) (hT (Or.inl c4)) | exact AK.ret Tryz.results205 rfl (Sub.refl _ _) (hT (Or.inr c7)) | exact AK.ret Tryz.results205 rfl (Sub.refl _ _) (hF (fun e => e.elim c4 c7))
  ·refine AL.go (AO.move rfl rfl (AL.yes rfl rfl (AO.move rfl rfl ?_)))
   refine AL.yes rfl rfl (AO.eqlS rfl rfl rfl (fun c7 => ?_) (fun c7 => ?_))
   ·refine AL.go (AO.pickF rfl rfl rfl (AL.go (AO.assign rfl rfl (AL.nil (AK.seqN (AC.ret ?_))))))
    first | exact AK.ret Tryz.results205 rfl (Sub.refl _ _) (hT (Or.inl c4)) | exact AK.ret Tryz.results205 rfl (Sub.refl _ _) (hT (Or.inr c7)) | exact AK.ret Tryz.results205 rfl (Sub.refl _ _) (hF (fun e => e.elim c4 c7))
   ·refine AL.go (AO.pickF rfl rfl rfl (AL.go (AO.assign rfl rfl (AL.nil (AK.seqN (AC.ret ?_))))))
    first | exact AK.ret Tryz.results205 rfl (Sub.refl _ _) (hT (Or.inl c4)) | exact AK.ret Tryz.results205 rfl (Sub.refl _ _) (hT (Or.inr c7)) | exact AK.ret Tryz.results205 rfl (Sub.refl _ _) (hF (fun e => e.elim c4 c7))
theorem untyped_c (i : Int) (hT : 14 ≤ i ∧ i ≤ 19 → R (.bool true) L F) (hF : ¬(14 ≤ i ∧ i ≤ 19) → R (.bool false) L F) : ACalls Tryz.prog W0 206 #[.int .i64 i] L F R := by
  refine ACalls.body Tryz.func206 rfl Tryz.ntmps206 rfl ?_
  refine AC.seq (AC.region (AL.go (AO.assign rfl rfl (AL.nil (AK.seqN (AC.seq ?_))))))
  refine AC.region (AL.go (AO.move rfl rfl ?_))
  refine AL.go (AO.geq rfl rfl rfl (fun c4 => ?_) (fun c4 => ?_))
  ·refine AL.go (AO.move rfl rfl (AL.yes rfl rfl (AO.move rfl rfl ?_)))
   refine AL.yes rfl rfl (AO.leq rfl rfl rfl (fun c7 => ?_) (fun c7 => ?_))
   ·refine AL.go (AO.pickT rfl rfl rfl (AL.go (AO.assign rfl rfl (AL.nil (AK.seqN (AC.ret ?_))))))
    first | refine AK.ret Tryz.results206 rfl (Sub.refl _ _) (hT ?_) | refine AK.ret Tryz.results206 rfl (Sub.refl _ _) (hF ?_)
    omega
   ·refine AL.go (AO.pickT rfl rfl rfl (AL.go (AO.assign rfl rfl (AL.nil (AK.seqN (AC.ret ?_))))))
    first | refine AK.ret Tryz.results206 rfl (Sub.refl _ _) (hT ?_) | refine AK.ret Tryz.results206 rfl (Sub.refl _ _) (hF ?_)
    omega
  ·refine AL.go (AO.move rfl rfl (AL.no rfl rfl rfl rfl (AL.no rfl rfl rfl rfl (AL.go (AO.pickF rfl rfl rfl (AL.go (AO.assign rfl rfl (AL.nil ?_))))))))
   refine AK.seqN (AC.ret ?_)
   first | refine AK.ret Tryz.results206 rfl (Sub.refl _ _) (hT ?_) | refine AK.ret Tryz.results206 rfl (Sub.refl _ _) (hF ?_)
   omega
theorem bare_c (t : Ty) {a1 a2 : Option Addr} {k1 c1 k2 c2 : Nat} (m1 : fW t a1 k1 c1 ∈ F) (hT : t.name = [] ∧ t.words = [] → R (.bool true) L F) (hF : ¬(t.name = [] ∧ t.words = []) → R (.bool false) L F) :
    ACalls Tryz.prog W0 161 #[vTy t a1 k1 c1 a2 k2 c2] L F R := by
  refine ACalls.body Tryz.func161 rfl Tryz.ntmps161 rfl ?_
  refine AC.seq (AC.region (AL.go (AO.box rfl rfl (fun b1 => ?_))))
  refine AL.go (AO.assign rfl rfl (AL.nil (AK.seqN (AC.seq (AC.region (AL.go (AO.field rfl rfl ?_)))))))
  refine AL.go (AO.loadB rfl rfl ?_)
  refine AL.go (AO.eqlS rfl rfl rfl (fun c5 => ?_) (fun c5 => ?_))
  ·refine AL.go (AO.move rfl rfl (AL.yes rfl rfl (AO.field rfl rfl ?_)))
   refine AL.yes rfl rfl (AO.loadB rfl rfl ?_)
   refine AL.yes rfl rfl (AO.len rfl rfl (fun hl9 => ?_) (hm := by repeat (first | exact mem0 | assumption | refine memS ?_)))
   refine AL.yes rfl rfl (AO.eql rfl rfl rfl (fun c10 => ?_) (fun c10 => ?_))
   ·refine AL.go (AO.pickT rfl rfl rfl (AL.go (AO.assign rfl rfl (AL.nil (AK.seqN (AC.ret ?_))))))
    first | refine AK.ret (L' := L) (F' := F) Tryz.results161 rfl subA (hT ?_) | refine AK.ret (L' := L) (F' := F) Tryz.results161 rfl subA (hF ?_)
    first
    | exact ⟨c5, List.eq_nil_of_length_eq_zero (Int.ofNat.inj c10)⟩
    | exact fun e => c10 (by rw [e.2]; rfl)
    | exact fun e => c5 e.1
   ·refine AL.go (AO.pickT rfl rfl rfl (AL.go (AO.assign rfl rfl (AL.nil (AK.seqN (AC.ret ?_))))))
    first | refine AK.ret (L' := L) (F' := F) Tryz.results161 rfl subA (hT ?_) | refine AK.ret (L' := L) (F' := F) Tryz.results161 rfl subA (hF ?_)
    first
    | exact ⟨c5, List.eq_nil_of_length_eq_zero (Int.ofNat.inj c10)⟩
    | exact fun e => c10 (by rw [e.2]; rfl)
    | exact fun e => c5 e.1
  ·refine AL.go (AO.move rfl rfl (AL.no rfl rfl rfl rfl (AL.no rfl rfl rfl rfl (AL.no rfl rfl rfl rfl (AL.no rfl rfl rfl rfl (AL.go (AO.pickF rfl rfl rfl ?_)))))))
   refine AL.go (AO.assign rfl rfl (AL.nil (AK.seqN (AC.ret ?_))))
   first | refine AK.ret (L' := L) (F' := F) Tryz.results161 rfl subA (hT ?_) | refine AK.ret (L' := L) (F' := F) Tryz.results161 rfl subA (hF ?_)
   first
   | exact ⟨c5, List.eq_nil_of_length_eq_zero (Int.ofNat.inj c10)⟩
   | exact fun e => c10 (by rw [e.2]; rfl)
   | exact fun e => c5 e.1
theorem fields_c (t : Ty) {a1 a2 : Option Addr} {k1 c1 k2 c2 : Nat} (m1 : fW t a1 k1 c1 ∈ F) (m2 : fK t a2 k2 c2 ∈ F) (hT : fieldsP t.words ∧ t.name = [] ∧ t.n = 0 ∧ t.words.length = t.kids.length → R (.bool true) L F)
    (hF : ¬(fieldsP t.words ∧ t.name = [] ∧ t.n = 0 ∧ t.words.length = t.kids.length) → R (.bool false) L F) : ACalls Tryz.prog W0 162 #[vTy t a1 k1 c1 a2 k2 c2] L F R := by
  refine ACalls.body Tryz.func162 rfl Tryz.ntmps162 rfl ?_
  refine AC.seq (AC.region (AL.go (AO.box rfl rfl (fun b1 => ?_))))
  refine AL.go (AO.assign rfl rfl (AL.nil (AK.seqN (AC.seq (AC.region ?_)))))
  refine AL.go (AO.makeMap S Value.bool rfl (fun b7 => ?_))
  refine AL.go (AO.assign rfl rfl (AL.nil (AK.seqN (AC.seq (AC.seq (AC.region ?_))))))
  refine AL.go (AO.field rfl rfl ?_)
  refine AL.go (AO.loadB rfl rfl ?_)
  refine AL.go (AO.len rfl rfl (fun hl10 => ?_) (hm := by repeat (first | exact mem0 | assumption | refine memS ?_)))
  refine AL.go (AO.move rfl rfl (AL.nil (AK.seqN (AC.block ?_))))
  refine AC.loop (fun (i : Nat × (List UInt8 → Option Bool)) => i.1 ≤ t.words.length ∧ SeenIs t.words i.1 i.2 ∧ ∀ j (hj : j < t.words.length), j < i.1 → fieldAt t.words j hj) (fun i => [(1, .pointer (some ⟨b1, 0, none⟩)), (3, .map (some b7)), (9, .slice a1 k1 c1), (10, .int .i64 t.words.length), (11, .int .i64 (i.1 : Int))]) (fun i => Res.map b7 S Value.bool i.2 :: _) (fun _ => F) (fun i => t.words.length - i.1) (0, fun _ => none) ⟨by omega, SeenIs.zero _, by omega⟩ srA (Sub.refl _ _) ?_
  rintro ⟨q, m⟩ ⟨hq, hseen, hok⟩
  simp only at hq hseen hok ⊢
  refine AC.seq (AC.region ?_)
  refine AL.go (AO.lss rfl rfl rfl (fun c12 => ?_) (fun c12 => ?_))
  ·refine AL.nil (AK.seqN (AC.seq (AC.condT rfl (AC.skip (AK.seqN ?_)))))
   refine AC.seq (AC.block (AC.seq (AC.region ?_)))
   have hql : q < t.words.length := by omega
   refine AL.go (AO.indexAddr rfl rfl rfl rfl memA hql (fun _ _ => ?_))
   refine AL.go (AO.loadF rfl rfl ?_)
   intros
   refine AL.go (AO.assign rfl rfl (AL.nil (AK.seqN (AC.seq (AC.region (AL.go (AO.move rfl rfl ?_)))))))
   refine AL.go (AO.call rfl rfl (trimp_c t.words[q] ?_))
   refine AL.go (AO.assign rfl rfl (AL.nil (AK.seqN (AC.seq (AC.seq (AC.region ?_))))))
   refine AL.go (AO.move rfl rfl ?_)
   refine AL.go (AO.call rfl rfl (src_Name_c (fieldN t.words[q]) (fun c18 => ?_) (fun c18 => ?_)))
   ·refine AL.go (AO.not rfl rfl (AL.go (AO.move rfl rfl (AL.yes rfl rfl (AO.move rfl rfl (AL.yes rfl rfl (AO.move rfl rfl ?_)))))))
    refine AL.yes rfl rfl (AO.lookupB (kenc := S) (m := m) (i := 0) (fieldN t.words[q]) rfl rfl rfl (by rfl) (fun c23 => ?_) (fun c23 => ?_))
    ·refine AL.go (AO.pickF rfl rfl rfl (AL.nil (AK.seqN (AC.condT rfl (AC.seq (AC.region ?_))))))
     refine AL.go (AO.assign rfl rfl (AL.nil (AK.seqN (AC.ret (AK.seqR (AK.blkR ?_))))))
     refine AK.seqR (AK.seqR (AK.blkR (AK.seqR ?_)))
     first | refine AK.ret (L' := L) (F' := F) Tryz.results162 rfl subA (hT ?_) | refine AK.ret (L' := L) (F' := F) Tryz.results162 rfl subA (hF ?_)
     first
     | exact ⟨fun i hi => hok i hi (by omega), c32, c36, by omega⟩
     | exact fun e => field_seen hseen hql c23 e.1
     | exact fun e => absurd (e.1 q hql).1 (by rw [c18]; decide)
     | exact fun e => c32 e.2.1
     | exact fun e => c36 e.2.2.1
     | exact fun e => c45 (by rw [e.2.2.2])
    ·refine AL.go (AO.pickF rfl rfl rfl (AL.nil (AK.seqN (AC.condF rfl (AC.skip (AK.seqN ?_))))))
     refine AC.region (AL.go (AO.move rfl rfl (AL.go (AO.move rfl rfl (AL.go (AO.move rfl rfl ?_))))))
     refine AL.go (AO.neqS rfl rfl rfl (fun c28 => ?_) (fun c28 => ?_))
     ·refine AL.go (AO.mapUpdate (kenc := S) (venc := Value.bool) (m := m) (i := 0) (fieldN t.words[q]) true rfl rfl rfl (by rfl) ?_)
      refine AL.nil (AK.blkN (AK.seqN (AC.region (AL.go (AO.add rfl rfl rfl (by omega) (by omega) (AL.go (AO.move rfl rfl ?_)))))))
      refine AL.nil ?_
      first | refine AK.next (q + 1, upd m (fieldN t.words[q]) true) ⟨by simp only; omega, hseen.step hql ⟨fun _ => c28, fun _ => rfl⟩, field_step hseen hok hql c18 c23⟩ (by simp only; omega) srA subF | refine AK.next (q + 1, upd m (fieldN t.words[q]) false) ⟨by simp only; omega, hseen.step hql ⟨fun e => absurd e (by decide), fun e => absurd c28 e⟩, field_step hseen hok hql c18 c23⟩ (by simp only; omega) srA subF
     ·refine AL.go (AO.mapUpdate (kenc := S) (venc := Value.bool) (m := m) (i := 0) (fieldN t.words[q]) false rfl rfl rfl (by rfl) ?_)
      refine AL.nil (AK.blkN (AK.seqN (AC.region (AL.go (AO.add rfl rfl rfl (by omega) (by omega) (AL.go (AO.move rfl rfl ?_)))))))
      refine AL.nil ?_
      first | refine AK.next (q + 1, upd m (fieldN t.words[q]) true) ⟨by simp only; omega, hseen.step hql ⟨fun _ => c28, fun _ => rfl⟩, field_step hseen hok hql c18 c23⟩ (by simp only; omega) srA subF | refine AK.next (q + 1, upd m (fieldN t.words[q]) false) ⟨by simp only; omega, hseen.step hql ⟨fun e => absurd e (by decide), fun e => absurd c28 e⟩, field_step hseen hok hql c18 c23⟩ (by simp only; omega) srA subF
   ·refine AL.go (AO.not rfl rfl (AL.go (AO.move rfl rfl (AL.no rfl rfl rfl rfl (AL.no rfl rfl rfl rfl (AL.no rfl rfl rfl rfl (AL.go (AO.pickT rfl rfl rfl ?_))))))))
    refine AL.nil (AK.seqN (AC.condT rfl (AC.seq (AC.region (AL.go (AO.assign rfl rfl ?_))))))
    refine AL.nil (AK.seqN (AC.ret (AK.seqR (AK.blkR (AK.seqR ?_)))))
    refine AK.seqR (AK.blkR (AK.seqR ?_))
    first | refine AK.ret (L' := L) (F' := F) Tryz.results162 rfl subA (hT ?_) | refine AK.ret (L' := L) (F' := F) Tryz.results162 rfl subA (hF ?_)
    first
    | exact ⟨fun i hi => hok i hi (by omega), c32, c36, by omega⟩
    | exact fun e => field_seen hseen hql c23 e.1
    | exact fun e => absurd (e.1 q hql).1 (by rw [c18]; decide)
    | exact fun e => c32 e.2.1
    | exact fun e => c36 e.2.2.1
    | exact fun e => c45 (by rw [e.2.2.2])
  ·refine AL.nil (AK.seqN (AC.seq (AC.condF rfl (AC.exit (AK.seqX ?_)))))
   refine AK.seqX (AK.blkX (AK.seqN (AC.seq (AC.region (AL.go (AO.field rfl rfl ?_))))))
   refine AL.go (AO.loadB rfl rfl ?_)
   refine AL.go (AO.eqlS rfl rfl rfl (fun c32 => ?_) (fun c32 => ?_))
   ·refine AL.go (AO.move rfl rfl (AL.yes rfl rfl (AO.field rfl rfl ?_)))
    refine AL.yes rfl rfl (AO.loadB rfl rfl ?_)
    refine AL.yes rfl rfl (AO.eql rfl rfl rfl (fun c36 => ?_) (fun c36 => ?_))
    ·refine AL.go (AO.pickT rfl rfl rfl (AL.go (AO.move rfl rfl (AL.yes rfl rfl (AO.field rfl rfl ?_)))))
     refine AL.yes rfl rfl (AO.loadB rfl rfl ?_)
     refine AL.yes rfl rfl (AO.len rfl rfl (fun hl41 => ?_) (hm := by repeat (first | exact mem0 | assumption | refine memS ?_)))
     refine AL.yes rfl rfl (AO.field rfl rfl ?_)
     refine AL.yes rfl rfl (AO.loadB rfl rfl ?_)
     refine AL.yes rfl rfl (AO.len rfl rfl (fun hl44 => ?_) (hm := by repeat (first | exact mem0 | assumption | refine memS ?_)))
     refine AL.yes rfl rfl (AO.eql rfl rfl rfl (fun c45 => ?_) (fun c45 => ?_))
     ·refine AL.go (AO.pickT rfl rfl rfl (AL.go (AO.assign rfl rfl (AL.nil (AK.seqN (AC.ret ?_))))))
      first | refine AK.ret (L' := L) (F' := F) Tryz.results162 rfl subA (hT ?_) | refine AK.ret (L' := L) (F' := F) Tryz.results162 rfl subA (hF ?_)
      first
      | exact ⟨fun i hi => hok i hi (by omega), c32, c36, by omega⟩
      | exact fun e => field_seen hseen hql c23 e.1
      | exact fun e => absurd (e.1 q hql).1 (by rw [c18]; decide)
      | exact fun e => c32 e.2.1
      | exact fun e => c36 e.2.2.1
      | exact fun e => c45 (by rw [e.2.2.2])
     ·refine AL.go (AO.pickT rfl rfl rfl (AL.go (AO.assign rfl rfl (AL.nil (AK.seqN (AC.ret ?_))))))
      first | refine AK.ret (L' := L) (F' := F) Tryz.results162 rfl subA (hT ?_) | refine AK.ret (L' := L) (F' := F) Tryz.results162 rfl subA (hF ?_)
      first
      | exact ⟨fun i hi => hok i hi (by omega), c32, c36, by omega⟩
      | exact fun e => field_seen hseen hql c23 e.1
      | exact fun e => absurd (e.1 q hql).1 (by rw [c18]; decide)
      | exact fun e => c32 e.2.1
      | exact fun e => c36 e.2.2.1
      | exact fun e => c45 (by rw [e.2.2.2])
    ·refine AL.go (AO.pickT rfl rfl rfl (AL.go (AO.move rfl rfl (AL.no rfl rfl rfl rfl (AL.no rfl rfl rfl rfl (AL.no rfl rfl rfl rfl (AL.no rfl rfl rfl rfl ?_)))))))
     refine AL.no rfl rfl rfl rfl (AL.no rfl rfl rfl rfl (AL.no rfl rfl rfl rfl (AL.go (AO.pickF rfl rfl rfl (AL.go (AO.assign rfl rfl (AL.nil ?_)))))))
     refine AK.seqN (AC.ret ?_)
     first | refine AK.ret (L' := L) (F' := F) Tryz.results162 rfl subA (hT ?_) | refine AK.ret (L' := L) (F' := F) Tryz.results162 rfl subA (hF ?_)
     first
     | exact ⟨fun i hi => hok i hi (by omega), c32, c36, by omega⟩
     | exact fun e => field_seen hseen hql c23 e.1
     | exact fun e => absurd (e.1 q hql).1 (by rw [c18]; decide)
     | exact fun e => c32 e.2.1
     | exact fun e => c36 e.2.2.1
     | exact fun e => c45 (by rw [e.2.2.2])
   ·refine AL.go (AO.move rfl rfl (AL.no rfl rfl rfl rfl (AL.no rfl rfl rfl rfl (AL.no rfl rfl rfl rfl (AL.go (AO.pickF rfl rfl rfl (AL.go (AO.move rfl rfl ?_))))))))
    refine AL.no rfl rfl rfl rfl (AL.no rfl rfl rfl rfl (AL.no rfl rfl rfl rfl (AL.no rfl rfl rfl rfl (AL.no rfl rfl rfl rfl (AL.no rfl rfl rfl rfl ?_)))))
    refine AL.no rfl rfl rfl rfl (AL.go (AO.pickF rfl rfl rfl (AL.go (AO.assign rfl rfl (AL.nil (AK.seqN (AC.ret ?_)))))))
    first | refine AK.ret (L' := L) (F' := F) Tryz.results162 rfl subA (hT ?_) | refine AK.ret (L' := L) (F' := F) Tryz.results162 rfl subA (hF ?_)
    first
    | exact ⟨fun i hi => hok i hi (by omega), c32, c36, by omega⟩
    | exact fun e => field_seen hseen hql c23 e.1
    | exact fun e => absurd (e.1 q hql).1 (by rw [c18]; decide)
    | exact fun e => c32 e.2.1
    | exact fun e => c36 e.2.2.1
    | exact fun e => c45 (by rw [e.2.2.2])
theorem named_c (g : Glob W0) (s : List UInt8) (hs : s.length < 4294967281) (hT : namedP s → R (.bool true) L F) (hF : ¬ namedP s → R (.bool false) L F) : ACalls Tryz.prog W0 164 #[S s] L F R := by
  refine ACalls.body Tryz.func164 rfl Tryz.ntmps164 rfl ?_
  refine AC.seq (AC.region (AL.go (AO.assign rfl rfl (AL.nil (AK.seqN (AC.seq ?_))))))
  refine AC.region (AL.go (AO.move rfl rfl ?_))
  refine AL.go (AO.call rfl rfl (cut_c g s 46 hs ?_))
  cases c8 : (cutD 46 s).2.2
  rotate_left
  ·refine AL.go (AO.move rfl rfl (AL.go (AO.extract rfl rfl rfl (AL.go (AO.extract rfl rfl rfl (AL.go (AO.extract rfl rfl rfl (AL.go (AO.assign rfl rfl (AL.go (AO.assign rfl rfl ?_)))))))))))
   refine AL.go (AO.assign rfl rfl (AL.nil (AK.seqN (AC.seq (AC.region (AL.go (AO.move rfl rfl ?_)))))))
   refine AL.go (AO.move rfl rfl (AL.yes rfl rfl (AO.move rfl rfl ?_)))
   refine AL.yes rfl rfl (AO.call rfl rfl (src_Name_c _ (fun c15 => ?_) (fun c15 => ?_)))
   ·refine AL.go (AO.pickT rfl rfl rfl (AL.go (AO.move rfl rfl (AL.yes rfl rfl (AO.move rfl rfl ?_)))))
    refine AL.yes rfl rfl (AO.call rfl rfl (src_Name_c _ (fun c19 => ?_) (fun c19 => ?_)))
    ·refine AL.go (AO.pickT rfl rfl rfl (AL.go (AO.assign rfl rfl (AL.nil (AK.seqN (AC.ret ?_))))))
     first | refine AK.ret Tryz.results164 rfl (Sub.refl _ _) (hT ?_) | refine AK.ret Tryz.results164 rfl (Sub.refl _ _) (hF ?_)
     first
     | exact ⟨c8, c15, c19⟩
     | exact fun e => absurd e.2.2 (by rw [c19]; decide)
     | exact fun e => absurd e.2.1 (by rw [c15]; decide)
     | exact fun e => absurd e.1 (by rw [c8]; decide)
    ·refine AL.go (AO.pickT rfl rfl rfl (AL.go (AO.assign rfl rfl (AL.nil (AK.seqN (AC.ret ?_))))))
     first | refine AK.ret Tryz.results164 rfl (Sub.refl _ _) (hT ?_) | refine AK.ret Tryz.results164 rfl (Sub.refl _ _) (hF ?_)
     first
     | exact ⟨c8, c15, c19⟩
     | exact fun e => absurd e.2.2 (by rw [c19]; decide)
     | exact fun e => absurd e.2.1 (by rw [c15]; decide)
     | exact fun e => absurd e.1 (by rw [c8]; decide)
   ·refine AL.go (AO.pickT rfl rfl rfl (AL.go (AO.move rfl rfl (AL.no rfl rfl rfl rfl (AL.no rfl rfl rfl rfl (AL.go (AO.pickF rfl rfl rfl (AL.go (AO.assign rfl rfl ?_)))))))))
    refine AL.nil (AK.seqN (AC.ret ?_))
    first | refine AK.ret Tryz.results164 rfl (Sub.refl _ _) (hT ?_) | refine AK.ret Tryz.results164 rfl (Sub.refl _ _) (hF ?_)
    first
    | exact ⟨c8, c15, c19⟩
    | exact fun e => absurd e.2.2 (by rw [c19]; decide)
    | exact fun e => absurd e.2.1 (by rw [c15]; decide)
    | exact fun e => absurd e.1 (by rw [c8]; decide)
  ·refine AL.go (AO.move rfl rfl (AL.go (AO.extract rfl rfl rfl (AL.go (AO.extract rfl rfl rfl (AL.go (AO.extract rfl rfl rfl (AL.go (AO.assign rfl rfl (AL.go (AO.assign rfl rfl ?_)))))))))))
   refine AL.go (AO.assign rfl rfl (AL.nil (AK.seqN (AC.seq (AC.region (AL.go (AO.move rfl rfl ?_)))))))
   refine AL.go (AO.move rfl rfl (AL.no rfl rfl rfl rfl (AL.no rfl rfl rfl rfl (AL.go (AO.pickF rfl rfl rfl (AL.go (AO.move rfl rfl (AL.no rfl rfl rfl rfl ?_))))))))
   refine AL.no rfl rfl rfl rfl (AL.go (AO.pickF rfl rfl rfl (AL.go (AO.assign rfl rfl (AL.nil (AK.seqN (AC.ret ?_)))))))
   first | refine AK.ret Tryz.results164 rfl (Sub.refl _ _) (hT ?_) | refine AK.ret Tryz.results164 rfl (Sub.refl _ _) (hF ?_)
   first
   | exact ⟨c8, c15, c19⟩
   | exact fun e => absurd e.2.2 (by rw [c19]; decide)
   | exact fun e => absurd e.2.1 (by rw [c15]; decide)
   | exact fun e => absurd e.1 (by rw [c8]; decide)
end
end Go.Sy
namespace Go.Sy
open Go Go.Proofs Go.RowKit
theorem kind_get {l : List Ty} {k : Int} {j : Nat} (hk : k = (j : Int)) (hj : j < l.length) : kindAt l k = l[j].kind := by
  subst hk; unfold kindAt; simp [List.getElem?_eq_getElem hj]
theorem kid_get {t : Ty} {i : Nat} (hi : i < t.kids.length) : kidAt t i = t.kids[i] := by unfold kidAt; simp [List.getD, List.getElem?_eq_getElem hi]
theorem word_get {ws : List (List UInt8)} {i : Nat} (hi : i < ws.length) : ws.getD i [] = ws[i] := by simp [List.getD, List.getElem?_eq_getElem hi]
theorem kid_nat {l : List Ty} {t : Ty} (h : kidsP l t) {i : Nat} (hi : i < t.kids.length) : t.kids[i] = ((t.kids[i].toNat : Nat) : Int) ∧ t.kids[i].toNat < l.length := by
  have := h _ (List.getElem_mem hi)
  omega
theorem kids_yes {l : List Ty} {t : Ty} (h : ∀ j (hj : j < t.kids.length), ¬(t.kids[j] < 0 ∨ t.kids[j] ≥ l.length)) : kidsP l t := by
  intro k hk
  obtain ⟨j, hj, rfl⟩ := List.getElem_of_mem hk
  have := h j hj
  omega
theorem nil_of {α : Type} {l : List α} (h : (l.length : Int) = 0) : l = [] := List.eq_nil_of_length_eq_zero (by omega)
theorem bytes_tri : ∀ a b : List UInt8, (Op.bytesLess a b || a == b) = false → Op.bytesLess b a = true
  | [], [], h => by simp at h
  | [], _ :: _, h => by simp [Op.bytesLess] at h
  | _ :: _, [], _ => by simp [Op.bytesLess]
  | x :: a, y :: b, h => by
    have ih := bytes_tri a b
    have hl : ∀ (x y : UInt8) (a b : List UInt8), Op.bytesLess (x :: a) (y :: b) = true ↔ x < y ∨ x = y ∧ Op.bytesLess a b = true := by
      intro x y a b; simp [Op.bytesLess]
    rw [Bool.or_eq_false_iff] at h
    have h1 : ¬ (x < y ∨ x = y ∧ Op.bytesLess a b = true) := fun e => by rw [(hl x y a b).2 e] at h; exact absurd h.1 (by decide)
    rw [hl]
    by_cases e : x = y
    · subst e
      right
      refine ⟨rfl, ih ?_⟩
      have e1 : Op.bytesLess a b = false := by
        cases hb : Op.bytesLess a b with
        | false => rfl
        | true => exact absurd (Or.inr ⟨rfl, hb⟩) h1
      have e2 : (a == b) = false := by
        have := h.2
        simpa using this
      rw [e1, e2]; rfl
    · left
      have h2 : ¬ x < y := fun k => h1 (Or.inl k)
      rw [UInt8.lt_iff_toNat_lt] at h2 ⊢
      have h3 : x.toNat ≠ y.toNat := fun k => e (UInt8.toNat_inj.1 k)
      omega
theorem bytes_asym : ∀ a b : List UInt8, Op.bytesLess b a = true → (Op.bytesLess a b || a == b) = false
  | [], [], h => by simp [Op.bytesLess] at h
  | [], _ :: _, h => by simp [Op.bytesLess] at h
  | _ :: _, [], _ => by simp [Op.bytesLess]
  | x :: a, y :: b, h => by
    have ih := bytes_asym a b
    have hl : ∀ (x y : UInt8) (a b : List UInt8), Op.bytesLess (x :: a) (y :: b) = true ↔ x < y ∨ x = y ∧ Op.bytesLess a b = true := by
      intro x y a b; simp [Op.bytesLess]
    rw [hl] at h
    rcases h with h | ⟨rfl, h⟩
    · have hlt := UInt8.lt_iff_toNat_lt.1 h
      have e1 : Op.bytesLess (x :: a) (y :: b) = false := by
        cases hb : Op.bytesLess (x :: a) (y :: b) with
        | false => rfl
        | true =>
          rcases (hl x y a b).1 hb with k | ⟨k, _⟩
          · have := UInt8.lt_iff_toNat_lt.1 k; omega
          · subst k; omega
      have e2 : (x :: a == y :: b) = false := by
        have : x ≠ y := fun k => by subst k; omega
        simp [this]
      rw [e1, e2]; rfl
    · have := ih h
      rw [Bool.or_eq_false_iff] at this ⊢
      refine ⟨?_, ?_⟩
      · cases hb : Op.bytesLess (y :: a) (y :: b) with
        | false => rfl
        | true =>
          rcases (hl y y a b).1 hb with k | ⟨_, k⟩
          · have := UInt8.lt_iff_toNat_lt.1 k; omega
          · rw [this.1] at k; exact absurd k (by decide)
      · simpa using this.2
theorem leq_nil {w : List UInt8} (h : (Op.bytesLess w [] || w == []) = true) : w = [] := by
  cases w with
  | nil => rfl
  | cons x r => simp [Op.bytesLess] at h
theorem mark_nil : ¬ markP [] := fun e => e.elim (fun k => by simp at k) (fun k => by simp at k)
attribute [local irreducible] AC AT AO AK AH ACalls Sub Res.cells Res.nix Res.own Res.map Exit.then Exit.inBlock bodyPost Code.wp Code.wpIn WL Next Post Kont
section
variable {W0 : World} {L : List Res} {F : List Fact} {R : Value → List Res → List Fact → Prop}
set_option maxRecDepth 100000
set_option maxHeartbeats 4000000
def TellsI (P : Program) (W0 : World) (L : List Res) (F : List Fact) (g : FuncId) (cs : List Value) (p : Int → Prop) : Prop :=
  ∀ (s : Int) (F' : List Fact) (_ : ∀ f ∈ F, f ∈ F') (R : Value → List Res → List Fact → Prop), (p s → R (.bool true) L F') → (¬ p s → R (.bool false) L F') → ACalls P W0 g ([Value.int .i64 s] ++ cs).toArray L F' R
theorem indexFuncI_c (l : List Int) {a : Option Addr} {k c : Nat} (m1 : Fact.slc (.slice a k c) 1 (l.map eI) ∈ F) (g : FuncId) [FnT Tryz.prog g] (cs : List Value) (p : Int → Prop) (hg : TellsI Tryz.prog W0 L F g cs p)
    (hT : ∀ (j : Nat) (hj : j < l.length), p l[j] → R (.int .i64 (j : Int)) L F) (hF : (∀ j (hj : j < l.length), ¬ p l[j]) → R (.int .i64 (-1)) L F) : ACalls Tryz.prog W0 166 #[.slice a k c, .func (.func g) #[] cs.toArray] L F R := by
  refine ACalls.body Tryz.func166 rfl Tryz.ntmps166 rfl ?_
  refine AC.seq (AC.region (AL.go (AO.assign rfl rfl (AL.nil (AK.seqN (AC.seq ?_))))))
  refine AC.seq (AC.region (AL.go (AO.move rfl rfl ?_)))
  refine AL.go (AO.len rfl rfl (fun hl7 => ?_) (hm := by repeat (first | exact mem0 | assumption | refine memS ?_)))
  refine AL.go (AO.move rfl rfl (AL.nil (AK.seqN (AC.block ?_))))
  refine AC.loopC (fun (q : Nat) => q ≤ l.length ∧ ∀ j (hj : j < l.length), j < q → ¬ p l[j]) (fun q => [(0, .slice a k c), (1, .func (.func g) #[] cs.toArray), (7, .int .i64 l.length), (8, .int .i64 (q : Int))]) (fun q => l.length - q) 0 ⟨by omega, by omega⟩ srA ?_
  rintro q ⟨hq, hok⟩
  refine AC.seq (AC.region ?_)
  refine AL.go (AO.lss rfl rfl rfl (fun c9 => ?_) (fun c9 => ?_))
  ·refine AL.nil (AK.seqN (AC.seq (AC.condT rfl (AC.skip (AK.seqN ?_)))))
   refine AC.seq (AC.block (AC.seq (AC.region (AL.go (AO.move rfl rfl (AL.go (AO.assign rfl rfl ?_)))))))
   refine AL.nil (AK.seqN (AC.seq (AC.region (AL.go (AO.move rfl rfl (AL.go (AO.move rfl rfl ?_)))))))
   refine AL.go (AO.move rfl rfl ?_)
   have hql : q < l.length := by omega
   refine AL.go (AO.indexAddr rfl rfl rfl rfl memA hql (fun _ _ => ?_))
   refine AL.go (AO.loadF rfl rfl ?_)
   intros
   refine AL.go (AO.callC rfl rfl rfl (hg l[q] _ (fun f hf => List.mem_cons_of_mem _ hf) _ (fun c16 => ?_) (fun c16 => ?_)))
   ·refine AL.nil (AK.seqN (AC.condT rfl (AC.seq (AC.region (AL.go (AO.move rfl rfl ?_))))))
    refine AL.go (AO.assign rfl rfl (AL.nil (AK.seqN (AC.ret (AK.blkR (AK.seqR ?_))))))
    refine AK.seqR (AK.blkR (AK.seqR ?_))
    first | exact AK.ret (L' := L) (F' := F) Tryz.results166 rfl subF (hT q hql c16) | exact AK.ret (L' := L) (F' := F) Tryz.results166 rfl subF (hF (fun j hj => hok j hj (by omega)))
   ·refine AL.nil (AK.seqN (AC.condF rfl (AC.skip (AK.blkN (AK.seqN ?_)))))
    refine AC.region (AL.go (AO.add rfl rfl rfl (by omega) (by omega) (AL.go (AO.move rfl rfl (AL.nil ?_)))))
    refine AK.next (q + 1) ⟨by omega, fun j hj hjq => ?_⟩ (by omega) srA subF
    rcases Nat.lt_succ_iff_lt_or_eq.1 hjq with k9 | rfl
    · exact hok j hj k9
    · exact c16
  ·refine AL.nil (AK.seqN (AC.seq (AC.condF rfl (AC.exit (AK.seqX ?_)))))
   refine AK.seqX (AK.blkX (AK.seqN (AC.seq (AC.region (AL.go (AO.assign rfl rfl ?_))))))
   refine AL.nil (AK.seqN (AC.ret ?_))
   first | exact AK.ret (L' := L) (F' := F) Tryz.results166 rfl subF (hT q hql c16) | exact AK.ret (L' := L) (F' := F) Tryz.results166 rfl subF (hF (fun j hj => hok j hj (by omega)))
theorem containsFuncI_c (l : List Int) {a : Option Addr} {k c : Nat} (m1 : Fact.slc (.slice a k c) 1 (l.map eI) ∈ F) (g : FuncId) [FnT Tryz.prog g] (cs : List Value) (p : Int → Prop) (hg : TellsI Tryz.prog W0 L F g cs p)
    (hT : (¬ ∀ j (hj : j < l.length), ¬ p l[j]) → R (.bool true) L F) (hF : (∀ j (hj : j < l.length), ¬ p l[j]) → R (.bool false) L F) : ACalls Tryz.prog W0 106 #[.slice a k c, .func (.func g) #[] cs.toArray] L F R := by
  refine ACalls.body Tryz.func106 rfl Tryz.ntmps106 rfl ?_
  refine AC.seq (AC.region (AL.go (AO.assign rfl rfl (AL.nil (AK.seqN (AC.seq ?_))))))
  refine AC.region (AL.go (AO.move rfl rfl (AL.go (AO.move rfl rfl ?_))))
  refine AL.go (AO.call rfl rfl (indexFuncI_c l m1 g cs p hg (fun j7 hj7 c7 => ?_) (fun c7 => ?_)))
  ·refine AL.go (AO.geq rfl rfl rfl (fun c8 => ?_) (fun c8 => absurd c8 (by omega)))
   refine AL.go (AO.assign rfl rfl (AL.nil (AK.seqN (AC.ret ?_))))
   first | exact AK.ret (L' := L) (F' := F) Tryz.results106 rfl subF (hT (fun e => e j7 hj7 c7)) | exact AK.ret (L' := L) (F' := F) Tryz.results106 rfl subF (hF c7)
  ·refine AL.go (AO.geq rfl rfl rfl (fun c8 => absurd c8 (by omega)) (fun c8 => ?_))
   refine AL.go (AO.assign rfl rfl (AL.nil (AK.seqN (AC.ret ?_))))
   first | exact AK.ret (L' := L) (F' := F) Tryz.results106 rfl subF (hT (fun e => e j7 hj7 c7)) | exact AK.ret (L' := L) (F' := F) Tryz.results106 rfl subF (hF c7)
theorem made1_c (l : List Ty) (s : Int) {a3 : Option Addr} {k3 c3 b i : Nat} {ty : TypeId} (m3 : fL l a3 k3 c3 ∈ F) (hb : L[i]? = some (Res.cells b #[.slice a3 k3 c3] ty)) (hT : s < 0 ∨ s ≥ l.length → R (.bool true) L F) (hF : ¬(s < 0 ∨ s ≥ l.length) → R (.bool false) L F) :
    ACalls Tryz.prog W0 160 #[.int .i64 s, .pointer (some ⟨b, 0, none⟩)] L F R := by
  refine ACalls.body Tryz.func160 rfl Tryz.ntmps160 rfl ?_
  refine AC.seq (AC.region (AL.go (AO.assign rfl rfl (AL.nil (AK.seqN (AC.seq ?_))))))
  refine AC.region (AL.go (AO.move rfl rfl ?_))
  refine AL.go (AO.lss rfl rfl rfl (fun c5 => ?_) (fun c5 => ?_))
  ·refine AL.go (AO.move rfl rfl (AL.no rfl rfl rfl rfl (AL.no rfl rfl rfl rfl (AL.no rfl rfl rfl rfl (AL.no rfl rfl rfl rfl (AL.go (AO.pickT rfl rfl rfl ?_)))))))
   refine AL.go (AO.assign rfl rfl (AL.nil (AK.seqN (AC.ret ?_))))
   first | exact AK.ret (L' := L) (F' := F) Tryz.results160 rfl subF (hT (Or.inl c5)) | exact AK.ret (L' := L) (F' := F) Tryz.results160 rfl subF (hT (Or.inr c10)) | exact AK.ret (L' := L) (F' := F) Tryz.results160 rfl subF (hF (by omega))
  ·refine AL.go (AO.move rfl rfl (AL.yes rfl rfl (AO.move rfl rfl ?_)))
   refine AL.yes rfl rfl (AO.loadB (cs := [.slice a3 k3 c3]) rfl rfl ?_ (hi := hb) (hv := rfl))
   refine AL.yes rfl rfl (AO.len rfl rfl (fun hl9 => ?_) (hm := m3))
   refine AL.yes rfl rfl (AO.geq rfl rfl rfl (fun c10 => ?_) (fun c10 => ?_))
   ·refine AL.go (AO.pickF rfl rfl rfl (AL.go (AO.assign rfl rfl (AL.nil (AK.seqN (AC.ret ?_))))))
    first | exact AK.ret (L' := L) (F' := F) Tryz.results160 rfl subF (hT (Or.inl c5)) | exact AK.ret (L' := L) (F' := F) Tryz.results160 rfl subF (hT (Or.inr c10)) | exact AK.ret (L' := L) (F' := F) Tryz.results160 rfl subF (hF (by omega))
   ·refine AL.go (AO.pickF rfl rfl rfl (AL.go (AO.assign rfl rfl (AL.nil (AK.seqN (AC.ret ?_))))))
    first | exact AK.ret (L' := L) (F' := F) Tryz.results160 rfl subF (hT (Or.inl c5)) | exact AK.ret (L' := L) (F' := F) Tryz.results160 rfl subF (hT (Or.inr c10)) | exact AK.ret (L' := L) (F' := F) Tryz.results160 rfl subF (hF (by omega))
theorem elems_c (l : List Ty) (t : Ty) (hk : kidsP l t) {a1 a2 a3 : Option Addr} {k1 c1 k2 c2 k3 c3 : Nat} (m1 : fW t a1 k1 c1 ∈ F) (m2 : fK t a2 k2 c2 ∈ F) (m3 : fL l a3 k3 c3 ∈ F)
    (hT : elemsP l t ∧ t.name = [] → R (.bool true) L F) (hF : ¬(elemsP l t ∧ t.name = []) → R (.bool false) L F) : ACalls Tryz.prog W0 163 #[.slice a3 k3 c3, vTy t a1 k1 c1 a2 k2 c2] L F R := by
  refine ACalls.body Tryz.func163 rfl Tryz.ntmps163 rfl ?_
  refine AC.seq (AC.region (AL.go (AO.box rfl rfl (fun b3 => ?_))))
  refine AL.go (AO.assign rfl rfl (AL.nil (AK.seqN (AC.seq (AC.seq (AC.region ?_))))))
  refine AL.go (AO.field rfl rfl ?_)
  refine AL.go (AO.loadB rfl rfl ?_)
  refine AL.go (AO.neqS rfl rfl rfl (fun c12 => ?_) (fun c12 => ?_))
  ·refine AL.go (AO.move rfl rfl (AL.no rfl rfl rfl rfl (AL.no rfl rfl rfl rfl (AL.no rfl rfl rfl rfl (AL.go (AO.pickT rfl rfl rfl (AL.go (AO.move rfl rfl ?_))))))))
   refine AL.no rfl rfl rfl rfl (AL.no rfl rfl rfl rfl (AL.no rfl rfl rfl rfl (AL.go (AO.pickT rfl rfl rfl (AL.go (AO.move rfl rfl (AL.no rfl rfl rfl rfl ?_)))))))
   refine AL.no rfl rfl rfl rfl (AL.no rfl rfl rfl rfl (AL.no rfl rfl rfl rfl (AL.no rfl rfl rfl rfl (AL.no rfl rfl rfl rfl (AL.no rfl rfl rfl rfl ?_)))))
   refine AL.go (AO.pickT rfl rfl rfl (AL.nil (AK.seqN (AC.condT rfl (AC.seq (AC.region ?_))))))
   refine AL.go (AO.assign rfl rfl (AL.nil (AK.seqN (AC.ret (AK.seqR ?_)))))
   first | refine AK.ret (L' := L) (F' := F) Tryz.results163 rfl subA (hT ?_) | refine AK.ret (L' := L) (F' := F) Tryz.results163 rfl subA (hF ?_)
   first
   | exact ⟨⟨by omega, c16, c21, fun i hi => hok i hi (by omega)⟩, c12⟩
   | exact fun e => c12 e.2
   | exact fun e => absurd e.1.2.1 (by omega)
   | exact fun e => absurd e.1.2.2.1 (by omega)
   | exact fun e => c30 (by rw [e.1.1])
   | (intro e
      have he := e.1.2.2.2 q hql
      unfold elemAtP at he
      rw [hK, hKid, hKidP, hPrev] at he
      rcases he with ⟨h1, h2, h3, h4, h5, h6⟩ | ⟨h1, h2, h3, h4⟩
      first | exact c58 h1 | exact h3 c88 | exact h4 c93 | exact h5 c101 | (have := h6 (by omega) c63; omega) | omega
      first | exact h1 c58 | exact absurd h2 (by rw [c105]; decide) | exact (h4 (by omega)).1 c109 | exact c119 h3 | exact absurd c114 (by rw [bytes_asym _ _ (h4 (by omega)).2]; decide) | (rw [leq_nil c114] at h2; exact absurd h2 (by decide)) | omega)
  ·refine AL.go (AO.move rfl rfl (AL.yes rfl rfl (AO.field rfl rfl ?_)))
   refine AL.yes rfl rfl (AO.loadB rfl rfl ?_)
   refine AL.yes rfl rfl (AO.lss rfl rfl rfl (fun c16 => ?_) (fun c16 => ?_))
   ·refine AL.go (AO.pickF rfl rfl rfl (AL.go (AO.move rfl rfl (AL.no rfl rfl rfl rfl (AL.no rfl rfl rfl rfl (AL.no rfl rfl rfl rfl (AL.go (AO.pickT rfl rfl rfl ?_))))))))
    refine AL.go (AO.move rfl rfl (AL.no rfl rfl rfl rfl (AL.no rfl rfl rfl rfl (AL.no rfl rfl rfl rfl (AL.no rfl rfl rfl rfl (AL.no rfl rfl rfl rfl ?_))))))
    refine AL.no rfl rfl rfl rfl (AL.no rfl rfl rfl rfl (AL.go (AO.pickT rfl rfl rfl (AL.nil (AK.seqN (AC.condT rfl ?_))))))
    refine AC.seq (AC.region (AL.go (AO.assign rfl rfl (AL.nil (AK.seqN (AC.ret ?_))))))
    refine AK.seqR ?_
    first | refine AK.ret (L' := L) (F' := F) Tryz.results163 rfl subA (hT ?_) | refine AK.ret (L' := L) (F' := F) Tryz.results163 rfl subA (hF ?_)
    first
    | exact ⟨⟨by omega, c16, c21, fun i hi => hok i hi (by omega)⟩, c12⟩
    | exact fun e => c12 e.2
    | exact fun e => absurd e.1.2.1 (by omega)
    | exact fun e => absurd e.1.2.2.1 (by omega)
    | exact fun e => c30 (by rw [e.1.1])
    | (intro e
       have he := e.1.2.2.2 q hql
       unfold elemAtP at he
       rw [hK, hKid, hKidP, hPrev] at he
       rcases he with ⟨h1, h2, h3, h4, h5, h6⟩ | ⟨h1, h2, h3, h4⟩
       first | exact c58 h1 | exact h3 c88 | exact h4 c93 | exact h5 c101 | (have := h6 (by omega) c63; omega) | omega
       first | exact h1 c58 | exact absurd h2 (by rw [c105]; decide) | exact (h4 (by omega)).1 c109 | exact c119 h3 | exact absurd c114 (by rw [bytes_asym _ _ (h4 (by omega)).2]; decide) | (rw [leq_nil c114] at h2; exact absurd h2 (by decide)) | omega)
   ·refine AL.go (AO.pickF rfl rfl rfl (AL.go (AO.move rfl rfl (AL.yes rfl rfl (AO.field rfl rfl ?_)))))
    refine AL.yes rfl rfl (AO.loadB rfl rfl ?_)
    refine AL.yes rfl rfl (AO.gtr rfl rfl rfl (fun c21 => ?_) (fun c21 => ?_))
    ·refine AL.go (AO.pickF rfl rfl rfl (AL.go (AO.move rfl rfl (AL.no rfl rfl rfl rfl (AL.no rfl rfl rfl rfl (AL.no rfl rfl rfl rfl (AL.no rfl rfl rfl rfl ?_)))))))
     refine AL.no rfl rfl rfl rfl (AL.no rfl rfl rfl rfl (AL.no rfl rfl rfl rfl (AL.go (AO.pickT rfl rfl rfl (AL.nil (AK.seqN ?_))))))
     refine AC.condT rfl (AC.seq (AC.region (AL.go (AO.assign rfl rfl (AL.nil (AK.seqN ?_))))))
     refine AC.ret (AK.seqR ?_)
     first | refine AK.ret (L' := L) (F' := F) Tryz.results163 rfl subA (hT ?_) | refine AK.ret (L' := L) (F' := F) Tryz.results163 rfl subA (hF ?_)
     first
     | exact ⟨⟨by omega, c16, c21, fun i hi => hok i hi (by omega)⟩, c12⟩
     | exact fun e => c12 e.2
     | exact fun e => absurd e.1.2.1 (by omega)
     | exact fun e => absurd e.1.2.2.1 (by omega)
     | exact fun e => c30 (by rw [e.1.1])
     | (intro e
        have he := e.1.2.2.2 q hql
        unfold elemAtP at he
        rw [hK, hKid, hKidP, hPrev] at he
        rcases he with ⟨h1, h2, h3, h4, h5, h6⟩ | ⟨h1, h2, h3, h4⟩
        first | exact c58 h1 | exact h3 c88 | exact h4 c93 | exact h5 c101 | (have := h6 (by omega) c63; omega) | omega
        first | exact h1 c58 | exact absurd h2 (by rw [c105]; decide) | exact (h4 (by omega)).1 c109 | exact c119 h3 | exact absurd c114 (by rw [bytes_asym _ _ (h4 (by omega)).2]; decide) | (rw [leq_nil c114] at h2; exact absurd h2 (by decide)) | omega)
    ·refine AL.go (AO.pickF rfl rfl rfl (AL.go (AO.move rfl rfl (AL.yes rfl rfl (AO.field rfl rfl ?_)))))
     refine AL.yes rfl rfl (AO.loadB rfl rfl ?_)
     refine AL.yes rfl rfl (AO.len rfl rfl (fun hl26 => ?_) (hm := by repeat (first | exact mem0 | assumption | refine memS ?_)))
     refine AL.yes rfl rfl (AO.field rfl rfl ?_)
     refine AL.yes rfl rfl (AO.loadB rfl rfl ?_)
     refine AL.yes rfl rfl (AO.len rfl rfl (fun hl29 => ?_) (hm := by repeat (first | exact mem0 | assumption | refine memS ?_)))
     refine AL.yes rfl rfl (AO.neq rfl rfl rfl (fun c30 => ?_) (fun c30 => ?_))
     ·refine AL.go (AO.pickF rfl rfl rfl (AL.nil (AK.seqN (AC.condT rfl (AC.seq (AC.region ?_))))))
      refine AL.go (AO.assign rfl rfl (AL.nil (AK.seqN (AC.ret (AK.seqR ?_)))))
      first | refine AK.ret (L' := L) (F' := F) Tryz.results163 rfl subA (hT ?_) | refine AK.ret (L' := L) (F' := F) Tryz.results163 rfl subA (hF ?_)
      first
      | exact ⟨⟨by omega, c16, c21, fun i hi => hok i hi (by omega)⟩, c12⟩
      | exact fun e => c12 e.2
      | exact fun e => absurd e.1.2.1 (by omega)
      | exact fun e => absurd e.1.2.2.1 (by omega)
      | exact fun e => c30 (by rw [e.1.1])
      | (intro e
         have he := e.1.2.2.2 q hql
         unfold elemAtP at he
         rw [hK, hKid, hKidP, hPrev] at he
         rcases he with ⟨h1, h2, h3, h4, h5, h6⟩ | ⟨h1, h2, h3, h4⟩
         first | exact c58 h1 | exact h3 c88 | exact h4 c93 | exact h5 c101 | (have := h6 (by omega) c63; omega) | omega
         first | exact h1 c58 | exact absurd h2 (by rw [c105]; decide) | exact (h4 (by omega)).1 c109 | exact c119 h3 | exact absurd c114 (by rw [bytes_asym _ _ (h4 (by omega)).2]; decide) | (rw [leq_nil c114] at h2; exact absurd h2 (by decide)) | omega)
     ·refine AL.go (AO.pickF rfl rfl rfl (AL.nil (AK.seqN (AC.condF rfl (AC.skip (AK.seqN ?_))))))
      refine AC.seq (AC.seq (AC.region (AL.go (AO.field rfl rfl ?_))))
      refine AL.go (AO.loadB rfl rfl ?_)
      refine AL.go (AO.len rfl rfl (fun hl34 => ?_) (hm := by repeat (first | exact mem0 | assumption | refine memS ?_)))
      refine AL.go (AO.move rfl rfl (AL.nil (AK.seqN (AC.block ?_))))
      refine AC.loopC (fun (q : Nat) => q ≤ t.words.length ∧ ∀ j (hj : j < t.words.length), j < q → elemAtP l t j hj) (fun q => [(0, .slice a3 k3 c3), (3, .pointer (some ⟨b3, 0, none⟩)), (33, .slice a1 k1 c1), (34, .int .i64 t.words.length), (35, .int .i64 (q : Int))]) (fun q => t.words.length - q) 0 ⟨by omega, by omega⟩ srA ?_
      rintro q ⟨hq, hok⟩
      refine AC.seq (AC.region ?_)
      refine AL.go (AO.lss rfl rfl rfl (fun c36 => ?_) (fun c36 => ?_))
      ·refine AL.nil (AK.seqN (AC.seq (AC.condT rfl (AC.skip (AK.seqN ?_)))))
       refine AC.seq (AC.block (AC.seq (AC.region (AL.go (AO.move rfl rfl ?_)))))
       have hql : q < t.words.length := by omega
       have hqk : q < t.kids.length := by omega
       obtain ⟨hkn, hkl⟩ := kid_nat hk hqk
       refine AL.go (AO.indexAddr rfl rfl rfl rfl memA hql (fun _ _ => ?_))
       refine AL.go (AO.loadF rfl rfl ?_)
       intros
       refine AL.go (AO.assign rfl rfl (AL.go (AO.assign rfl rfl (AL.nil (AK.seqN (AC.seq (AC.region ?_)))))))
       refine AL.go (AO.move rfl rfl (AL.go (AO.field rfl rfl ?_)))
       refine AL.go (AO.loadB rfl rfl ?_)
       refine AL.go (AO.move rfl rfl ?_)
       refine AL.go (AO.indexAddr rfl rfl rfl rfl memA hqk (fun _ _ => ?_))
       refine AL.go (AO.loadF rfl rfl ?_)
       intros
       have hKid := kid_get hqk
       have hK : kindAt l (kidAt t q) = l[t.kids[q].toNat].kind := by rw [hKid]; exact kind_get hkn hkl
       have hKidP := kid_get (t := t) (i := q - 1) (by omega)
       have hPrev := word_get (ws := t.words) (i := q - 1) (by omega)
       refine AL.go (AO.indexAddr (k := t.kids[q].toNat) rfl rfl rfl hkn memA hkl (fun _ _ => ?_))
       refine AL.go (AO.loadFA rfl rfl ?_)
       intro a47 k47 z47 d47 e47 f47
       refine AL.go (AO.alloc rfl (fun b7 => ?_))
       refine AL.go (AO.storeBA rfl rfl rfl rfl ?_)
       refine AL.nil (AK.seqN (AC.seq (AC.region (AL.go (AO.assign rfl rfl (AL.nil ?_))))))
       refine AK.seqN (AC.seq (AC.seq (AC.region (AL.go (AO.move rfl rfl ?_)))))
       refine AL.go (AO.gtr rfl rfl rfl (fun c49 => ?_) (fun c49 => ?_))
       ·refine AL.nil (AK.seqN (AC.condT rfl (AC.region (AL.go (AO.field rfl rfl ?_)))))
        refine AL.go (AO.loadB rfl rfl ?_)
        refine AL.go (AO.move rfl rfl (AL.go (AO.sub rfl rfl rfl (by omega) (by omega) ?_)))
        refine AL.go (AO.indexAddr (k := q - 1) rfl rfl rfl (by omega) memA (by omega) (fun _ _ => ?_))
        refine AL.go (AO.loadF rfl rfl ?_)
        intros
        refine AL.go (AO.assign rfl rfl (AL.nil (AK.seqN (AC.block (AC.seq (AC.region ?_))))))
        refine AL.go (AO.move rfl rfl ?_)
        refine AL.go (AO.call rfl rfl (pmark_c t.words[q] (fun c58 => ?_) (fun c58 => ?_)))
        ·refine AL.go (AO.assign rfl rfl (AL.nil (AK.seqN (AC.condT rfl (AC.seq ?_)))))
         refine AC.draw (fun _ => false) [(b3, _, _)] bxA rfl (fun hx hX => ?_)
         have hkk := (len_of_fact (hX (fK t a2 k2 c2) (by repeat (first | exact m2 | refine memS ?_)))).1
         obtain ⟨p2, o2, rfl, atq⟩ := row_of_fact (hX (fK t a2 k2 c2) (by repeat (first | exact m2 | refine memS ?_))) hqk
         obtain ⟨vq, hvq, hcq⟩ := atq 0 _ rfl
         cases hcq
         refine AH.takeW (i := 0) rfl (Y.move rfl) (by kernel_rfl) rfl rfl ?_
         refine AH.takeB (i := 1) rfl (Y.gtr rfl rfl) (by kernel_rfl) rfl rfl (fun c60 => ?_) (fun c60 => absurd (of_decide_eq_false c60) (by omega))
         refine AH.takeW (i := 2) rfl (Y.move rfl) (by kernel_rfl) rfl rfl ?_
         refine AH.takeW (i := 3) rfl (Y.move rfl) (by kernel_rfl) rfl rfl ?_
         refine AH.one (i := 4) (by kernel_rfl) rfl rfl (fun _ => ?_)
         refine AO.call rfl rfl (pmark_c t.words[q - 1] (fun c63 => ?_) (fun c63 => ?_))
         all_goals refine AT.held bxA memB ?_
         ·refine AH.takeW (i := 5) rfl (Y.pickT rfl rfl) (by kernel_rfl) rfl rfl ?_
          refine AH.takeW (i := 6) rfl (Y.move rfl) (by kernel_rfl) rfl rfl ?_
          refine AH.takeW (i := 7) rfl (Y.field rfl) (by kernel_rfl) rfl rfl ?_
          refine AH.takeS (i := 8) rfl (Y.loadB rfl lmA (by rfl)) (by kernel_rfl) (by kernel_rfl) rfl rfl rfl ?_
          refine AH.takeW (i := 9) rfl (Y.move rfl) (by kernel_rfl) rfl rfl ?_
          refine AH.takeW (i := 10) rfl (Y.sub rfl rfl (by omega) (by omega)) (by kernel_rfl) rfl rfl ?_
          obtain ⟨p3, o3, e3, atp⟩ := row_of_fact (i := q - 1) (hX (fK t (some ⟨p2, o2, none⟩) k2 c2) (by repeat (first | exact m2 | refine memS ?_))) (by omega)
          cases e3
          obtain ⟨vp, hvp, hcp⟩ := atp 0 _ rfl
          cases hcp
          refine AH.takeW (i := 11) rfl (Y.indexAddr (k := q - 1) rfl rfl (by omega) (by omega)) (by kernel_rfl) rfl rfl ?_
          refine AH.takeS (i := 12) rfl (Y.loadF rfl (by assumption)) (by kernel_rfl) (by kernel_rfl) rfl rfl rfl ?_
          refine AH.takeW (i := 13) rfl (Y.field rfl) (by kernel_rfl) rfl rfl ?_
          refine AH.takeS (i := 14) rfl (Y.loadB rfl lmA (by rfl)) (by kernel_rfl) (by kernel_rfl) rfl rfl rfl ?_
          refine AH.takeW (i := 15) rfl (Y.move rfl) (by kernel_rfl) rfl rfl ?_
          refine AH.takeW (i := 16) rfl (Y.indexAddr rfl rfl rfl (by omega)) (by kernel_rfl) rfl rfl ?_
          refine AH.takeS (i := 17) rfl (Y.loadF rfl (by assumption)) (by kernel_rfl) (by kernel_rfl) rfl rfl rfl ?_
          refine AH.takeB (i := 18) rfl (Y.geq rfl rfl) (by kernel_rfl) rfl rfl (fun c77 => ?_) (fun c77 => ?_)
          ·replace c77 := of_decide_eq_true c77
           refine AH.takeW (i := 19) rfl (Y.pickT rfl rfl) (by kernel_rfl) rfl rfl ?_
           refine AH.takeW (i := 20) rfl (Y.assign rfl) (by kernel_rfl) rfl rfl ?_
           refine AH.done (by kernel_rfl) ?_
           refine AK.seqN (AC.seq (AC.region (AL.go (AO.move rfl rfl (AL.go (AO.move rfl rfl (AL.no rfl rfl rfl rfl ?_)))))))
           refine AL.no rfl rfl rfl rfl (AL.no rfl rfl rfl rfl (AL.go (AO.pickT rfl rfl rfl (AL.go (AO.move rfl rfl (AL.no rfl rfl rfl rfl (AL.no rfl rfl rfl rfl ?_)))))))
           refine AL.no rfl rfl rfl rfl (AL.go (AO.pickT rfl rfl rfl (AL.go (AO.move rfl rfl (AL.no rfl rfl rfl rfl (AL.no rfl rfl rfl rfl (AL.no rfl rfl rfl rfl ?_)))))))
           refine AL.go (AO.pickT rfl rfl rfl (AL.go (AO.move rfl rfl (AL.no rfl rfl rfl rfl (AL.no rfl rfl rfl rfl (AL.no rfl rfl rfl rfl (AL.no rfl rfl rfl rfl ?_)))))))
           refine AL.no rfl rfl rfl rfl (AL.no rfl rfl rfl rfl (AL.go (AO.pickT rfl rfl rfl (AL.nil (AK.seqN (AC.condT rfl ?_))))))
           refine AC.seq (AC.region (AL.go (AO.assign rfl rfl (AL.nil (AK.seqN (AC.ret ?_))))))
           refine AK.blkR (AK.blkR (AK.seqR (AK.seqR (AK.blkR (AK.seqR ?_)))))
           first | refine AK.ret (L' := L) (F' := F) Tryz.results163 rfl subA (hT ?_) | refine AK.ret (L' := L) (F' := F) Tryz.results163 rfl subA (hF ?_)
           first
           | exact ⟨⟨by omega, c16, c21, fun i hi => hok i hi (by omega)⟩, c12⟩
           | exact fun e => c12 e.2
           | exact fun e => absurd e.1.2.1 (by omega)
           | exact fun e => absurd e.1.2.2.1 (by omega)
           | exact fun e => c30 (by rw [e.1.1])
           | (intro e
              have he := e.1.2.2.2 q hql
              unfold elemAtP at he
              rw [hK, hKid, hKidP, hPrev] at he
              rcases he with ⟨h1, h2, h3, h4, h5, h6⟩ | ⟨h1, h2, h3, h4⟩
              first | exact c58 h1 | exact h3 c88 | exact h4 c93 | exact h5 c101 | (have := h6 (by omega) c63; omega) | omega
              first | exact h1 c58 | exact absurd h2 (by rw [c105]; decide) | exact (h4 (by omega)).1 c109 | exact c119 h3 | exact absurd c114 (by rw [bytes_asym _ _ (h4 (by omega)).2]; decide) | (rw [leq_nil c114] at h2; exact absurd h2 (by decide)) | omega)
          ·replace c77 := of_decide_eq_false c77
           refine AH.takeW (i := 19) rfl (Y.pickT rfl rfl) (by kernel_rfl) rfl rfl ?_
           refine AH.takeW (i := 20) rfl (Y.assign rfl) (by kernel_rfl) rfl rfl ?_
           refine AH.done (by kernel_rfl) ?_
           refine AK.seqN (AC.seq (AC.region (AL.go (AO.move rfl rfl (AL.go (AO.move rfl rfl (AL.yes rfl rfl (AO.field rfl rfl ?_))))))))
           refine AL.yes rfl rfl (AO.loadB rfl rfl ?_)
           refine AL.yes rfl rfl (AO.lss rfl rfl rfl (fun c83 => ?_) (fun c83 => ?_))
           ·refine AL.go (AO.pickF rfl rfl rfl (AL.go (AO.move rfl rfl (AL.no rfl rfl rfl rfl (AL.no rfl rfl rfl rfl (AL.no rfl rfl rfl rfl (AL.go (AO.pickT rfl rfl rfl ?_))))))))
            refine AL.go (AO.move rfl rfl (AL.no rfl rfl rfl rfl (AL.no rfl rfl rfl rfl (AL.no rfl rfl rfl rfl (AL.go (AO.pickT rfl rfl rfl (AL.go (AO.move rfl rfl ?_))))))))
            refine AL.no rfl rfl rfl rfl (AL.no rfl rfl rfl rfl (AL.no rfl rfl rfl rfl (AL.no rfl rfl rfl rfl (AL.no rfl rfl rfl rfl (AL.no rfl rfl rfl rfl ?_)))))
            refine AL.go (AO.pickT rfl rfl rfl (AL.nil (AK.seqN (AC.condT rfl (AC.seq (AC.region ?_))))))
            refine AL.go (AO.assign rfl rfl (AL.nil (AK.seqN (AC.ret (AK.blkR (AK.blkR ?_))))))
            refine AK.seqR (AK.seqR (AK.blkR (AK.seqR ?_)))
            first | refine AK.ret (L' := L) (F' := F) Tryz.results163 rfl subA (hT ?_) | refine AK.ret (L' := L) (F' := F) Tryz.results163 rfl subA (hF ?_)
            first
            | exact ⟨⟨by omega, c16, c21, fun i hi => hok i hi (by omega)⟩, c12⟩
            | exact fun e => c12 e.2
            | exact fun e => absurd e.1.2.1 (by omega)
            | exact fun e => absurd e.1.2.2.1 (by omega)
            | exact fun e => c30 (by rw [e.1.1])
            | (intro e
               have he := e.1.2.2.2 q hql
               unfold elemAtP at he
               rw [hK, hKid, hKidP, hPrev] at he
               rcases he with ⟨h1, h2, h3, h4, h5, h6⟩ | ⟨h1, h2, h3, h4⟩
               first | exact c58 h1 | exact h3 c88 | exact h4 c93 | exact h5 c101 | (have := h6 (by omega) c63; omega) | omega
               first | exact h1 c58 | exact absurd h2 (by rw [c105]; decide) | exact (h4 (by omega)).1 c109 | exact c119 h3 | exact absurd c114 (by rw [bytes_asym _ _ (h4 (by omega)).2]; decide) | (rw [leq_nil c114] at h2; exact absurd h2 (by decide)) | omega)
           ·refine AL.go (AO.pickF rfl rfl rfl (AL.go (AO.move rfl rfl (AL.yes rfl rfl (AO.field rfl rfl ?_)))))
            refine AL.yes rfl rfl (AO.loadB rfl rfl ?_)
            refine AL.yes rfl rfl (AO.eql rfl rfl rfl (fun c88 => ?_) (fun c88 => ?_))
            ·refine AL.go (AO.pickF rfl rfl rfl (AL.go (AO.move rfl rfl (AL.no rfl rfl rfl rfl (AL.no rfl rfl rfl rfl (AL.no rfl rfl rfl rfl (AL.go (AO.pickT rfl rfl rfl ?_))))))))
             refine AL.go (AO.move rfl rfl (AL.no rfl rfl rfl rfl (AL.no rfl rfl rfl rfl (AL.no rfl rfl rfl rfl (AL.no rfl rfl rfl rfl (AL.no rfl rfl rfl rfl ?_))))))
             refine AL.no rfl rfl rfl rfl (AL.go (AO.pickT rfl rfl rfl (AL.nil (AK.seqN (AC.condT rfl (AC.seq ?_))))))
             refine AC.region (AL.go (AO.assign rfl rfl (AL.nil (AK.seqN (AC.ret (AK.blkR ?_))))))
             refine AK.blkR (AK.seqR (AK.seqR (AK.blkR (AK.seqR ?_))))
             first | refine AK.ret (L' := L) (F' := F) Tryz.results163 rfl subA (hT ?_) | refine AK.ret (L' := L) (F' := F) Tryz.results163 rfl subA (hF ?_)
             first
             | exact ⟨⟨by omega, c16, c21, fun i hi => hok i hi (by omega)⟩, c12⟩
             | exact fun e => c12 e.2
             | exact fun e => absurd e.1.2.1 (by omega)
             | exact fun e => absurd e.1.2.2.1 (by omega)
             | exact fun e => c30 (by rw [e.1.1])
             | (intro e
                have he := e.1.2.2.2 q hql
                unfold elemAtP at he
                rw [hK, hKid, hKidP, hPrev] at he
                rcases he with ⟨h1, h2, h3, h4, h5, h6⟩ | ⟨h1, h2, h3, h4⟩
                first | exact c58 h1 | exact h3 c88 | exact h4 c93 | exact h5 c101 | (have := h6 (by omega) c63; omega) | omega
                first | exact h1 c58 | exact absurd h2 (by rw [c105]; decide) | exact (h4 (by omega)).1 c109 | exact c119 h3 | exact absurd c114 (by rw [bytes_asym _ _ (h4 (by omega)).2]; decide) | (rw [leq_nil c114] at h2; exact absurd h2 (by decide)) | omega)
            ·refine AL.go (AO.pickF rfl rfl rfl (AL.go (AO.move rfl rfl (AL.yes rfl rfl (AO.field rfl rfl ?_)))))
             refine AL.yes rfl rfl (AO.loadB rfl rfl ?_)
             refine AL.yes rfl rfl (AO.eql rfl rfl rfl (fun c93 => ?_) (fun c93 => ?_))
             ·refine AL.go (AO.pickF rfl rfl rfl (AL.go (AO.move rfl rfl (AL.no rfl rfl rfl rfl (AL.no rfl rfl rfl rfl (AL.no rfl rfl rfl rfl (AL.no rfl rfl rfl rfl ?_)))))))
              refine AL.no rfl rfl rfl rfl (AL.no rfl rfl rfl rfl (AL.go (AO.pickT rfl rfl rfl (AL.nil (AK.seqN (AC.condT rfl ?_))))))
              refine AC.seq (AC.region (AL.go (AO.assign rfl rfl (AL.nil (AK.seqN (AC.ret ?_))))))
              refine AK.blkR (AK.blkR (AK.seqR (AK.seqR (AK.blkR (AK.seqR ?_)))))
              first | refine AK.ret (L' := L) (F' := F) Tryz.results163 rfl subA (hT ?_) | refine AK.ret (L' := L) (F' := F) Tryz.results163 rfl subA (hF ?_)
              first
              | exact ⟨⟨by omega, c16, c21, fun i hi => hok i hi (by omega)⟩, c12⟩
              | exact fun e => c12 e.2
              | exact fun e => absurd e.1.2.1 (by omega)
              | exact fun e => absurd e.1.2.2.1 (by omega)
              | exact fun e => c30 (by rw [e.1.1])
              | (intro e
                 have he := e.1.2.2.2 q hql
                 unfold elemAtP at he
                 rw [hK, hKid, hKidP, hPrev] at he
                 rcases he with ⟨h1, h2, h3, h4, h5, h6⟩ | ⟨h1, h2, h3, h4⟩
                 first | exact c58 h1 | exact h3 c88 | exact h4 c93 | exact h5 c101 | (have := h6 (by omega) c63; omega) | omega
                 first | exact h1 c58 | exact absurd h2 (by rw [c105]; decide) | exact (h4 (by omega)).1 c109 | exact c119 h3 | exact absurd c114 (by rw [bytes_asym _ _ (h4 (by omega)).2]; decide) | (rw [leq_nil c114] at h2; exact absurd h2 (by decide)) | omega)
             ·refine AL.go (AO.pickF rfl rfl rfl (AL.go (AO.move rfl rfl (AL.yes rfl rfl (AO.field rfl rfl ?_)))))
              refine AL.yes rfl rfl (AO.loadB rfl rfl ?_)
              refine AL.yes rfl rfl (AO.move rfl rfl ?_)
              refine AL.yes rfl rfl (AO.indexAddr rfl rfl rfl rfl memA (by first | omega | (simp; omega)) (fun _ _ => ?_))
              refine AL.yes rfl rfl (AO.loadF rfl rfl ?_)
              intros
              refine AL.yes rfl rfl (AO.call rfl rfl (untyped_c t.kids[q] (fun c101 => ?_) (fun c101 => ?_)))
              ·refine AL.go (AO.pickF rfl rfl rfl (AL.nil (AK.seqN (AC.condT rfl (AC.seq (AC.region ?_))))))
               refine AL.go (AO.assign rfl rfl (AL.nil (AK.seqN (AC.ret (AK.blkR (AK.blkR ?_))))))
               refine AK.seqR (AK.seqR (AK.blkR (AK.seqR ?_)))
               first | refine AK.ret (L' := L) (F' := F) Tryz.results163 rfl subA (hT ?_) | refine AK.ret (L' := L) (F' := F) Tryz.results163 rfl subA (hF ?_)
               first
               | exact ⟨⟨by omega, c16, c21, fun i hi => hok i hi (by omega)⟩, c12⟩
               | exact fun e => c12 e.2
               | exact fun e => absurd e.1.2.1 (by omega)
               | exact fun e => absurd e.1.2.2.1 (by omega)
               | exact fun e => c30 (by rw [e.1.1])
               | (intro e
                  have he := e.1.2.2.2 q hql
                  unfold elemAtP at he
                  rw [hK, hKid, hKidP, hPrev] at he
                  rcases he with ⟨h1, h2, h3, h4, h5, h6⟩ | ⟨h1, h2, h3, h4⟩
                  first | exact c58 h1 | exact h3 c88 | exact h4 c93 | exact h5 c101 | (have := h6 (by omega) c63; omega) | omega
                  first | exact h1 c58 | exact absurd h2 (by rw [c105]; decide) | exact (h4 (by omega)).1 c109 | exact c119 h3 | exact absurd c114 (by rw [bytes_asym _ _ (h4 (by omega)).2]; decide) | (rw [leq_nil c114] at h2; exact absurd h2 (by decide)) | omega)
              ·refine AL.go (AO.pickF rfl rfl rfl (AL.nil (AK.seqN (AC.condF rfl (AC.skip (AK.blkN ?_))))))
               refine AK.blkN (AK.seqN (AC.region (AL.go (AO.add rfl rfl rfl (by omega) (by omega) (AL.go (AO.move rfl rfl (AL.nil ?_)))))))
               refine AK.next (q + 1) ⟨by omega, ?_⟩ (by omega) srA (Sub.drop.trans subF)
               intro j hj hjq
               rcases Nat.lt_succ_iff_lt_or_eq.1 hjq with k9 | rfl
               · exact hok j hj k9
               · unfold elemAtP
                 rw [hK, hKid, hKidP, hPrev]
                 first
                 | exact Or.inl ⟨c58, c83, c88, c93, c101, fun _ _ => Int.not_le.1 c77⟩
                 | exact Or.inl ⟨c58, c83, c88, c93, c101, fun _ h1 => absurd h1 c63⟩
                 | exact Or.inl ⟨c58, c83, c88, c93, c101, fun h0 _ => absurd h0 (by omega)⟩
                 | exact Or.inr ⟨c58, c105, c119, fun _ => ⟨c109, bytes_tri _ _ c114⟩⟩
                 | exact Or.inr ⟨c58, c105, c119, fun h0 => absurd h0 (by omega)⟩
         ·refine AH.takeW (i := 5) rfl (Y.pickT rfl rfl) (by kernel_rfl) rfl rfl ?_
          refine AH.takeW (i := 6) rfl (Y.move rfl) (by kernel_rfl) rfl rfl ?_
          refine AH.skip (i := 7) rfl (by kernel_rfl) rfl rfl ?_
          refine AH.skip (i := 8) rfl (by kernel_rfl) rfl rfl ?_
          refine AH.skip (i := 9) rfl (by kernel_rfl) rfl rfl ?_
          refine AH.skip (i := 10) rfl (by kernel_rfl) rfl rfl ?_
          refine AH.skip (i := 11) rfl (by kernel_rfl) rfl rfl ?_
          refine AH.skip (i := 12) rfl (by kernel_rfl) rfl rfl ?_
          refine AH.skip (i := 13) rfl (by kernel_rfl) rfl rfl ?_
          refine AH.skip (i := 14) rfl (by kernel_rfl) rfl rfl ?_
          refine AH.skip (i := 15) rfl (by kernel_rfl) rfl rfl ?_
          refine AH.skip (i := 16) rfl (by kernel_rfl) rfl rfl ?_
          refine AH.skip (i := 17) rfl (by kernel_rfl) rfl rfl ?_
          refine AH.skip (i := 18) rfl (by kernel_rfl) rfl rfl ?_
          refine AH.takeW (i := 19) rfl (Y.pickF rfl rfl) (by kernel_rfl) rfl rfl ?_
          refine AH.takeW (i := 20) rfl (Y.assign rfl) (by kernel_rfl) rfl rfl ?_
          refine AH.done (by kernel_rfl) ?_
          refine AK.seqN (AC.seq (AC.region (AL.go (AO.move rfl rfl (AL.go (AO.move rfl rfl (AL.yes rfl rfl (AO.field rfl rfl ?_))))))))
          refine AL.yes rfl rfl (AO.loadB rfl rfl ?_)
          refine AL.yes rfl rfl (AO.lss rfl rfl rfl (fun c83 => ?_) (fun c83 => ?_))
          ·refine AL.go (AO.pickF rfl rfl rfl (AL.go (AO.move rfl rfl (AL.no rfl rfl rfl rfl (AL.no rfl rfl rfl rfl (AL.no rfl rfl rfl rfl (AL.go (AO.pickT rfl rfl rfl ?_))))))))
           refine AL.go (AO.move rfl rfl (AL.no rfl rfl rfl rfl (AL.no rfl rfl rfl rfl (AL.no rfl rfl rfl rfl (AL.go (AO.pickT rfl rfl rfl (AL.go (AO.move rfl rfl ?_))))))))
           refine AL.no rfl rfl rfl rfl (AL.no rfl rfl rfl rfl (AL.no rfl rfl rfl rfl (AL.no rfl rfl rfl rfl (AL.no rfl rfl rfl rfl (AL.no rfl rfl rfl rfl ?_)))))
           refine AL.go (AO.pickT rfl rfl rfl (AL.nil (AK.seqN (AC.condT rfl (AC.seq (AC.region ?_))))))
           refine AL.go (AO.assign rfl rfl (AL.nil (AK.seqN (AC.ret (AK.blkR (AK.blkR ?_))))))
           refine AK.seqR (AK.seqR (AK.blkR (AK.seqR ?_)))
           first | refine AK.ret (L' := L) (F' := F) Tryz.results163 rfl subA (hT ?_) | refine AK.ret (L' := L) (F' := F) Tryz.results163 rfl subA (hF ?_)
           first
           | exact ⟨⟨by omega, c16, c21, fun i hi => hok i hi (by omega)⟩, c12⟩
           | exact fun e => c12 e.2
           | exact fun e => absurd e.1.2.1 (by omega)
           | exact fun e => absurd e.1.2.2.1 (by omega)
           | exact fun e => c30 (by rw [e.1.1])
           | (intro e
              have he := e.1.2.2.2 q hql
              unfold elemAtP at he
              rw [hK, hKid, hKidP, hPrev] at he
              rcases he with ⟨h1, h2, h3, h4, h5, h6⟩ | ⟨h1, h2, h3, h4⟩
              first | exact c58 h1 | exact h3 c88 | exact h4 c93 | exact h5 c101 | (have := h6 (by omega) c63; omega) | omega
              first | exact h1 c58 | exact absurd h2 (by rw [c105]; decide) | exact (h4 (by omega)).1 c109 | exact c119 h3 | exact absurd c114 (by rw [bytes_asym _ _ (h4 (by omega)).2]; decide) | (rw [leq_nil c114] at h2; exact absurd h2 (by decide)) | omega)
          ·refine AL.go (AO.pickF rfl rfl rfl (AL.go (AO.move rfl rfl (AL.yes rfl rfl (AO.field rfl rfl ?_)))))
           refine AL.yes rfl rfl (AO.loadB rfl rfl ?_)
           refine AL.yes rfl rfl (AO.eql rfl rfl rfl (fun c88 => ?_) (fun c88 => ?_))
           ·refine AL.go (AO.pickF rfl rfl rfl (AL.go (AO.move rfl rfl (AL.no rfl rfl rfl rfl (AL.no rfl rfl rfl rfl (AL.no rfl rfl rfl rfl (AL.go (AO.pickT rfl rfl rfl ?_))))))))
            refine AL.go (AO.move rfl rfl (AL.no rfl rfl rfl rfl (AL.no rfl rfl rfl rfl (AL.no rfl rfl rfl rfl (AL.no rfl rfl rfl rfl (AL.no rfl rfl rfl rfl ?_))))))
            refine AL.no rfl rfl rfl rfl (AL.go (AO.pickT rfl rfl rfl (AL.nil (AK.seqN (AC.condT rfl (AC.seq ?_))))))
            refine AC.region (AL.go (AO.assign rfl rfl (AL.nil (AK.seqN (AC.ret (AK.blkR ?_))))))
            refine AK.blkR (AK.seqR (AK.seqR (AK.blkR (AK.seqR ?_))))
            first | refine AK.ret (L' := L) (F' := F) Tryz.results163 rfl subA (hT ?_) | refine AK.ret (L' := L) (F' := F) Tryz.results163 rfl subA (hF ?_)
            first
            | exact ⟨⟨by omega, c16, c21, fun i hi => hok i hi (by omega)⟩, c12⟩
            | exact fun e => c12 e.2
            | exact fun e => absurd e.1.2.1 (by omega)
            | exact fun e => absurd e.1.2.2.1 (by omega)
            | exact fun e => c30 (by rw [e.1.1])
            | (intro e
               have he := e.1.2.2.2 q hql
               unfold elemAtP at he
               rw [hK, hKid, hKidP, hPrev] at he
               rcases he with ⟨h1, h2, h3, h4, h5, h6⟩ | ⟨h1, h2, h3, h4⟩
               first | exact c58 h1 | exact h3 c88 | exact h4 c93 | exact h5 c101 | (have := h6 (by omega) c63; omega) | omega
               first | exact h1 c58 | exact absurd h2 (by rw [c105]; decide) | exact (h4 (by omega)).1 c109 | exact c119 h3 | exact absurd c114 (by rw [bytes_asym _ _ (h4 (by omega)).2]; decide) | (rw [leq_nil c114] at h2; exact absurd h2 (by decide)) | omega)
           ·refine AL.go (AO.pickF rfl rfl rfl (AL.go (AO.move rfl rfl (AL.yes rfl rfl (AO.field rfl rfl ?_)))))
            refine AL.yes rfl rfl (AO.loadB rfl rfl ?_)
            refine AL.yes rfl rfl (AO.eql rfl rfl rfl (fun c93 => ?_) (fun c93 => ?_))
            ·refine AL.go (AO.pickF rfl rfl rfl (AL.go (AO.move rfl rfl (AL.no rfl rfl rfl rfl (AL.no rfl rfl rfl rfl (AL.no rfl rfl rfl rfl (AL.no rfl rfl rfl rfl ?_)))))))
             refine AL.no rfl rfl rfl rfl (AL.no rfl rfl rfl rfl (AL.go (AO.pickT rfl rfl rfl (AL.nil (AK.seqN (AC.condT rfl ?_))))))
             refine AC.seq (AC.region (AL.go (AO.assign rfl rfl (AL.nil (AK.seqN (AC.ret ?_))))))
             refine AK.blkR (AK.blkR (AK.seqR (AK.seqR (AK.blkR (AK.seqR ?_)))))
             first | refine AK.ret (L' := L) (F' := F) Tryz.results163 rfl subA (hT ?_) | refine AK.ret (L' := L) (F' := F) Tryz.results163 rfl subA (hF ?_)
             first
             | exact ⟨⟨by omega, c16, c21, fun i hi => hok i hi (by omega)⟩, c12⟩
             | exact fun e => c12 e.2
             | exact fun e => absurd e.1.2.1 (by omega)
             | exact fun e => absurd e.1.2.2.1 (by omega)
             | exact fun e => c30 (by rw [e.1.1])
             | (intro e
                have he := e.1.2.2.2 q hql
                unfold elemAtP at he
                rw [hK, hKid, hKidP, hPrev] at he
                rcases he with ⟨h1, h2, h3, h4, h5, h6⟩ | ⟨h1, h2, h3, h4⟩
                first | exact c58 h1 | exact h3 c88 | exact h4 c93 | exact h5 c101 | (have := h6 (by omega) c63; omega) | omega
                first | exact h1 c58 | exact absurd h2 (by rw [c105]; decide) | exact (h4 (by omega)).1 c109 | exact c119 h3 | exact absurd c114 (by rw [bytes_asym _ _ (h4 (by omega)).2]; decide) | (rw [leq_nil c114] at h2; exact absurd h2 (by decide)) | omega)
            ·refine AL.go (AO.pickF rfl rfl rfl (AL.go (AO.move rfl rfl (AL.yes rfl rfl (AO.field rfl rfl ?_)))))
             refine AL.yes rfl rfl (AO.loadB rfl rfl ?_)
             refine AL.yes rfl rfl (AO.move rfl rfl ?_)
             refine AL.yes rfl rfl (AO.indexAddr rfl rfl rfl rfl memA (by first | omega | (simp; omega)) (fun _ _ => ?_))
             refine AL.yes rfl rfl (AO.loadF rfl rfl ?_)
             intros
             refine AL.yes rfl rfl (AO.call rfl rfl (untyped_c t.kids[q] (fun c101 => ?_) (fun c101 => ?_)))
             ·refine AL.go (AO.pickF rfl rfl rfl (AL.nil (AK.seqN (AC.condT rfl (AC.seq (AC.region ?_))))))
              refine AL.go (AO.assign rfl rfl (AL.nil (AK.seqN (AC.ret (AK.blkR (AK.blkR ?_))))))
              refine AK.seqR (AK.seqR (AK.blkR (AK.seqR ?_)))
              first | refine AK.ret (L' := L) (F' := F) Tryz.results163 rfl subA (hT ?_) | refine AK.ret (L' := L) (F' := F) Tryz.results163 rfl subA (hF ?_)
              first
              | exact ⟨⟨by omega, c16, c21, fun i hi => hok i hi (by omega)⟩, c12⟩
              | exact fun e => c12 e.2
              | exact fun e => absurd e.1.2.1 (by omega)
              | exact fun e => absurd e.1.2.2.1 (by omega)
              | exact fun e => c30 (by rw [e.1.1])
              | (intro e
                 have he := e.1.2.2.2 q hql
                 unfold elemAtP at he
                 rw [hK, hKid, hKidP, hPrev] at he
                 rcases he with ⟨h1, h2, h3, h4, h5, h6⟩ | ⟨h1, h2, h3, h4⟩
                 first | exact c58 h1 | exact h3 c88 | exact h4 c93 | exact h5 c101 | (have := h6 (by omega) c63; omega) | omega
                 first | exact h1 c58 | exact absurd h2 (by rw [c105]; decide) | exact (h4 (by omega)).1 c109 | exact c119 h3 | exact absurd c114 (by rw [bytes_asym _ _ (h4 (by omega)).2]; decide) | (rw [leq_nil c114] at h2; exact absurd h2 (by decide)) | omega)
             ·refine AL.go (AO.pickF rfl rfl rfl (AL.nil (AK.seqN (AC.condF rfl (AC.skip (AK.blkN ?_))))))
              refine AK.blkN (AK.seqN (AC.region (AL.go (AO.add rfl rfl rfl (by omega) (by omega) (AL.go (AO.move rfl rfl (AL.nil ?_)))))))
              refine AK.next (q + 1) ⟨by omega, ?_⟩ (by omega) srA (Sub.drop.trans subF)
              intro j hj hjq
              rcases Nat.lt_succ_iff_lt_or_eq.1 hjq with k9 | rfl
              · exact hok j hj k9
              · unfold elemAtP
                rw [hK, hKid, hKidP, hPrev]
                first
                | exact Or.inl ⟨c58, c83, c88, c93, c101, fun _ _ => Int.not_le.1 c77⟩
                | exact Or.inl ⟨c58, c83, c88, c93, c101, fun _ h1 => absurd h1 c63⟩
                | exact Or.inl ⟨c58, c83, c88, c93, c101, fun h0 _ => absurd h0 (by omega)⟩
                | exact Or.inr ⟨c58, c105, c119, fun _ => ⟨c109, bytes_tri _ _ c114⟩⟩
                | exact Or.inr ⟨c58, c105, c119, fun h0 => absurd h0 (by omega)⟩
        ·refine AL.go (AO.assign rfl rfl (AL.nil (AK.seqN (AC.condF rfl (AC.seq (AC.region ?_))))))
         refine AL.go (AO.move rfl rfl ?_)
         refine AL.go (AO.call rfl rfl (src_Name_c t.words[q] (fun c105 => ?_) (fun c105 => ?_)))
         ·refine AL.go (AO.not rfl rfl (AL.go (AO.move rfl rfl (AL.yes rfl rfl (AO.move rfl rfl ?_)))))
          refine AL.yes rfl rfl (AO.call rfl rfl (pmark_c t.words[q - 1] (fun c109 => ?_) (fun c109 => ?_)))
          ·refine AL.go (AO.pickF rfl rfl rfl (AL.go (AO.move rfl rfl (AL.no rfl rfl rfl rfl (AL.no rfl rfl rfl rfl (AL.no rfl rfl rfl rfl (AL.go (AO.pickT rfl rfl rfl ?_))))))))
           refine AL.go (AO.move rfl rfl (AL.no rfl rfl rfl rfl (AL.no rfl rfl rfl rfl (AL.no rfl rfl rfl rfl (AL.go (AO.pickT rfl rfl rfl (AL.go (AO.assign rfl rfl ?_))))))))
           refine AL.nil (AK.seqN (AC.condT rfl (AC.seq (AC.region (AL.go (AO.assign rfl rfl ?_))))))
           refine AL.nil (AK.seqN (AC.ret (AK.blkR (AK.blkR (AK.seqR ?_)))))
           refine AK.seqR (AK.blkR (AK.seqR ?_))
           first | refine AK.ret (L' := L) (F' := F) Tryz.results163 rfl subA (hT ?_) | refine AK.ret (L' := L) (F' := F) Tryz.results163 rfl subA (hF ?_)
           first
           | exact ⟨⟨by omega, c16, c21, fun i hi => hok i hi (by omega)⟩, c12⟩
           | exact fun e => c12 e.2
           | exact fun e => absurd e.1.2.1 (by omega)
           | exact fun e => absurd e.1.2.2.1 (by omega)
           | exact fun e => c30 (by rw [e.1.1])
           | (intro e
              have he := e.1.2.2.2 q hql
              unfold elemAtP at he
              rw [hK, hKid, hKidP, hPrev] at he
              rcases he with ⟨h1, h2, h3, h4, h5, h6⟩ | ⟨h1, h2, h3, h4⟩
              first | exact c58 h1 | exact h3 c88 | exact h4 c93 | exact h5 c101 | (have := h6 (by omega) c63; omega) | omega
              first | exact h1 c58 | exact absurd h2 (by rw [c105]; decide) | exact (h4 (by omega)).1 c109 | exact c119 h3 | exact absurd c114 (by rw [bytes_asym _ _ (h4 (by omega)).2]; decide) | (rw [leq_nil c114] at h2; exact absurd h2 (by decide)) | omega)
          ·refine AL.go (AO.pickF rfl rfl rfl (AL.go (AO.move rfl rfl (AL.yes rfl rfl (AO.move rfl rfl (AL.yes rfl rfl (AO.move rfl rfl ?_)))))))
           refine AL.yes rfl rfl (AO.leqS rfl rfl rfl (fun c114 => ?_) (fun c114 => ?_))
           ·refine AL.go (AO.pickF rfl rfl rfl (AL.go (AO.move rfl rfl (AL.no rfl rfl rfl rfl (AL.no rfl rfl rfl rfl (AL.no rfl rfl rfl rfl (AL.go (AO.pickT rfl rfl rfl ?_))))))))
            refine AL.go (AO.assign rfl rfl (AL.nil (AK.seqN (AC.condT rfl (AC.seq (AC.region ?_))))))
            refine AL.go (AO.assign rfl rfl (AL.nil (AK.seqN (AC.ret (AK.blkR (AK.blkR ?_))))))
            refine AK.seqR (AK.seqR (AK.blkR (AK.seqR ?_)))
            first | refine AK.ret (L' := L) (F' := F) Tryz.results163 rfl subA (hT ?_) | refine AK.ret (L' := L) (F' := F) Tryz.results163 rfl subA (hF ?_)
            first
            | exact ⟨⟨by omega, c16, c21, fun i hi => hok i hi (by omega)⟩, c12⟩
            | exact fun e => c12 e.2
            | exact fun e => absurd e.1.2.1 (by omega)
            | exact fun e => absurd e.1.2.2.1 (by omega)
            | exact fun e => c30 (by rw [e.1.1])
            | (intro e
               have he := e.1.2.2.2 q hql
               unfold elemAtP at he
               rw [hK, hKid, hKidP, hPrev] at he
               rcases he with ⟨h1, h2, h3, h4, h5, h6⟩ | ⟨h1, h2, h3, h4⟩
               first | exact c58 h1 | exact h3 c88 | exact h4 c93 | exact h5 c101 | (have := h6 (by omega) c63; omega) | omega
               first | exact h1 c58 | exact absurd h2 (by rw [c105]; decide) | exact (h4 (by omega)).1 c109 | exact c119 h3 | exact absurd c114 (by rw [bytes_asym _ _ (h4 (by omega)).2]; decide) | (rw [leq_nil c114] at h2; exact absurd h2 (by decide)) | omega)
           ·refine AL.go (AO.pickF rfl rfl rfl (AL.go (AO.move rfl rfl (AL.yes rfl rfl (AO.field rfl rfl ?_)))))
            refine AL.yes rfl rfl (AO.loadB rfl rfl ?_)
            refine AL.yes rfl rfl (AO.neq rfl rfl rfl (fun c119 => ?_) (fun c119 => ?_))
            ·refine AL.go (AO.pickF rfl rfl rfl (AL.go (AO.assign rfl rfl (AL.nil (AK.seqN (AC.condT rfl (AC.seq ?_)))))))
             refine AC.region (AL.go (AO.assign rfl rfl (AL.nil (AK.seqN (AC.ret (AK.blkR ?_))))))
             refine AK.blkR (AK.seqR (AK.seqR (AK.blkR (AK.seqR ?_))))
             first | refine AK.ret (L' := L) (F' := F) Tryz.results163 rfl subA (hT ?_) | refine AK.ret (L' := L) (F' := F) Tryz.results163 rfl subA (hF ?_)
             first
             | exact ⟨⟨by omega, c16, c21, fun i hi => hok i hi (by omega)⟩, c12⟩
             | exact fun e => c12 e.2
             | exact fun e => absurd e.1.2.1 (by omega)
             | exact fun e => absurd e.1.2.2.1 (by omega)
             | exact fun e => c30 (by rw [e.1.1])
             | (intro e
                have he := e.1.2.2.2 q hql
                unfold elemAtP at he
                rw [hK, hKid, hKidP, hPrev] at he
                rcases he with ⟨h1, h2, h3, h4, h5, h6⟩ | ⟨h1, h2, h3, h4⟩
                first | exact c58 h1 | exact h3 c88 | exact h4 c93 | exact h5 c101 | (have := h6 (by omega) c63; omega) | omega
                first | exact h1 c58 | exact absurd h2 (by rw [c105]; decide) | exact (h4 (by omega)).1 c109 | exact c119 h3 | exact absurd c114 (by rw [bytes_asym _ _ (h4 (by omega)).2]; decide) | (rw [leq_nil c114] at h2; exact absurd h2 (by decide)) | omega)
            ·refine AL.go (AO.pickF rfl rfl rfl (AL.go (AO.assign rfl rfl (AL.nil (AK.seqN (AC.condF rfl (AC.skip ?_)))))))
             refine AK.blkN (AK.blkN (AK.seqN (AC.region (AL.go (AO.add rfl rfl rfl (by omega) (by omega) (AL.go (AO.move rfl rfl ?_)))))))
             refine AL.nil ?_
             refine AK.next (q + 1) ⟨by omega, ?_⟩ (by omega) srA (Sub.drop.trans subF)
             intro j hj hjq
             rcases Nat.lt_succ_iff_lt_or_eq.1 hjq with k9 | rfl
             · exact hok j hj k9
             · unfold elemAtP
               rw [hK, hKid, hKidP, hPrev]
               first
               | exact Or.inl ⟨c58, c83, c88, c93, c101, fun _ _ => Int.not_le.1 c77⟩
               | exact Or.inl ⟨c58, c83, c88, c93, c101, fun _ h1 => absurd h1 c63⟩
               | exact Or.inl ⟨c58, c83, c88, c93, c101, fun h0 _ => absurd h0 (by omega)⟩
               | exact Or.inr ⟨c58, c105, c119, fun _ => ⟨c109, bytes_tri _ _ c114⟩⟩
               | exact Or.inr ⟨c58, c105, c119, fun h0 => absurd h0 (by omega)⟩
         ·refine AL.go (AO.not rfl rfl (AL.go (AO.move rfl rfl (AL.no rfl rfl rfl rfl (AL.no rfl rfl rfl rfl (AL.go (AO.pickT rfl rfl rfl (AL.go (AO.move rfl rfl ?_)))))))))
          refine AL.no rfl rfl rfl rfl (AL.no rfl rfl rfl rfl (AL.no rfl rfl rfl rfl (AL.go (AO.pickT rfl rfl rfl (AL.go (AO.move rfl rfl (AL.no rfl rfl rfl rfl ?_)))))))
          refine AL.no rfl rfl rfl rfl (AL.no rfl rfl rfl rfl (AL.go (AO.pickT rfl rfl rfl (AL.go (AO.assign rfl rfl (AL.nil (AK.seqN ?_)))))))
          refine AC.condT rfl (AC.seq (AC.region (AL.go (AO.assign rfl rfl (AL.nil (AK.seqN ?_))))))
          refine AC.ret (AK.blkR (AK.blkR (AK.seqR (AK.seqR (AK.blkR ?_)))))
          refine AK.seqR ?_
          first | refine AK.ret (L' := L) (F' := F) Tryz.results163 rfl subA (hT ?_) | refine AK.ret (L' := L) (F' := F) Tryz.results163 rfl subA (hF ?_)
          first
          | exact ⟨⟨by omega, c16, c21, fun i hi => hok i hi (by omega)⟩, c12⟩
          | exact fun e => c12 e.2
          | exact fun e => absurd e.1.2.1 (by omega)
          | exact fun e => absurd e.1.2.2.1 (by omega)
          | exact fun e => c30 (by rw [e.1.1])
          | (intro e
             have he := e.1.2.2.2 q hql
             unfold elemAtP at he
             rw [hK, hKid, hKidP, hPrev] at he
             rcases he with ⟨h1, h2, h3, h4, h5, h6⟩ | ⟨h1, h2, h3, h4⟩
             first | exact c58 h1 | exact h3 c88 | exact h4 c93 | exact h5 c101 | (have := h6 (by omega) c63; omega) | omega
             first | exact h1 c58 | exact absurd h2 (by rw [c105]; decide) | exact (h4 (by omega)).1 c109 | exact c119 h3 | exact absurd c114 (by rw [bytes_asym _ _ (h4 (by omega)).2]; decide) | (rw [leq_nil c114] at h2; exact absurd h2 (by decide)) | omega)
       ·refine AL.nil (AK.seqN (AC.condF rfl (AC.skip (AK.seqN (AC.block ?_)))))
        refine AC.seq (AC.region (AL.go (AO.move rfl rfl ?_)))
        refine AL.go (AO.call rfl rfl (pmark_c t.words[q] (fun c58 => ?_) (fun c58 => ?_)))
        ·refine AL.go (AO.assign rfl rfl (AL.nil (AK.seqN (AC.condT rfl (AC.seq ?_)))))
         refine AC.draw (fun _ => false) [(b3, _, _)] bxA rfl (fun hx hX => ?_)
         have hkk := (len_of_fact (hX (fK t a2 k2 c2) (by repeat (first | exact m2 | refine memS ?_)))).1
         obtain ⟨p2, o2, rfl, atq⟩ := row_of_fact (hX (fK t a2 k2 c2) (by repeat (first | exact m2 | refine memS ?_))) hqk
         obtain ⟨vq, hvq, hcq⟩ := atq 0 _ rfl
         cases hcq
         refine AH.takeW (i := 0) rfl (Y.move rfl) (by kernel_rfl) rfl rfl ?_
         refine AH.takeB (i := 1) rfl (Y.gtr rfl rfl) (by kernel_rfl) rfl rfl (fun c60 => absurd (of_decide_eq_true c60) (by omega)) (fun c60 => ?_)
         refine AH.takeW (i := 2) rfl (Y.move rfl) (by kernel_rfl) rfl rfl ?_
         refine AH.skip (i := 3) rfl (by kernel_rfl) rfl rfl ?_
         refine AH.skip (i := 4) rfl (by kernel_rfl) rfl rfl ?_
         refine AH.takeW (i := 5) rfl (Y.pickF rfl rfl) (by kernel_rfl) rfl rfl ?_
         refine AH.takeW (i := 6) rfl (Y.move rfl) (by kernel_rfl) rfl rfl ?_
         refine AH.skip (i := 7) rfl (by kernel_rfl) rfl rfl ?_
         refine AH.skip (i := 8) rfl (by kernel_rfl) rfl rfl ?_
         refine AH.skip (i := 9) rfl (by kernel_rfl) rfl rfl ?_
         refine AH.skip (i := 10) rfl (by kernel_rfl) rfl rfl ?_
         refine AH.skip (i := 11) rfl (by kernel_rfl) rfl rfl ?_
         refine AH.skip (i := 12) rfl (by kernel_rfl) rfl rfl ?_
         refine AH.skip (i := 13) rfl (by kernel_rfl) rfl rfl ?_
         refine AH.skip (i := 14) rfl (by kernel_rfl) rfl rfl ?_
         refine AH.skip (i := 15) rfl (by kernel_rfl) rfl rfl ?_
         refine AH.skip (i := 16) rfl (by kernel_rfl) rfl rfl ?_
         refine AH.skip (i := 17) rfl (by kernel_rfl) rfl rfl ?_
         refine AH.skip (i := 18) rfl (by kernel_rfl) rfl rfl ?_
         refine AH.takeW (i := 19) rfl (Y.pickF rfl rfl) (by kernel_rfl) rfl rfl ?_
         refine AH.takeW (i := 20) rfl (Y.assign rfl) (by kernel_rfl) rfl rfl ?_
         refine AH.done (by kernel_rfl) ?_
         refine AK.seqN (AC.seq (AC.region (AL.go (AO.move rfl rfl (AL.go (AO.move rfl rfl (AL.yes rfl rfl (AO.field rfl rfl ?_))))))))
         refine AL.yes rfl rfl (AO.loadB rfl rfl ?_)
         refine AL.yes rfl rfl (AO.lss rfl rfl rfl (fun c83 => ?_) (fun c83 => ?_))
         ·refine AL.go (AO.pickF rfl rfl rfl (AL.go (AO.move rfl rfl (AL.no rfl rfl rfl rfl (AL.no rfl rfl rfl rfl (AL.no rfl rfl rfl rfl (AL.go (AO.pickT rfl rfl rfl ?_))))))))
          refine AL.go (AO.move rfl rfl (AL.no rfl rfl rfl rfl (AL.no rfl rfl rfl rfl (AL.no rfl rfl rfl rfl (AL.go (AO.pickT rfl rfl rfl (AL.go (AO.move rfl rfl ?_))))))))
          refine AL.no rfl rfl rfl rfl (AL.no rfl rfl rfl rfl (AL.no rfl rfl rfl rfl (AL.no rfl rfl rfl rfl (AL.no rfl rfl rfl rfl (AL.no rfl rfl rfl rfl ?_)))))
          refine AL.go (AO.pickT rfl rfl rfl (AL.nil (AK.seqN (AC.condT rfl (AC.seq (AC.region ?_))))))
          refine AL.go (AO.assign rfl rfl (AL.nil (AK.seqN (AC.ret (AK.blkR (AK.blkR ?_))))))
          refine AK.seqR (AK.seqR (AK.blkR (AK.seqR ?_)))
          first | refine AK.ret (L' := L) (F' := F) Tryz.results163 rfl subA (hT ?_) | refine AK.ret (L' := L) (F' := F) Tryz.results163 rfl subA (hF ?_)
          first
          | exact ⟨⟨by omega, c16, c21, fun i hi => hok i hi (by omega)⟩, c12⟩
          | exact fun e => c12 e.2
          | exact fun e => absurd e.1.2.1 (by omega)
          | exact fun e => absurd e.1.2.2.1 (by omega)
          | exact fun e => c30 (by rw [e.1.1])
          | (intro e
             have he := e.1.2.2.2 q hql
             unfold elemAtP at he
             rw [hK, hKid, hKidP, hPrev] at he
             rcases he with ⟨h1, h2, h3, h4, h5, h6⟩ | ⟨h1, h2, h3, h4⟩
             first | exact c58 h1 | exact h3 c88 | exact h4 c93 | exact h5 c101 | (have := h6 (by omega) c63; omega) | omega
             first | exact h1 c58 | exact absurd h2 (by rw [c105]; decide) | exact (h4 (by omega)).1 c109 | exact c119 h3 | exact absurd c114 (by rw [bytes_asym _ _ (h4 (by omega)).2]; decide) | (rw [leq_nil c114] at h2; exact absurd h2 (by decide)) | omega)
         ·refine AL.go (AO.pickF rfl rfl rfl (AL.go (AO.move rfl rfl (AL.yes rfl rfl (AO.field rfl rfl ?_)))))
          refine AL.yes rfl rfl (AO.loadB rfl rfl ?_)
          refine AL.yes rfl rfl (AO.eql rfl rfl rfl (fun c88 => ?_) (fun c88 => ?_))
          ·refine AL.go (AO.pickF rfl rfl rfl (AL.go (AO.move rfl rfl (AL.no rfl rfl rfl rfl (AL.no rfl rfl rfl rfl (AL.no rfl rfl rfl rfl (AL.go (AO.pickT rfl rfl rfl ?_))))))))
           refine AL.go (AO.move rfl rfl (AL.no rfl rfl rfl rfl (AL.no rfl rfl rfl rfl (AL.no rfl rfl rfl rfl (AL.no rfl rfl rfl rfl (AL.no rfl rfl rfl rfl ?_))))))
           refine AL.no rfl rfl rfl rfl (AL.go (AO.pickT rfl rfl rfl (AL.nil (AK.seqN (AC.condT rfl (AC.seq ?_))))))
           refine AC.region (AL.go (AO.assign rfl rfl (AL.nil (AK.seqN (AC.ret (AK.blkR ?_))))))
           refine AK.blkR (AK.seqR (AK.seqR (AK.blkR (AK.seqR ?_))))
           first | refine AK.ret (L' := L) (F' := F) Tryz.results163 rfl subA (hT ?_) | refine AK.ret (L' := L) (F' := F) Tryz.results163 rfl subA (hF ?_)
           first
           | exact ⟨⟨by omega, c16, c21, fun i hi => hok i hi (by omega)⟩, c12⟩
           | exact fun e => c12 e.2
           | exact fun e => absurd e.1.2.1 (by omega)
           | exact fun e => absurd e.1.2.2.1 (by omega)
           | exact fun e => c30 (by rw [e.1.1])
           | (intro e
              have he := e.1.2.2.2 q hql
              unfold elemAtP at he
              rw [hK, hKid, hKidP, hPrev] at he
              rcases he with ⟨h1, h2, h3, h4, h5, h6⟩ | ⟨h1, h2, h3, h4⟩
              first | exact c58 h1 | exact h3 c88 | exact h4 c93 | exact h5 c101 | (have := h6 (by omega) c63; omega) | omega
              first | exact h1 c58 | exact absurd h2 (by rw [c105]; decide) | exact (h4 (by omega)).1 c109 | exact c119 h3 | exact absurd c114 (by rw [bytes_asym _ _ (h4 (by omega)).2]; decide) | (rw [leq_nil c114] at h2; exact absurd h2 (by decide)) | omega)
          ·refine AL.go (AO.pickF rfl rfl rfl (AL.go (AO.move rfl rfl (AL.yes rfl rfl (AO.field rfl rfl ?_)))))
           refine AL.yes rfl rfl (AO.loadB rfl rfl ?_)
           refine AL.yes rfl rfl (AO.eql rfl rfl rfl (fun c93 => ?_) (fun c93 => ?_))
           ·refine AL.go (AO.pickF rfl rfl rfl (AL.go (AO.move rfl rfl (AL.no rfl rfl rfl rfl (AL.no rfl rfl rfl rfl (AL.no rfl rfl rfl rfl (AL.no rfl rfl rfl rfl ?_)))))))
            refine AL.no rfl rfl rfl rfl (AL.no rfl rfl rfl rfl (AL.go (AO.pickT rfl rfl rfl (AL.nil (AK.seqN (AC.condT rfl ?_))))))
            refine AC.seq (AC.region (AL.go (AO.assign rfl rfl (AL.nil (AK.seqN (AC.ret ?_))))))
            refine AK.blkR (AK.blkR (AK.seqR (AK.seqR (AK.blkR (AK.seqR ?_)))))
            first | refine AK.ret (L' := L) (F' := F) Tryz.results163 rfl subA (hT ?_) | refine AK.ret (L' := L) (F' := F) Tryz.results163 rfl subA (hF ?_)
            first
            | exact ⟨⟨by omega, c16, c21, fun i hi => hok i hi (by omega)⟩, c12⟩
            | exact fun e => c12 e.2
            | exact fun e => absurd e.1.2.1 (by omega)
            | exact fun e => absurd e.1.2.2.1 (by omega)
            | exact fun e => c30 (by rw [e.1.1])
            | (intro e
               have he := e.1.2.2.2 q hql
               unfold elemAtP at he
               rw [hK, hKid, hKidP, hPrev] at he
               rcases he with ⟨h1, h2, h3, h4, h5, h6⟩ | ⟨h1, h2, h3, h4⟩
               first | exact c58 h1 | exact h3 c88 | exact h4 c93 | exact h5 c101 | (have := h6 (by omega) c63; omega) | omega
               first | exact h1 c58 | exact absurd h2 (by rw [c105]; decide) | exact (h4 (by omega)).1 c109 | exact c119 h3 | exact absurd c114 (by rw [bytes_asym _ _ (h4 (by omega)).2]; decide) | (rw [leq_nil c114] at h2; exact absurd h2 (by decide)) | omega)
           ·refine AL.go (AO.pickF rfl rfl rfl (AL.go (AO.move rfl rfl (AL.yes rfl rfl (AO.field rfl rfl ?_)))))
            refine AL.yes rfl rfl (AO.loadB rfl rfl ?_)
            refine AL.yes rfl rfl (AO.move rfl rfl ?_)
            refine AL.yes rfl rfl (AO.indexAddr rfl rfl rfl rfl memA (by first | omega | (simp; omega)) (fun _ _ => ?_))
            refine AL.yes rfl rfl (AO.loadF rfl rfl ?_)
            intros
            refine AL.yes rfl rfl (AO.call rfl rfl (untyped_c t.kids[q] (fun c101 => ?_) (fun c101 => ?_)))
            ·refine AL.go (AO.pickF rfl rfl rfl (AL.nil (AK.seqN (AC.condT rfl (AC.seq (AC.region ?_))))))
             refine AL.go (AO.assign rfl rfl (AL.nil (AK.seqN (AC.ret (AK.blkR (AK.blkR ?_))))))
             refine AK.seqR (AK.seqR (AK.blkR (AK.seqR ?_)))
             first | refine AK.ret (L' := L) (F' := F) Tryz.results163 rfl subA (hT ?_) | refine AK.ret (L' := L) (F' := F) Tryz.results163 rfl subA (hF ?_)
             first
             | exact ⟨⟨by omega, c16, c21, fun i hi => hok i hi (by omega)⟩, c12⟩
             | exact fun e => c12 e.2
             | exact fun e => absurd e.1.2.1 (by omega)
             | exact fun e => absurd e.1.2.2.1 (by omega)
             | exact fun e => c30 (by rw [e.1.1])
             | (intro e
                have he := e.1.2.2.2 q hql
                unfold elemAtP at he
                rw [hK, hKid, hKidP, hPrev] at he
                rcases he with ⟨h1, h2, h3, h4, h5, h6⟩ | ⟨h1, h2, h3, h4⟩
                first | exact c58 h1 | exact h3 c88 | exact h4 c93 | exact h5 c101 | (have := h6 (by omega) c63; omega) | omega
                first | exact h1 c58 | exact absurd h2 (by rw [c105]; decide) | exact (h4 (by omega)).1 c109 | exact c119 h3 | exact absurd c114 (by rw [bytes_asym _ _ (h4 (by omega)).2]; decide) | (rw [leq_nil c114] at h2; exact absurd h2 (by decide)) | omega)
            ·refine AL.go (AO.pickF rfl rfl rfl (AL.nil (AK.seqN (AC.condF rfl (AC.skip (AK.blkN ?_))))))
             refine AK.blkN (AK.seqN (AC.region (AL.go (AO.add rfl rfl rfl (by omega) (by omega) (AL.go (AO.move rfl rfl (AL.nil ?_)))))))
             refine AK.next (q + 1) ⟨by omega, ?_⟩ (by omega) srA (Sub.drop.trans subF)
             intro j hj hjq
             rcases Nat.lt_succ_iff_lt_or_eq.1 hjq with k9 | rfl
             · exact hok j hj k9
             · unfold elemAtP
               rw [hK, hKid, hKidP, hPrev]
               first
               | exact Or.inl ⟨c58, c83, c88, c93, c101, fun _ _ => Int.not_le.1 c77⟩
               | exact Or.inl ⟨c58, c83, c88, c93, c101, fun _ h1 => absurd h1 c63⟩
               | exact Or.inl ⟨c58, c83, c88, c93, c101, fun h0 _ => absurd h0 (by omega)⟩
               | exact Or.inr ⟨c58, c105, c119, fun _ => ⟨c109, bytes_tri _ _ c114⟩⟩
               | exact Or.inr ⟨c58, c105, c119, fun h0 => absurd h0 (by omega)⟩
        ·refine AL.go (AO.assign rfl rfl (AL.nil (AK.seqN (AC.condF rfl (AC.seq (AC.region ?_))))))
         refine AL.go (AO.move rfl rfl ?_)
         refine AL.go (AO.call rfl rfl (src_Name_c t.words[q] (fun c105 => ?_) (fun c105 => ?_)))
         ·refine AL.go (AO.not rfl rfl (AL.go (AO.move rfl rfl (AL.yes rfl rfl (AO.move rfl rfl ?_)))))
          refine AL.yes rfl rfl (AO.call rfl rfl (pmark_c [] (fun c109 => absurd c109 mark_nil) (fun c109 => ?_)))
          refine AL.go (AO.pickF rfl rfl rfl (AL.go (AO.move rfl rfl (AL.yes rfl rfl (AO.move rfl rfl (AL.yes rfl rfl (AO.move rfl rfl ?_)))))))
          refine AL.yes rfl rfl (AO.leqS rfl rfl rfl (fun c114 => ?_) (fun c114 => ?_))
          ·refine AL.go (AO.pickF rfl rfl rfl (AL.go (AO.move rfl rfl (AL.no rfl rfl rfl rfl (AL.no rfl rfl rfl rfl (AL.no rfl rfl rfl rfl (AL.go (AO.pickT rfl rfl rfl ?_))))))))
           refine AL.go (AO.assign rfl rfl (AL.nil (AK.seqN (AC.condT rfl (AC.seq (AC.region ?_))))))
           refine AL.go (AO.assign rfl rfl (AL.nil (AK.seqN (AC.ret (AK.blkR (AK.blkR ?_))))))
           refine AK.seqR (AK.seqR (AK.blkR (AK.seqR ?_)))
           first | refine AK.ret (L' := L) (F' := F) Tryz.results163 rfl subA (hT ?_) | refine AK.ret (L' := L) (F' := F) Tryz.results163 rfl subA (hF ?_)
           first
           | exact ⟨⟨by omega, c16, c21, fun i hi => hok i hi (by omega)⟩, c12⟩
           | exact fun e => c12 e.2
           | exact fun e => absurd e.1.2.1 (by omega)
           | exact fun e => absurd e.1.2.2.1 (by omega)
           | exact fun e => c30 (by rw [e.1.1])
           | (intro e
              have he := e.1.2.2.2 q hql
              unfold elemAtP at he
              rw [hK, hKid, hKidP, hPrev] at he
              rcases he with ⟨h1, h2, h3, h4, h5, h6⟩ | ⟨h1, h2, h3, h4⟩
              first | exact c58 h1 | exact h3 c88 | exact h4 c93 | exact h5 c101 | (have := h6 (by omega) c63; omega) | omega
              first | exact h1 c58 | exact absurd h2 (by rw [c105]; decide) | exact (h4 (by omega)).1 c109 | exact c119 h3 | exact absurd c114 (by rw [bytes_asym _ _ (h4 (by omega)).2]; decide) | (rw [leq_nil c114] at h2; exact absurd h2 (by decide)) | omega)
          ·refine AL.go (AO.pickF rfl rfl rfl (AL.go (AO.move rfl rfl (AL.yes rfl rfl (AO.field rfl rfl ?_)))))
           refine AL.yes rfl rfl (AO.loadB rfl rfl ?_)
           refine AL.yes rfl rfl (AO.neq rfl rfl rfl (fun c119 => ?_) (fun c119 => ?_))
           ·refine AL.go (AO.pickF rfl rfl rfl (AL.go (AO.assign rfl rfl (AL.nil (AK.seqN (AC.condT rfl (AC.seq ?_)))))))
            refine AC.region (AL.go (AO.assign rfl rfl (AL.nil (AK.seqN (AC.ret (AK.blkR ?_))))))
            refine AK.blkR (AK.seqR (AK.seqR (AK.blkR (AK.seqR ?_))))
            first | refine AK.ret (L' := L) (F' := F) Tryz.results163 rfl subA (hT ?_) | refine AK.ret (L' := L) (F' := F) Tryz.results163 rfl subA (hF ?_)
            first
            | exact ⟨⟨by omega, c16, c21, fun i hi => hok i hi (by omega)⟩, c12⟩
            | exact fun e => c12 e.2
            | exact fun e => absurd e.1.2.1 (by omega)
            | exact fun e => absurd e.1.2.2.1 (by omega)
            | exact fun e => c30 (by rw [e.1.1])
            | (intro e
               have he := e.1.2.2.2 q hql
               unfold elemAtP at he
               rw [hK, hKid, hKidP, hPrev] at he
               rcases he with ⟨h1, h2, h3, h4, h5, h6⟩ | ⟨h1, h2, h3, h4⟩
               first | exact c58 h1 | exact h3 c88 | exact h4 c93 | exact h5 c101 | (have := h6 (by omega) c63; omega) | omega
               first | exact h1 c58 | exact absurd h2 (by rw [c105]; decide) | exact (h4 (by omega)).1 c109 | exact c119 h3 | exact absurd c114 (by rw [bytes_asym _ _ (h4 (by omega)).2]; decide) | (rw [leq_nil c114] at h2; exact absurd h2 (by decide)) | omega)
           ·refine AL.go (AO.pickF rfl rfl rfl (AL.go (AO.assign rfl rfl (AL.nil (AK.seqN (AC.condF rfl (AC.skip ?_)))))))
            refine AK.blkN (AK.blkN (AK.seqN (AC.region (AL.go (AO.add rfl rfl rfl (by omega) (by omega) (AL.go (AO.move rfl rfl ?_)))))))
            refine AL.nil ?_
            refine AK.next (q + 1) ⟨by omega, ?_⟩ (by omega) srA (Sub.drop.trans subF)
            intro j hj hjq
            rcases Nat.lt_succ_iff_lt_or_eq.1 hjq with k9 | rfl
            · exact hok j hj k9
            · unfold elemAtP
              rw [hK, hKid, hKidP, hPrev]
              first
              | exact Or.inl ⟨c58, c83, c88, c93, c101, fun _ _ => Int.not_le.1 c77⟩
              | exact Or.inl ⟨c58, c83, c88, c93, c101, fun _ h1 => absurd h1 c63⟩
              | exact Or.inl ⟨c58, c83, c88, c93, c101, fun h0 _ => absurd h0 (by omega)⟩
              | exact Or.inr ⟨c58, c105, c119, fun _ => ⟨c109, bytes_tri _ _ c114⟩⟩
              | exact Or.inr ⟨c58, c105, c119, fun h0 => absurd h0 (by omega)⟩
         ·refine AL.go (AO.not rfl rfl (AL.go (AO.move rfl rfl (AL.no rfl rfl rfl rfl (AL.no rfl rfl rfl rfl (AL.go (AO.pickT rfl rfl rfl (AL.go (AO.move rfl rfl ?_)))))))))
          refine AL.no rfl rfl rfl rfl (AL.no rfl rfl rfl rfl (AL.no rfl rfl rfl rfl (AL.go (AO.pickT rfl rfl rfl (AL.go (AO.move rfl rfl (AL.no rfl rfl rfl rfl ?_)))))))
          refine AL.no rfl rfl rfl rfl (AL.no rfl rfl rfl rfl (AL.go (AO.pickT rfl rfl rfl (AL.go (AO.assign rfl rfl (AL.nil (AK.seqN ?_)))))))
          refine AC.condT rfl (AC.seq (AC.region (AL.go (AO.assign rfl rfl (AL.nil (AK.seqN ?_))))))
          refine AC.ret (AK.blkR (AK.blkR (AK.seqR (AK.seqR (AK.blkR ?_)))))
          refine AK.seqR ?_
          first | refine AK.ret (L' := L) (F' := F) Tryz.results163 rfl subA (hT ?_) | refine AK.ret (L' := L) (F' := F) Tryz.results163 rfl subA (hF ?_)
          first
          | exact ⟨⟨by omega, c16, c21, fun i hi => hok i hi (by omega)⟩, c12⟩
          | exact fun e => c12 e.2
          | exact fun e => absurd e.1.2.1 (by omega)
          | exact fun e => absurd e.1.2.2.1 (by omega)
          | exact fun e => c30 (by rw [e.1.1])
          | (intro e
             have he := e.1.2.2.2 q hql
             unfold elemAtP at he
             rw [hK, hKid, hKidP, hPrev] at he
             rcases he with ⟨h1, h2, h3, h4, h5, h6⟩ | ⟨h1, h2, h3, h4⟩
             first | exact c58 h1 | exact h3 c88 | exact h4 c93 | exact h5 c101 | (have := h6 (by omega) c63; omega) | omega
             first | exact h1 c58 | exact absurd h2 (by rw [c105]; decide) | exact (h4 (by omega)).1 c109 | exact c119 h3 | exact absurd c114 (by rw [bytes_asym _ _ (h4 (by omega)).2]; decide) | (rw [leq_nil c114] at h2; exact absurd h2 (by decide)) | omega)
      ·refine AL.nil (AK.seqN (AC.seq (AC.condF rfl (AC.exit (AK.seqX ?_)))))
       refine AK.seqX (AK.blkX (AK.seqN (AC.seq (AC.region (AL.go (AO.assign rfl rfl ?_))))))
       refine AL.nil (AK.seqN (AC.ret ?_))
       first | refine AK.ret (L' := L) (F' := F) Tryz.results163 rfl subA (hT ?_) | refine AK.ret (L' := L) (F' := F) Tryz.results163 rfl subA (hF ?_)
       first
       | exact ⟨⟨by omega, c16, c21, fun i hi => hok i hi (by omega)⟩, c12⟩
       | exact fun e => c12 e.2
       | exact fun e => absurd e.1.2.1 (by omega)
       | exact fun e => absurd e.1.2.2.1 (by omega)
       | exact fun e => c30 (by rw [e.1.1])
       | (intro e
          have he := e.1.2.2.2 q hql
          unfold elemAtP at he
          rw [hK, hKid, hKidP, hPrev] at he
          rcases he with ⟨h1, h2, h3, h4, h5, h6⟩ | ⟨h1, h2, h3, h4⟩
          first | exact c58 h1 | exact h3 c88 | exact h4 c93 | exact h5 c101 | (have := h6 (by omega) c63; omega) | omega
          first | exact h1 c58 | exact absurd h2 (by rw [c105]; decide) | exact (h4 (by omega)).1 c109 | exact c119 h3 | exact absurd c114 (by rw [bytes_asym _ _ (h4 (by omega)).2]; decide) | (rw [leq_nil c114] at h2; exact absurd h2 (by decide)) | omega)
end
end Go.Sy
namespace Go.Sy
open Go Go.Proofs Go.RowKit
section
variable {l : List Ty} {t : Ty}
theorem madeK_1 (h : t.kind = 1) : madeK l t ↔ (t.n = 0 ∧ t.kids.length = 1) := by
  unfold madeK
  constructor
  · rintro (e | e | e | e | e | e | e | e | e)
    all_goals first | (exfalso; have := e.1; omega) | exact e.2
  · intro e
    first | exact Or.inl ⟨h, e⟩ | exact Or.inr (Or.inl ⟨h, e⟩) | exact Or.inr (Or.inr (Or.inl ⟨h, e⟩)) | exact Or.inr (Or.inr (Or.inr (Or.inl ⟨h, e⟩))) | exact Or.inr (Or.inr (Or.inr (Or.inr (Or.inl ⟨h, e⟩)))) | exact Or.inr (Or.inr (Or.inr (Or.inr (Or.inr (Or.inl ⟨h, e⟩))))) | exact Or.inr (Or.inr (Or.inr (Or.inr (Or.inr (Or.inr (Or.inl ⟨h, e⟩)))))) | exact Or.inr (Or.inr (Or.inr (Or.inr (Or.inr (Or.inr (Or.inr (Or.inl ⟨h, e⟩))))))) | exact Or.inr (Or.inr (Or.inr (Or.inr (Or.inr (Or.inr (Or.inr (Or.inr ⟨h, e⟩)))))))
theorem madeK_2 (h : t.kind = 2) : madeK l t ↔ (t.n = 0 ∧ t.kids.length = 1) := by
  unfold madeK
  constructor
  · rintro (e | e | e | e | e | e | e | e | e)
    all_goals first | (exfalso; have := e.1; omega) | exact e.2
  · intro e
    first | exact Or.inl ⟨h, e⟩ | exact Or.inr (Or.inl ⟨h, e⟩) | exact Or.inr (Or.inr (Or.inl ⟨h, e⟩)) | exact Or.inr (Or.inr (Or.inr (Or.inl ⟨h, e⟩))) | exact Or.inr (Or.inr (Or.inr (Or.inr (Or.inl ⟨h, e⟩)))) | exact Or.inr (Or.inr (Or.inr (Or.inr (Or.inr (Or.inl ⟨h, e⟩))))) | exact Or.inr (Or.inr (Or.inr (Or.inr (Or.inr (Or.inr (Or.inl ⟨h, e⟩)))))) | exact Or.inr (Or.inr (Or.inr (Or.inr (Or.inr (Or.inr (Or.inr (Or.inl ⟨h, e⟩))))))) | exact Or.inr (Or.inr (Or.inr (Or.inr (Or.inr (Or.inr (Or.inr (Or.inr ⟨h, e⟩)))))))
theorem madeK_3 (h : t.kind = 3) : madeK l t ↔ (0 ≤ t.n ∧ t.n ≤ 2147483648 ∧ t.kids.length = 1) := by
  unfold madeK
  constructor
  · rintro (e | e | e | e | e | e | e | e | e)
    all_goals first | (exfalso; have := e.1; omega) | exact e.2
  · intro e
    first | exact Or.inl ⟨h, e⟩ | exact Or.inr (Or.inl ⟨h, e⟩) | exact Or.inr (Or.inr (Or.inl ⟨h, e⟩)) | exact Or.inr (Or.inr (Or.inr (Or.inl ⟨h, e⟩))) | exact Or.inr (Or.inr (Or.inr (Or.inr (Or.inl ⟨h, e⟩)))) | exact Or.inr (Or.inr (Or.inr (Or.inr (Or.inr (Or.inl ⟨h, e⟩))))) | exact Or.inr (Or.inr (Or.inr (Or.inr (Or.inr (Or.inr (Or.inl ⟨h, e⟩)))))) | exact Or.inr (Or.inr (Or.inr (Or.inr (Or.inr (Or.inr (Or.inr (Or.inl ⟨h, e⟩))))))) | exact Or.inr (Or.inr (Or.inr (Or.inr (Or.inr (Or.inr (Or.inr (Or.inr ⟨h, e⟩)))))))
theorem madeK_4 (h : t.kind = 4) : madeK l t ↔ (t.n = 0 ∧ t.kids.length = 2) := by
  unfold madeK
  constructor
  · rintro (e | e | e | e | e | e | e | e | e)
    all_goals first | (exfalso; have := e.1; omega) | exact e.2
  · intro e
    first | exact Or.inl ⟨h, e⟩ | exact Or.inr (Or.inl ⟨h, e⟩) | exact Or.inr (Or.inr (Or.inl ⟨h, e⟩)) | exact Or.inr (Or.inr (Or.inr (Or.inl ⟨h, e⟩))) | exact Or.inr (Or.inr (Or.inr (Or.inr (Or.inl ⟨h, e⟩)))) | exact Or.inr (Or.inr (Or.inr (Or.inr (Or.inr (Or.inl ⟨h, e⟩))))) | exact Or.inr (Or.inr (Or.inr (Or.inr (Or.inr (Or.inr (Or.inl ⟨h, e⟩)))))) | exact Or.inr (Or.inr (Or.inr (Or.inr (Or.inr (Or.inr (Or.inr (Or.inl ⟨h, e⟩))))))) | exact Or.inr (Or.inr (Or.inr (Or.inr (Or.inr (Or.inr (Or.inr (Or.inr ⟨h, e⟩)))))))
theorem madeK_5 (h : t.kind = 5) : madeK l t ↔ (t.n = 0 ∨ t.n = 1 ∧ 0 < t.kids.length) := by
  unfold madeK
  constructor
  · rintro (e | e | e | e | e | e | e | e | e)
    all_goals first | (exfalso; have := e.1; omega) | exact e.2
  · intro e
    first | exact Or.inl ⟨h, e⟩ | exact Or.inr (Or.inl ⟨h, e⟩) | exact Or.inr (Or.inr (Or.inl ⟨h, e⟩)) | exact Or.inr (Or.inr (Or.inr (Or.inl ⟨h, e⟩))) | exact Or.inr (Or.inr (Or.inr (Or.inr (Or.inl ⟨h, e⟩)))) | exact Or.inr (Or.inr (Or.inr (Or.inr (Or.inr (Or.inl ⟨h, e⟩))))) | exact Or.inr (Or.inr (Or.inr (Or.inr (Or.inr (Or.inr (Or.inl ⟨h, e⟩)))))) | exact Or.inr (Or.inr (Or.inr (Or.inr (Or.inr (Or.inr (Or.inr (Or.inl ⟨h, e⟩))))))) | exact Or.inr (Or.inr (Or.inr (Or.inr (Or.inr (Or.inr (Or.inr (Or.inr ⟨h, e⟩)))))))
theorem madeK_6 (h : t.kind = 6) : madeK l t ↔ (t.n = 0 ∧ fieldsP t.words ∧ t.words.length = t.kids.length) := by
  unfold madeK
  constructor
  · rintro (e | e | e | e | e | e | e | e | e)
    all_goals first | (exfalso; have := e.1; omega) | exact e.2
  · intro e
    first | exact Or.inl ⟨h, e⟩ | exact Or.inr (Or.inl ⟨h, e⟩) | exact Or.inr (Or.inr (Or.inl ⟨h, e⟩)) | exact Or.inr (Or.inr (Or.inr (Or.inl ⟨h, e⟩))) | exact Or.inr (Or.inr (Or.inr (Or.inr (Or.inl ⟨h, e⟩)))) | exact Or.inr (Or.inr (Or.inr (Or.inr (Or.inr (Or.inl ⟨h, e⟩))))) | exact Or.inr (Or.inr (Or.inr (Or.inr (Or.inr (Or.inr (Or.inl ⟨h, e⟩)))))) | exact Or.inr (Or.inr (Or.inr (Or.inr (Or.inr (Or.inr (Or.inr (Or.inl ⟨h, e⟩))))))) | exact Or.inr (Or.inr (Or.inr (Or.inr (Or.inr (Or.inr (Or.inr (Or.inr ⟨h, e⟩)))))))
theorem madeK_7 (h : t.kind = 7) : madeK l t ↔ (elemsP l t) := by
  unfold madeK
  constructor
  · rintro (e | e | e | e | e | e | e | e | e)
    all_goals first | (exfalso; have := e.1; omega) | exact e.2
  · intro e
    first | exact Or.inl ⟨h, e⟩ | exact Or.inr (Or.inl ⟨h, e⟩) | exact Or.inr (Or.inr (Or.inl ⟨h, e⟩)) | exact Or.inr (Or.inr (Or.inr (Or.inl ⟨h, e⟩))) | exact Or.inr (Or.inr (Or.inr (Or.inr (Or.inl ⟨h, e⟩)))) | exact Or.inr (Or.inr (Or.inr (Or.inr (Or.inr (Or.inl ⟨h, e⟩))))) | exact Or.inr (Or.inr (Or.inr (Or.inr (Or.inr (Or.inr (Or.inl ⟨h, e⟩)))))) | exact Or.inr (Or.inr (Or.inr (Or.inr (Or.inr (Or.inr (Or.inr (Or.inl ⟨h, e⟩))))))) | exact Or.inr (Or.inr (Or.inr (Or.inr (Or.inr (Or.inr (Or.inr (Or.inr ⟨h, e⟩)))))))
theorem madeK_8 (h : t.kind = 8) : madeK l t ↔ (t.n = 0 ∧ namedP t.name) := by
  unfold madeK
  constructor
  · rintro (e | e | e | e | e | e | e | e | e)
    all_goals first | (exfalso; have := e.1; omega) | exact e.2
  · intro e
    first | exact Or.inl ⟨h, e⟩ | exact Or.inr (Or.inl ⟨h, e⟩) | exact Or.inr (Or.inr (Or.inl ⟨h, e⟩)) | exact Or.inr (Or.inr (Or.inr (Or.inl ⟨h, e⟩))) | exact Or.inr (Or.inr (Or.inr (Or.inr (Or.inl ⟨h, e⟩)))) | exact Or.inr (Or.inr (Or.inr (Or.inr (Or.inr (Or.inl ⟨h, e⟩))))) | exact Or.inr (Or.inr (Or.inr (Or.inr (Or.inr (Or.inr (Or.inl ⟨h, e⟩)))))) | exact Or.inr (Or.inr (Or.inr (Or.inr (Or.inr (Or.inr (Or.inr (Or.inl ⟨h, e⟩))))))) | exact Or.inr (Or.inr (Or.inr (Or.inr (Or.inr (Or.inr (Or.inr (Or.inr ⟨h, e⟩)))))))
theorem madeK_9 (h : t.kind = 9) : madeK l t ↔ (0 ≤ t.n ∧ t.n < 16 ∧ t.kids.length = 0) := by
  unfold madeK
  constructor
  · rintro (e | e | e | e | e | e | e | e | e)
    all_goals first | (exfalso; have := e.1; omega) | exact e.2
  · intro e
    first | exact Or.inl ⟨h, e⟩ | exact Or.inr (Or.inl ⟨h, e⟩) | exact Or.inr (Or.inr (Or.inl ⟨h, e⟩)) | exact Or.inr (Or.inr (Or.inr (Or.inl ⟨h, e⟩))) | exact Or.inr (Or.inr (Or.inr (Or.inr (Or.inl ⟨h, e⟩)))) | exact Or.inr (Or.inr (Or.inr (Or.inr (Or.inr (Or.inl ⟨h, e⟩))))) | exact Or.inr (Or.inr (Or.inr (Or.inr (Or.inr (Or.inr (Or.inl ⟨h, e⟩)))))) | exact Or.inr (Or.inr (Or.inr (Or.inr (Or.inr (Or.inr (Or.inr (Or.inl ⟨h, e⟩))))))) | exact Or.inr (Or.inr (Or.inr (Or.inr (Or.inr (Or.inr (Or.inr (Or.inr ⟨h, e⟩)))))))
theorem madeK_no (h1 : t.kind ≠ 1) (h2 : t.kind ≠ 2) (h3 : t.kind ≠ 3) (h4 : t.kind ≠ 4) (h5 : t.kind ≠ 5) (h6 : t.kind ≠ 6) (h7 : t.kind ≠ 7) (h8 : t.kind ≠ 8) (h9 : t.kind ≠ 9) : ¬ madeK l t := by
  unfold madeK
  rintro (e | e | e | e | e | e | e | e | e)
  all_goals (have := e.1; omega)
theorem made_bare (hk : kidsP l t) (hl : (t.kids.length : Int) ≤ 16) (hb : t.name = [] ∧ t.words = []) (hK : madeK l t) : madeP l t := ⟨hk, by omega, fun _ => hb.1, fun _ _ => hb.2, hK⟩
theorem made_nobare (h8 : t.kind ≠ 8) (h6 : t.kind ≠ 6) (h7 : t.kind ≠ 7) (hb : ¬(t.name = [] ∧ t.words = [])) : ¬ madeP l t := fun e => hb ⟨e.2.2.1 h8, e.2.2.2.1 h6 h7⟩
theorem made_noK (h : ¬ madeK l t) : ¬ madeP l t := fun e => h e.2.2.2.2
theorem made_nokids (h : ¬ ∀ j (hj : j < t.kids.length), ¬(t.kids[j] < 0 ∨ t.kids[j] ≥ l.length)) : ¬ madeP l t := by
  intro e
  refine h (fun j hj hk => ?_)
  have := e.1 _ (List.getElem_mem hj)
  omega
theorem made_long (h : (t.kids.length : Int) > 16) : ¬ madeP l t := fun e => by have := e.2.1; omega
end
attribute [local irreducible] AC AT AO AK AH ACalls Sub Res.cells Res.nix Res.own Res.map Exit.then Exit.inBlock bodyPost Code.wp Code.wpIn WL Next Post Kont
section
variable {W0 : World} {L : List Res} {F : List Fact} {R : Value → List Res → List Fact → Prop}
set_option maxRecDepth 100000
set_option maxHeartbeats 4000000
theorem made_c (g : Glob W0) (l : List Ty) (t : Ty) (ht : TyOk t) {a1 a2 a3 : Option Addr} {k1 c1 k2 c2 k3 c3 : Nat} (m1 : fW t a1 k1 c1 ∈ F) (m2 : fK t a2 k2 c2 ∈ F) (m3 : fL l a3 k3 c3 ∈ F)
    (hT : madeP l t → R (.bool true) L F) (hF : ¬ madeP l t → R (.bool false) L F) : ACalls Tryz.prog W0 101 #[.slice a3 k3 c3, vTy t a1 k1 c1 a2 k2 c2] L F R := by
  have hnm := ht.name
  refine ACalls.body Tryz.func101 rfl Tryz.ntmps101 rfl ?_
  refine AC.seq (AC.region (AL.go (AO.box rfl rfl (fun b2 => ?_))))
  refine AL.go (AO.box rfl rfl (fun b3 => ?_))
  refine AL.go (AO.assign rfl rfl (AL.nil (AK.seqN (AC.seq (AC.seq (AC.region ?_))))))
  refine AL.go (AO.field rfl rfl ?_)
  refine AL.go (AO.loadB rfl rfl ?_)
  refine AL.go (AO.makeFunc rfl rfl ?_)
  refine AL.go (AO.call rfl rfl (containsFuncI_c t.kids m2 _ [.pointer (some ⟨b2, 0, none⟩)] (fun s => s < 0 ∨ s ≥ l.length) (fun s F' hF' R hT hF => made1_c l s (i := 1) (hF' _ m3) rfl hT hF) (fun c9 => ?_) (fun c9 => ?_)))
  ·refine AL.go (AO.move rfl rfl (AL.no rfl rfl rfl rfl (AL.no rfl rfl rfl rfl (AL.no rfl rfl rfl rfl (AL.no rfl rfl rfl rfl (AL.go (AO.pickT rfl rfl rfl ?_)))))))
   refine AL.nil (AK.seqN (AC.condT rfl (AC.seq (AC.region (AL.go (AO.assign rfl rfl ?_))))))
   refine AL.nil (AK.seqN (AC.ret (AK.seqR ?_)))
   first | refine AK.ret (L' := L) (F' := F) Tryz.results101 rfl subA (hT ?_) | refine AK.ret (L' := L) (F' := F) Tryz.results101 rfl subA (hF ?_)
   first
   | exact made_nokids c9
   | exact made_long c14
   | exact made_noK (madeK_no c22 c23 c36 c54 c67 c85 c89 c94 c110)
  ·refine AL.go (AO.move rfl rfl (AL.yes rfl rfl (AO.field rfl rfl ?_)))
   refine AL.yes rfl rfl (AO.loadB rfl rfl ?_)
   refine AL.yes rfl rfl (AO.len rfl rfl (fun hl13 => ?_) (hm := by repeat (first | exact mem0 | assumption | refine memS ?_)))
   refine AL.yes rfl rfl (AO.gtr rfl rfl rfl (fun c14 => ?_) (fun c14 => ?_))
   ·refine AL.go (AO.pickF rfl rfl rfl (AL.nil (AK.seqN (AC.condT rfl (AC.seq (AC.region ?_))))))
    refine AL.go (AO.assign rfl rfl (AL.nil (AK.seqN (AC.ret (AK.seqR ?_)))))
    first | refine AK.ret (L' := L) (F' := F) Tryz.results101 rfl subA (hT ?_) | refine AK.ret (L' := L) (F' := F) Tryz.results101 rfl subA (hF ?_)
    first
    | exact made_nokids c9
    | exact made_long c14
    | exact made_noK (madeK_no c22 c23 c36 c54 c67 c85 c89 c94 c110)
   ·refine AL.go (AO.pickF rfl rfl rfl (AL.nil (AK.seqN (AC.condF rfl (AC.skip (AK.seqN ?_))))))
    refine AC.seq (AC.region (AL.go (AO.field rfl rfl ?_)))
    refine AL.go (AO.loadB rfl rfl ?_)
    refine AL.go (AO.len rfl rfl (fun hl18 => ?_) (hm := by repeat (first | exact mem0 | assumption | refine memS ?_)))
    refine AL.go (AO.assign rfl rfl (AL.nil (AK.seqN (AC.seq (AC.seq (AC.region ?_))))))
    refine AL.go (AO.field rfl rfl ?_)
    refine AL.go (AO.loadB rfl rfl ?_)
    refine AL.nil (AK.seqN (AC.block (AC.seq (AC.seq (AC.region ?_)))))
    refine AL.go (AO.eql rfl rfl rfl (fun c22 => ?_) (fun c22 => ?_))
    ·refine AL.go (AO.assign rfl rfl (AL.nil (AK.seqN (AC.condT rfl (AC.skip (AK.seqN ?_))))))
     refine AC.condT rfl (AC.seq (AC.region ?_))
     refine AL.go (AO.loadBA rfl rfl ?_)
     refine AL.go (AO.call rfl rfl (bare_c t memA (fun c25 => ?_) (fun c25 => ?_)))
     ·refine AL.go (AO.move rfl rfl (AL.yes rfl rfl (AO.field rfl rfl ?_)))
      refine AL.yes rfl rfl (AO.loadB rfl rfl ?_)
      refine AL.yes rfl rfl (AO.eql rfl rfl rfl (fun c29 => ?_) (fun c29 => ?_))
      ·refine AL.go (AO.pickT rfl rfl rfl (AL.go (AO.move rfl rfl (AL.yes rfl rfl (AO.move rfl rfl ?_)))))
       refine AL.yes rfl rfl (AO.eql rfl rfl rfl (fun c33 => ?_) (fun c33 => ?_))
       ·refine AL.go (AO.pickT rfl rfl rfl (AL.go (AO.assign rfl rfl (AL.nil (AK.seqN (AC.ret (AK.blkR ?_)))))))
        refine AK.seqR ?_
        first | refine AK.ret (L' := L) (F' := F) Tryz.results101 rfl subA (hT ?_) | refine AK.ret (L' := L) (F' := F) Tryz.results101 rfl subA (hF ?_)
        first
        | exact made_bare (kids_yes c9) c14 c25 ((madeK_1 c22).2 (by omega))
        | exact made_nobare (by omega) (by omega) (by omega) c25
        | (refine made_noK (fun e => ?_); have e := (madeK_1 c22).1 e; omega)
       ·refine AL.go (AO.pickT rfl rfl rfl (AL.go (AO.assign rfl rfl (AL.nil (AK.seqN (AC.ret (AK.blkR ?_)))))))
        refine AK.seqR ?_
        first | refine AK.ret (L' := L) (F' := F) Tryz.results101 rfl subA (hT ?_) | refine AK.ret (L' := L) (F' := F) Tryz.results101 rfl subA (hF ?_)
        first
        | exact made_bare (kids_yes c9) c14 c25 ((madeK_1 c22).2 (by omega))
        | exact made_nobare (by omega) (by omega) (by omega) c25
        | (refine made_noK (fun e => ?_); have e := (madeK_1 c22).1 e; omega)
      ·refine AL.go (AO.pickT rfl rfl rfl (AL.go (AO.move rfl rfl (AL.no rfl rfl rfl rfl (AL.no rfl rfl rfl rfl (AL.go (AO.pickF rfl rfl rfl (AL.go (AO.assign rfl rfl ?_)))))))))
       refine AL.nil (AK.seqN (AC.ret (AK.blkR (AK.seqR ?_))))
       first | refine AK.ret (L' := L) (F' := F) Tryz.results101 rfl subA (hT ?_) | refine AK.ret (L' := L) (F' := F) Tryz.results101 rfl subA (hF ?_)
       first
       | exact made_bare (kids_yes c9) c14 c25 ((madeK_1 c22).2 (by omega))
       | exact made_nobare (by omega) (by omega) (by omega) c25
       | (refine made_noK (fun e => ?_); have e := (madeK_1 c22).1 e; omega)
     ·refine AL.go (AO.move rfl rfl (AL.no rfl rfl rfl rfl (AL.no rfl rfl rfl rfl (AL.no rfl rfl rfl rfl (AL.go (AO.pickF rfl rfl rfl (AL.go (AO.move rfl rfl ?_))))))))
      refine AL.no rfl rfl rfl rfl (AL.no rfl rfl rfl rfl (AL.go (AO.pickF rfl rfl rfl (AL.go (AO.assign rfl rfl (AL.nil (AK.seqN ?_)))))))
      refine AC.ret (AK.blkR (AK.seqR ?_))
      first | refine AK.ret (L' := L) (F' := F) Tryz.results101 rfl subA (hT ?_) | refine AK.ret (L' := L) (F' := F) Tryz.results101 rfl subA (hF ?_)
      first
      | exact made_bare (kids_yes c9) c14 c25 ((madeK_1 c22).2 (by omega))
      | exact made_nobare (by omega) (by omega) (by omega) c25
      | (refine made_noK (fun e => ?_); have e := (madeK_1 c22).1 e; omega)
    ·refine AL.go (AO.assign rfl rfl (AL.nil (AK.seqN (AC.condF rfl (AC.region ?_)))))
     refine AL.go (AO.eql rfl rfl rfl (fun c23 => ?_) (fun c23 => ?_))
     ·refine AL.go (AO.assign rfl rfl (AL.nil (AK.seqN (AC.condT rfl (AC.seq (AC.region ?_))))))
      refine AL.go (AO.loadBA rfl rfl ?_)
      refine AL.go (AO.call rfl rfl (bare_c t memA (fun c25 => ?_) (fun c25 => ?_)))
      ·refine AL.go (AO.move rfl rfl (AL.yes rfl rfl (AO.field rfl rfl ?_)))
       refine AL.yes rfl rfl (AO.loadB rfl rfl ?_)
       refine AL.yes rfl rfl (AO.eql rfl rfl rfl (fun c29 => ?_) (fun c29 => ?_))
       ·refine AL.go (AO.pickT rfl rfl rfl (AL.go (AO.move rfl rfl (AL.yes rfl rfl (AO.move rfl rfl ?_)))))
        refine AL.yes rfl rfl (AO.eql rfl rfl rfl (fun c33 => ?_) (fun c33 => ?_))
        ·refine AL.go (AO.pickT rfl rfl rfl (AL.go (AO.assign rfl rfl (AL.nil (AK.seqN (AC.ret (AK.blkR ?_)))))))
         refine AK.seqR ?_
         first | refine AK.ret (L' := L) (F' := F) Tryz.results101 rfl subA (hT ?_) | refine AK.ret (L' := L) (F' := F) Tryz.results101 rfl subA (hF ?_)
         first
         | exact made_bare (kids_yes c9) c14 c25 ((madeK_2 c23).2 (by omega))
         | exact made_nobare (by omega) (by omega) (by omega) c25
         | (refine made_noK (fun e => ?_); have e := (madeK_2 c23).1 e; omega)
        ·refine AL.go (AO.pickT rfl rfl rfl (AL.go (AO.assign rfl rfl (AL.nil (AK.seqN (AC.ret (AK.blkR ?_)))))))
         refine AK.seqR ?_
         first | refine AK.ret (L' := L) (F' := F) Tryz.results101 rfl subA (hT ?_) | refine AK.ret (L' := L) (F' := F) Tryz.results101 rfl subA (hF ?_)
         first
         | exact made_bare (kids_yes c9) c14 c25 ((madeK_2 c23).2 (by omega))
         | exact made_nobare (by omega) (by omega) (by omega) c25
         | (refine made_noK (fun e => ?_); have e := (madeK_2 c23).1 e; omega)
       ·refine AL.go (AO.pickT rfl rfl rfl (AL.go (AO.move rfl rfl (AL.no rfl rfl rfl rfl (AL.no rfl rfl rfl rfl (AL.go (AO.pickF rfl rfl rfl (AL.go (AO.assign rfl rfl ?_)))))))))
        refine AL.nil (AK.seqN (AC.ret (AK.blkR (AK.seqR ?_))))
        first | refine AK.ret (L' := L) (F' := F) Tryz.results101 rfl subA (hT ?_) | refine AK.ret (L' := L) (F' := F) Tryz.results101 rfl subA (hF ?_)
        first
        | exact made_bare (kids_yes c9) c14 c25 ((madeK_2 c23).2 (by omega))
        | exact made_nobare (by omega) (by omega) (by omega) c25
        | (refine made_noK (fun e => ?_); have e := (madeK_2 c23).1 e; omega)
      ·refine AL.go (AO.move rfl rfl (AL.no rfl rfl rfl rfl (AL.no rfl rfl rfl rfl (AL.no rfl rfl rfl rfl (AL.go (AO.pickF rfl rfl rfl (AL.go (AO.move rfl rfl ?_))))))))
       refine AL.no rfl rfl rfl rfl (AL.no rfl rfl rfl rfl (AL.go (AO.pickF rfl rfl rfl (AL.go (AO.assign rfl rfl (AL.nil (AK.seqN ?_)))))))
       refine AC.ret (AK.blkR (AK.seqR ?_))
       first | refine AK.ret (L' := L) (F' := F) Tryz.results101 rfl subA (hT ?_) | refine AK.ret (L' := L) (F' := F) Tryz.results101 rfl subA (hF ?_)
       first
       | exact made_bare (kids_yes c9) c14 c25 ((madeK_2 c23).2 (by omega))
       | exact made_nobare (by omega) (by omega) (by omega) c25
       | (refine made_noK (fun e => ?_); have e := (madeK_2 c23).1 e; omega)
     ·refine AL.go (AO.assign rfl rfl (AL.nil (AK.seqN (AC.condF rfl (AC.seq (AC.region ?_))))))
      refine AL.go (AO.eql rfl rfl rfl (fun c36 => ?_) (fun c36 => ?_))
      ·refine AL.go (AO.assign rfl rfl (AL.nil (AK.seqN (AC.condT rfl (AC.seq (AC.region ?_))))))
       refine AL.go (AO.loadBA rfl rfl ?_)
       refine AL.go (AO.call rfl rfl (bare_c t memA (fun c38 => ?_) (fun c38 => ?_)))
       ·refine AL.go (AO.move rfl rfl (AL.yes rfl rfl (AO.field rfl rfl ?_)))
        refine AL.yes rfl rfl (AO.loadB rfl rfl ?_)
        refine AL.yes rfl rfl (AO.geq rfl rfl rfl (fun c42 => ?_) (fun c42 => ?_))
        ·refine AL.go (AO.pickT rfl rfl rfl (AL.go (AO.move rfl rfl (AL.yes rfl rfl (AO.field rfl rfl ?_)))))
         refine AL.yes rfl rfl (AO.loadB rfl rfl ?_)
         refine AL.yes rfl rfl (AO.leq rfl rfl rfl (fun c47 => ?_) (fun c47 => ?_))
         ·refine AL.go (AO.pickT rfl rfl rfl (AL.go (AO.move rfl rfl (AL.yes rfl rfl (AO.move rfl rfl ?_)))))
          refine AL.yes rfl rfl (AO.eql rfl rfl rfl (fun c51 => ?_) (fun c51 => ?_))
          ·refine AL.go (AO.pickT rfl rfl rfl (AL.go (AO.assign rfl rfl (AL.nil (AK.seqN (AC.ret (AK.blkR ?_)))))))
           refine AK.seqR ?_
           first | refine AK.ret (L' := L) (F' := F) Tryz.results101 rfl subA (hT ?_) | refine AK.ret (L' := L) (F' := F) Tryz.results101 rfl subA (hF ?_)
           first
           | exact made_bare (kids_yes c9) c14 c38 ((madeK_3 c36).2 (by omega))
           | exact made_nobare (by omega) (by omega) (by omega) c38
           | (refine made_noK (fun e => ?_); have e := (madeK_3 c36).1 e; omega)
          ·refine AL.go (AO.pickT rfl rfl rfl (AL.go (AO.assign rfl rfl (AL.nil (AK.seqN (AC.ret (AK.blkR ?_)))))))
           refine AK.seqR ?_
           first | refine AK.ret (L' := L) (F' := F) Tryz.results101 rfl subA (hT ?_) | refine AK.ret (L' := L) (F' := F) Tryz.results101 rfl subA (hF ?_)
           first
           | exact made_bare (kids_yes c9) c14 c38 ((madeK_3 c36).2 (by omega))
           | exact made_nobare (by omega) (by omega) (by omega) c38
           | (refine made_noK (fun e => ?_); have e := (madeK_3 c36).1 e; omega)
         ·refine AL.go (AO.pickT rfl rfl rfl (AL.go (AO.move rfl rfl (AL.no rfl rfl rfl rfl (AL.no rfl rfl rfl rfl (AL.go (AO.pickF rfl rfl rfl (AL.go (AO.assign rfl rfl ?_)))))))))
          refine AL.nil (AK.seqN (AC.ret (AK.blkR (AK.seqR ?_))))
          first | refine AK.ret (L' := L) (F' := F) Tryz.results101 rfl subA (hT ?_) | refine AK.ret (L' := L) (F' := F) Tryz.results101 rfl subA (hF ?_)
          first
          | exact made_bare (kids_yes c9) c14 c38 ((madeK_3 c36).2 (by omega))
          | exact made_nobare (by omega) (by omega) (by omega) c38
          | (refine made_noK (fun e => ?_); have e := (madeK_3 c36).1 e; omega)
        ·refine AL.go (AO.pickT rfl rfl rfl (AL.go (AO.move rfl rfl (AL.no rfl rfl rfl rfl (AL.no rfl rfl rfl rfl (AL.no rfl rfl rfl rfl (AL.go (AO.pickF rfl rfl rfl ?_))))))))
         refine AL.go (AO.move rfl rfl (AL.no rfl rfl rfl rfl (AL.no rfl rfl rfl rfl (AL.go (AO.pickF rfl rfl rfl (AL.go (AO.assign rfl rfl (AL.nil ?_))))))))
         refine AK.seqN (AC.ret (AK.blkR (AK.seqR ?_)))
         first | refine AK.ret (L' := L) (F' := F) Tryz.results101 rfl subA (hT ?_) | refine AK.ret (L' := L) (F' := F) Tryz.results101 rfl subA (hF ?_)
         first
         | exact made_bare (kids_yes c9) c14 c38 ((madeK_3 c36).2 (by omega))
         | exact made_nobare (by omega) (by omega) (by omega) c38
         | (refine made_noK (fun e => ?_); have e := (madeK_3 c36).1 e; omega)
       ·refine AL.go (AO.move rfl rfl (AL.no rfl rfl rfl rfl (AL.no rfl rfl rfl rfl (AL.no rfl rfl rfl rfl (AL.go (AO.pickF rfl rfl rfl (AL.go (AO.move rfl rfl ?_))))))))
        refine AL.no rfl rfl rfl rfl (AL.no rfl rfl rfl rfl (AL.no rfl rfl rfl rfl (AL.go (AO.pickF rfl rfl rfl (AL.go (AO.move rfl rfl (AL.no rfl rfl rfl rfl ?_)))))))
        refine AL.no rfl rfl rfl rfl (AL.go (AO.pickF rfl rfl rfl (AL.go (AO.assign rfl rfl (AL.nil (AK.seqN (AC.ret ?_)))))))
        refine AK.blkR (AK.seqR ?_)
        first | refine AK.ret (L' := L) (F' := F) Tryz.results101 rfl subA (hT ?_) | refine AK.ret (L' := L) (F' := F) Tryz.results101 rfl subA (hF ?_)
        first
        | exact made_bare (kids_yes c9) c14 c38 ((madeK_3 c36).2 (by omega))
        | exact made_nobare (by omega) (by omega) (by omega) c38
        | (refine made_noK (fun e => ?_); have e := (madeK_3 c36).1 e; omega)
      ·refine AL.go (AO.assign rfl rfl (AL.nil (AK.seqN (AC.condF rfl (AC.seq (AC.region ?_))))))
       refine AL.go (AO.eql rfl rfl rfl (fun c54 => ?_) (fun c54 => ?_))
       ·refine AL.go (AO.assign rfl rfl (AL.nil (AK.seqN (AC.condT rfl (AC.seq (AC.region ?_))))))
        refine AL.go (AO.loadBA rfl rfl ?_)
        refine AL.go (AO.call rfl rfl (bare_c t memA (fun c56 => ?_) (fun c56 => ?_)))
        ·refine AL.go (AO.move rfl rfl (AL.yes rfl rfl (AO.field rfl rfl ?_)))
         refine AL.yes rfl rfl (AO.loadB rfl rfl ?_)
         refine AL.yes rfl rfl (AO.eql rfl rfl rfl (fun c60 => ?_) (fun c60 => ?_))
         ·refine AL.go (AO.pickT rfl rfl rfl (AL.go (AO.move rfl rfl (AL.yes rfl rfl (AO.move rfl rfl ?_)))))
          refine AL.yes rfl rfl (AO.eql rfl rfl rfl (fun c64 => ?_) (fun c64 => ?_))
          ·refine AL.go (AO.pickT rfl rfl rfl (AL.go (AO.assign rfl rfl (AL.nil (AK.seqN (AC.ret (AK.blkR ?_)))))))
           refine AK.seqR ?_
           first | refine AK.ret (L' := L) (F' := F) Tryz.results101 rfl subA (hT ?_) | refine AK.ret (L' := L) (F' := F) Tryz.results101 rfl subA (hF ?_)
           first
           | exact made_bare (kids_yes c9) c14 c56 ((madeK_4 c54).2 (by omega))
           | exact made_nobare (by omega) (by omega) (by omega) c56
           | (refine made_noK (fun e => ?_); have e := (madeK_4 c54).1 e; omega)
          ·refine AL.go (AO.pickT rfl rfl rfl (AL.go (AO.assign rfl rfl (AL.nil (AK.seqN (AC.ret (AK.blkR ?_)))))))
           refine AK.seqR ?_
           first | refine AK.ret (L' := L) (F' := F) Tryz.results101 rfl subA (hT ?_) | refine AK.ret (L' := L) (F' := F) Tryz.results101 rfl subA (hF ?_)
           first
           | exact made_bare (kids_yes c9) c14 c56 ((madeK_4 c54).2 (by omega))
           | exact made_nobare (by omega) (by omega) (by omega) c56
           | (refine made_noK (fun e => ?_); have e := (madeK_4 c54).1 e; omega)
         ·refine AL.go (AO.pickT rfl rfl rfl (AL.go (AO.move rfl rfl (AL.no rfl rfl rfl rfl (AL.no rfl rfl rfl rfl (AL.go (AO.pickF rfl rfl rfl (AL.go (AO.assign rfl rfl ?_)))))))))
          refine AL.nil (AK.seqN (AC.ret (AK.blkR (AK.seqR ?_))))
          first | refine AK.ret (L' := L) (F' := F) Tryz.results101 rfl subA (hT ?_) | refine AK.ret (L' := L) (F' := F) Tryz.results101 rfl subA (hF ?_)
          first
          | exact made_bare (kids_yes c9) c14 c56 ((madeK_4 c54).2 (by omega))
          | exact made_nobare (by omega) (by omega) (by omega) c56
          | (refine made_noK (fun e => ?_); have e := (madeK_4 c54).1 e; omega)
        ·refine AL.go (AO.move rfl rfl (AL.no rfl rfl rfl rfl (AL.no rfl rfl rfl rfl (AL.no rfl rfl rfl rfl (AL.go (AO.pickF rfl rfl rfl (AL.go (AO.move rfl rfl ?_))))))))
         refine AL.no rfl rfl rfl rfl (AL.no rfl rfl rfl rfl (AL.go (AO.pickF rfl rfl rfl (AL.go (AO.assign rfl rfl (AL.nil (AK.seqN ?_)))))))
         refine AC.ret (AK.blkR (AK.seqR ?_))
         first | refine AK.ret (L' := L) (F' := F) Tryz.results101 rfl subA (hT ?_) | refine AK.ret (L' := L) (F' := F) Tryz.results101 rfl subA (hF ?_)
         first
         | exact made_bare (kids_yes c9) c14 c56 ((madeK_4 c54).2 (by omega))
         | exact made_nobare (by omega) (by omega) (by omega) c56
         | (refine made_noK (fun e => ?_); have e := (madeK_4 c54).1 e; omega)
       ·refine AL.go (AO.assign rfl rfl (AL.nil (AK.seqN (AC.condF rfl (AC.seq (AC.region ?_))))))
        refine AL.go (AO.eql rfl rfl rfl (fun c67 => ?_) (fun c67 => ?_))
        ·refine AL.go (AO.assign rfl rfl (AL.nil (AK.seqN (AC.condT rfl (AC.seq (AC.region ?_))))))
         refine AL.go (AO.loadBA rfl rfl ?_)
         refine AL.go (AO.call rfl rfl (bare_c t memA (fun c69 => ?_) (fun c69 => ?_)))
         ·refine AL.go (AO.move rfl rfl (AL.yes rfl rfl (AO.field rfl rfl ?_)))
          refine AL.yes rfl rfl (AO.loadB rfl rfl ?_)
          refine AL.yes rfl rfl (AO.eql rfl rfl rfl (fun c73 => ?_) (fun c73 => ?_))
          ·refine AL.yes rfl rfl (AO.move rfl rfl (AL.no rfl rfl rfl rfl (AL.no rfl rfl rfl rfl (AL.no rfl rfl rfl rfl (AL.no rfl rfl rfl rfl (AL.no rfl rfl rfl rfl ?_))))))
           refine AL.no rfl rfl rfl rfl (AL.no rfl rfl rfl rfl (AL.yes rfl rfl (AO.pickT rfl rfl rfl (AL.go (AO.pickT rfl rfl rfl (AL.go (AO.assign rfl rfl (AL.nil ?_))))))))
           refine AK.seqN (AC.ret (AK.blkR (AK.seqR ?_)))
           first | refine AK.ret (L' := L) (F' := F) Tryz.results101 rfl subA (hT ?_) | refine AK.ret (L' := L) (F' := F) Tryz.results101 rfl subA (hF ?_)
           first
           | exact made_bare (kids_yes c9) c14 c69 ((madeK_5 c67).2 (by omega))
           | exact made_nobare (by omega) (by omega) (by omega) c69
           | (refine made_noK (fun e => ?_); have e := (madeK_5 c67).1 e; omega)
          ·refine AL.yes rfl rfl (AO.move rfl rfl (AL.yes rfl rfl (AO.field rfl rfl ?_)))
           refine AL.yes rfl rfl (AO.loadB rfl rfl ?_)
           refine AL.yes rfl rfl (AO.eql rfl rfl rfl (fun c77 => ?_) (fun c77 => ?_))
           ·refine AL.yes rfl rfl (AO.move rfl rfl (AL.yes rfl rfl (AO.move rfl rfl ?_)))
            refine AL.yes rfl rfl (AO.gtr rfl rfl rfl (fun c80 => ?_) (fun c80 => ?_))
            ·refine AL.yes rfl rfl (AO.pickT rfl rfl rfl (AL.yes rfl rfl (AO.pickF rfl rfl rfl (AL.go (AO.pickT rfl rfl rfl (AL.go (AO.assign rfl rfl (AL.nil (AK.seqN ?_)))))))))
             refine AC.ret (AK.blkR (AK.seqR ?_))
             first | refine AK.ret (L' := L) (F' := F) Tryz.results101 rfl subA (hT ?_) | refine AK.ret (L' := L) (F' := F) Tryz.results101 rfl subA (hF ?_)
             first
             | exact made_bare (kids_yes c9) c14 c69 ((madeK_5 c67).2 (by omega))
             | exact made_nobare (by omega) (by omega) (by omega) c69
             | (refine made_noK (fun e => ?_); have e := (madeK_5 c67).1 e; omega)
            ·refine AL.yes rfl rfl (AO.pickT rfl rfl rfl (AL.yes rfl rfl (AO.pickF rfl rfl rfl (AL.go (AO.pickT rfl rfl rfl (AL.go (AO.assign rfl rfl (AL.nil (AK.seqN ?_)))))))))
             refine AC.ret (AK.blkR (AK.seqR ?_))
             first | refine AK.ret (L' := L) (F' := F) Tryz.results101 rfl subA (hT ?_) | refine AK.ret (L' := L) (F' := F) Tryz.results101 rfl subA (hF ?_)
             first
             | exact made_bare (kids_yes c9) c14 c69 ((madeK_5 c67).2 (by omega))
             | exact made_nobare (by omega) (by omega) (by omega) c69
             | (refine made_noK (fun e => ?_); have e := (madeK_5 c67).1 e; omega)
           ·refine AL.yes rfl rfl (AO.move rfl rfl (AL.no rfl rfl rfl rfl (AL.no rfl rfl rfl rfl (AL.yes rfl rfl (AO.pickF rfl rfl rfl (AL.yes rfl rfl (AO.pickF rfl rfl rfl (AL.go (AO.pickT rfl rfl rfl ?_)))))))))
            refine AL.go (AO.assign rfl rfl (AL.nil (AK.seqN (AC.ret (AK.blkR (AK.seqR ?_))))))
            first | refine AK.ret (L' := L) (F' := F) Tryz.results101 rfl subA (hT ?_) | refine AK.ret (L' := L) (F' := F) Tryz.results101 rfl subA (hF ?_)
            first
            | exact made_bare (kids_yes c9) c14 c69 ((madeK_5 c67).2 (by omega))
            | exact made_nobare (by omega) (by omega) (by omega) c69
            | (refine made_noK (fun e => ?_); have e := (madeK_5 c67).1 e; omega)
         ·refine AL.go (AO.move rfl rfl (AL.no rfl rfl rfl rfl (AL.no rfl rfl rfl rfl (AL.no rfl rfl rfl rfl (AL.no rfl rfl rfl rfl (AL.no rfl rfl rfl rfl ?_))))))
          refine AL.no rfl rfl rfl rfl (AL.no rfl rfl rfl rfl (AL.no rfl rfl rfl rfl (AL.no rfl rfl rfl rfl (AL.no rfl rfl rfl rfl (AL.no rfl rfl rfl rfl ?_)))))
          refine AL.no rfl rfl rfl rfl (AL.go (AO.pickF rfl rfl rfl (AL.go (AO.assign rfl rfl (AL.nil (AK.seqN (AC.ret ?_)))))))
          refine AK.blkR (AK.seqR ?_)
          first | refine AK.ret (L' := L) (F' := F) Tryz.results101 rfl subA (hT ?_) | refine AK.ret (L' := L) (F' := F) Tryz.results101 rfl subA (hF ?_)
          first
          | exact made_bare (kids_yes c9) c14 c69 ((madeK_5 c67).2 (by omega))
          | exact made_nobare (by omega) (by omega) (by omega) c69
          | (refine made_noK (fun e => ?_); have e := (madeK_5 c67).1 e; omega)
        ·refine AL.go (AO.assign rfl rfl (AL.nil (AK.seqN (AC.condF rfl (AC.seq (AC.region ?_))))))
         refine AL.go (AO.eql rfl rfl rfl (fun c85 => ?_) (fun c85 => ?_))
         ·refine AL.go (AO.assign rfl rfl (AL.nil (AK.seqN (AC.condT rfl (AC.seq (AC.region ?_))))))
          refine AL.go (AO.loadBA rfl rfl ?_)
          refine AL.go (AO.call rfl rfl (fields_c t memA memA (fun c87 => ?_) (fun c87 => ?_)))
          ·refine AL.go (AO.assign rfl rfl (AL.nil (AK.seqN (AC.ret (AK.blkR (AK.seqR ?_))))))
           first | refine AK.ret (L' := L) (F' := F) Tryz.results101 rfl subA (hT ?_) | refine AK.ret (L' := L) (F' := F) Tryz.results101 rfl subA (hF ?_)
           first
           | exact ⟨kids_yes c9, by omega, fun _ => c87.2.1, fun h => absurd c85 h, (madeK_6 c85).2 ⟨c87.2.2.1, c87.1, c87.2.2.2⟩⟩
           | exact fun e => c87 ⟨((madeK_6 c85).1 e.2.2.2.2).2.1, e.2.2.1 (by omega), ((madeK_6 c85).1 e.2.2.2.2).1, ((madeK_6 c85).1 e.2.2.2.2).2.2⟩
          ·refine AL.go (AO.assign rfl rfl (AL.nil (AK.seqN (AC.ret (AK.blkR (AK.seqR ?_))))))
           first | refine AK.ret (L' := L) (F' := F) Tryz.results101 rfl subA (hT ?_) | refine AK.ret (L' := L) (F' := F) Tryz.results101 rfl subA (hF ?_)
           first
           | exact ⟨kids_yes c9, by omega, fun _ => c87.2.1, fun h => absurd c85 h, (madeK_6 c85).2 ⟨c87.2.2.1, c87.1, c87.2.2.2⟩⟩
           | exact fun e => c87 ⟨((madeK_6 c85).1 e.2.2.2.2).2.1, e.2.2.1 (by omega), ((madeK_6 c85).1 e.2.2.2.2).1, ((madeK_6 c85).1 e.2.2.2.2).2.2⟩
         ·refine AL.go (AO.assign rfl rfl (AL.nil (AK.seqN (AC.condF rfl (AC.seq (AC.region ?_))))))
          refine AL.go (AO.eql rfl rfl rfl (fun c89 => ?_) (fun c89 => ?_))
          ·refine AL.go (AO.assign rfl rfl (AL.nil (AK.seqN (AC.condT rfl (AC.seq (AC.region ?_))))))
           refine AL.go (AO.loadB rfl rfl ?_)
           refine AL.go (AO.loadBA rfl rfl ?_)
           refine AL.go (AO.call rfl rfl (elems_c l t (kids_yes c9) memA memA memA (fun c92 => ?_) (fun c92 => ?_)))
           ·refine AL.go (AO.assign rfl rfl (AL.nil (AK.seqN (AC.ret (AK.blkR (AK.seqR ?_))))))
            first | refine AK.ret (L' := L) (F' := F) Tryz.results101 rfl subA (hT ?_) | refine AK.ret (L' := L) (F' := F) Tryz.results101 rfl subA (hF ?_)
            first
            | exact ⟨kids_yes c9, by omega, fun _ => c92.2, fun _ h => absurd c89 h, (madeK_7 c89).2 c92.1⟩
            | exact fun e => c92 ⟨(madeK_7 c89).1 e.2.2.2.2, e.2.2.1 (by omega)⟩
           ·refine AL.go (AO.assign rfl rfl (AL.nil (AK.seqN (AC.ret (AK.blkR (AK.seqR ?_))))))
            first | refine AK.ret (L' := L) (F' := F) Tryz.results101 rfl subA (hT ?_) | refine AK.ret (L' := L) (F' := F) Tryz.results101 rfl subA (hF ?_)
            first
            | exact ⟨kids_yes c9, by omega, fun _ => c92.2, fun _ h => absurd c89 h, (madeK_7 c89).2 c92.1⟩
            | exact fun e => c92 ⟨(madeK_7 c89).1 e.2.2.2.2, e.2.2.1 (by omega)⟩
          ·refine AL.go (AO.assign rfl rfl (AL.nil (AK.seqN (AC.condF rfl (AC.seq (AC.region ?_))))))
           refine AL.go (AO.eql rfl rfl rfl (fun c94 => ?_) (fun c94 => ?_))
           ·refine AL.go (AO.assign rfl rfl (AL.nil (AK.seqN (AC.condT rfl (AC.seq (AC.region ?_))))))
            refine AL.go (AO.field rfl rfl ?_)
            refine AL.go (AO.loadB rfl rfl ?_)
            refine AL.go (AO.call rfl rfl (named_c g t.name (by omega) (fun c97 => ?_) (fun c97 => ?_)))
            ·refine AL.go (AO.move rfl rfl (AL.yes rfl rfl (AO.field rfl rfl ?_)))
             refine AL.yes rfl rfl (AO.loadB rfl rfl ?_)
             refine AL.yes rfl rfl (AO.eql rfl rfl rfl (fun c101 => ?_) (fun c101 => ?_))
             ·refine AL.go (AO.pickT rfl rfl rfl (AL.go (AO.move rfl rfl (AL.yes rfl rfl (AO.field rfl rfl ?_)))))
              refine AL.yes rfl rfl (AO.loadB rfl rfl ?_)
              refine AL.yes rfl rfl (AO.len rfl rfl (fun hl106 => ?_) (hm := by repeat (first | exact mem0 | assumption | refine memS ?_)))
              refine AL.yes rfl rfl (AO.eql rfl rfl rfl (fun c107 => ?_) (fun c107 => ?_))
              ·refine AL.go (AO.pickT rfl rfl rfl (AL.go (AO.assign rfl rfl (AL.nil (AK.seqN (AC.ret (AK.blkR ?_)))))))
               refine AK.seqR ?_
               first | refine AK.ret (L' := L) (F' := F) Tryz.results101 rfl subA (hT ?_) | refine AK.ret (L' := L) (F' := F) Tryz.results101 rfl subA (hF ?_)
               first
               | exact ⟨kids_yes c9, by omega, fun h => absurd c94 h, fun _ _ => nil_of c107, (madeK_8 c94).2 ⟨c101, c97⟩⟩
               | exact fun e => c97 ((madeK_8 c94).1 e.2.2.2.2).2
               | exact fun e => c101 ((madeK_8 c94).1 e.2.2.2.2).1
               | exact fun e => c107 (by rw [e.2.2.2.1 (by omega) (by omega)]; rfl)
              ·refine AL.go (AO.pickT rfl rfl rfl (AL.go (AO.assign rfl rfl (AL.nil (AK.seqN (AC.ret (AK.blkR ?_)))))))
               refine AK.seqR ?_
               first | refine AK.ret (L' := L) (F' := F) Tryz.results101 rfl subA (hT ?_) | refine AK.ret (L' := L) (F' := F) Tryz.results101 rfl subA (hF ?_)
               first
               | exact ⟨kids_yes c9, by omega, fun h => absurd c94 h, fun _ _ => nil_of c107, (madeK_8 c94).2 ⟨c101, c97⟩⟩
               | exact fun e => c97 ((madeK_8 c94).1 e.2.2.2.2).2
               | exact fun e => c101 ((madeK_8 c94).1 e.2.2.2.2).1
               | exact fun e => c107 (by rw [e.2.2.2.1 (by omega) (by omega)]; rfl)
             ·refine AL.go (AO.pickT rfl rfl rfl (AL.go (AO.move rfl rfl (AL.no rfl rfl rfl rfl (AL.no rfl rfl rfl rfl (AL.no rfl rfl rfl rfl (AL.no rfl rfl rfl rfl ?_)))))))
              refine AL.go (AO.pickF rfl rfl rfl (AL.go (AO.assign rfl rfl (AL.nil (AK.seqN (AC.ret (AK.blkR ?_)))))))
              refine AK.seqR ?_
              first | refine AK.ret (L' := L) (F' := F) Tryz.results101 rfl subA (hT ?_) | refine AK.ret (L' := L) (F' := F) Tryz.results101 rfl subA (hF ?_)
              first
              | exact ⟨kids_yes c9, by omega, fun h => absurd c94 h, fun _ _ => nil_of c107, (madeK_8 c94).2 ⟨c101, c97⟩⟩
              | exact fun e => c97 ((madeK_8 c94).1 e.2.2.2.2).2
              | exact fun e => c101 ((madeK_8 c94).1 e.2.2.2.2).1
              | exact fun e => c107 (by rw [e.2.2.2.1 (by omega) (by omega)]; rfl)
            ·refine AL.go (AO.move rfl rfl (AL.no rfl rfl rfl rfl (AL.no rfl rfl rfl rfl (AL.no rfl rfl rfl rfl (AL.go (AO.pickF rfl rfl rfl (AL.go (AO.move rfl rfl ?_))))))))
             refine AL.no rfl rfl rfl rfl (AL.no rfl rfl rfl rfl (AL.no rfl rfl rfl rfl (AL.no rfl rfl rfl rfl (AL.go (AO.pickF rfl rfl rfl (AL.go (AO.assign rfl rfl ?_)))))))
             refine AL.nil (AK.seqN (AC.ret (AK.blkR (AK.seqR ?_))))
             first | refine AK.ret (L' := L) (F' := F) Tryz.results101 rfl subA (hT ?_) | refine AK.ret (L' := L) (F' := F) Tryz.results101 rfl subA (hF ?_)
             first
             | exact ⟨kids_yes c9, by omega, fun h => absurd c94 h, fun _ _ => nil_of c107, (madeK_8 c94).2 ⟨c101, c97⟩⟩
             | exact fun e => c97 ((madeK_8 c94).1 e.2.2.2.2).2
             | exact fun e => c101 ((madeK_8 c94).1 e.2.2.2.2).1
             | exact fun e => c107 (by rw [e.2.2.2.1 (by omega) (by omega)]; rfl)
           ·refine AL.go (AO.assign rfl rfl (AL.nil (AK.seqN (AC.condF rfl (AC.seq (AC.region ?_))))))
            refine AL.go (AO.eql rfl rfl rfl (fun c110 => ?_) (fun c110 => ?_))
            ·refine AL.go (AO.assign rfl rfl (AL.nil (AK.seqN (AC.condT rfl (AC.seq (AC.region ?_))))))
             refine AL.go (AO.loadBA rfl rfl ?_)
             refine AL.go (AO.call rfl rfl (bare_c t memA (fun c112 => ?_) (fun c112 => ?_)))
             ·refine AL.go (AO.move rfl rfl (AL.yes rfl rfl (AO.field rfl rfl ?_)))
              refine AL.yes rfl rfl (AO.loadB rfl rfl ?_)
              refine AL.yes rfl rfl (AO.geq rfl rfl rfl (fun c116 => ?_) (fun c116 => ?_))
              ·refine AL.go (AO.pickT rfl rfl rfl (AL.go (AO.move rfl rfl (AL.yes rfl rfl (AO.field rfl rfl ?_)))))
               refine AL.yes rfl rfl (AO.loadB rfl rfl ?_)
               refine AL.yes rfl rfl (AO.lss rfl rfl rfl (fun c121 => ?_) (fun c121 => ?_))
               ·refine AL.go (AO.pickT rfl rfl rfl (AL.go (AO.move rfl rfl (AL.yes rfl rfl (AO.move rfl rfl ?_)))))
                refine AL.yes rfl rfl (AO.eql rfl rfl rfl (fun c125 => ?_) (fun c125 => ?_))
                ·refine AL.go (AO.pickT rfl rfl rfl (AL.go (AO.assign rfl rfl (AL.nil (AK.seqN (AC.ret (AK.blkR ?_)))))))
                 refine AK.seqR ?_
                 first | refine AK.ret (L' := L) (F' := F) Tryz.results101 rfl subA (hT ?_) | refine AK.ret (L' := L) (F' := F) Tryz.results101 rfl subA (hF ?_)
                 first
                 | exact made_bare (kids_yes c9) c14 c112 ((madeK_9 c110).2 (by omega))
                 | exact made_nobare (by omega) (by omega) (by omega) c112
                 | (refine made_noK (fun e => ?_); have e := (madeK_9 c110).1 e; omega)
                ·refine AL.go (AO.pickT rfl rfl rfl (AL.go (AO.assign rfl rfl (AL.nil (AK.seqN (AC.ret (AK.blkR ?_)))))))
                 refine AK.seqR ?_
                 first | refine AK.ret (L' := L) (F' := F) Tryz.results101 rfl subA (hT ?_) | refine AK.ret (L' := L) (F' := F) Tryz.results101 rfl subA (hF ?_)
                 first
                 | exact made_bare (kids_yes c9) c14 c112 ((madeK_9 c110).2 (by omega))
                 | exact made_nobare (by omega) (by omega) (by omega) c112
                 | (refine made_noK (fun e => ?_); have e := (madeK_9 c110).1 e; omega)
               ·refine AL.go (AO.pickT rfl rfl rfl (AL.go (AO.move rfl rfl (AL.no rfl rfl rfl rfl (AL.no rfl rfl rfl rfl (AL.go (AO.pickF rfl rfl rfl (AL.go (AO.assign rfl rfl ?_)))))))))
                refine AL.nil (AK.seqN (AC.ret (AK.blkR (AK.seqR ?_))))
                first | refine AK.ret (L' := L) (F' := F) Tryz.results101 rfl subA (hT ?_) | refine AK.ret (L' := L) (F' := F) Tryz.results101 rfl subA (hF ?_)
                first
                | exact made_bare (kids_yes c9) c14 c112 ((madeK_9 c110).2 (by omega))
                | exact made_nobare (by omega) (by omega) (by omega) c112
                | (refine made_noK (fun e => ?_); have e := (madeK_9 c110).1 e; omega)
              ·refine AL.go (AO.pickT rfl rfl rfl (AL.go (AO.move rfl rfl (AL.no rfl rfl rfl rfl (AL.no rfl rfl rfl rfl (AL.no rfl rfl rfl rfl (AL.go (AO.pickF rfl rfl rfl ?_))))))))
               refine AL.go (AO.move rfl rfl (AL.no rfl rfl rfl rfl (AL.no rfl rfl rfl rfl (AL.go (AO.pickF rfl rfl rfl (AL.go (AO.assign rfl rfl (AL.nil ?_))))))))
               refine AK.seqN (AC.ret (AK.blkR (AK.seqR ?_)))
               first | refine AK.ret (L' := L) (F' := F) Tryz.results101 rfl subA (hT ?_) | refine AK.ret (L' := L) (F' := F) Tryz.results101 rfl subA (hF ?_)
               first
               | exact made_bare (kids_yes c9) c14 c112 ((madeK_9 c110).2 (by omega))
               | exact made_nobare (by omega) (by omega) (by omega) c112
               | (refine made_noK (fun e => ?_); have e := (madeK_9 c110).1 e; omega)
             ·refine AL.go (AO.move rfl rfl (AL.no rfl rfl rfl rfl (AL.no rfl rfl rfl rfl (AL.no rfl rfl rfl rfl (AL.go (AO.pickF rfl rfl rfl (AL.go (AO.move rfl rfl ?_))))))))
              refine AL.no rfl rfl rfl rfl (AL.no rfl rfl rfl rfl (AL.no rfl rfl rfl rfl (AL.go (AO.pickF rfl rfl rfl (AL.go (AO.move rfl rfl (AL.no rfl rfl rfl rfl ?_)))))))
              refine AL.no rfl rfl rfl rfl (AL.go (AO.pickF rfl rfl rfl (AL.go (AO.assign rfl rfl (AL.nil (AK.seqN (AC.ret ?_)))))))
              refine AK.blkR (AK.seqR ?_)
              first | refine AK.ret (L' := L) (F' := F) Tryz.results101 rfl subA (hT ?_) | refine AK.ret (L' := L) (F' := F) Tryz.results101 rfl subA (hF ?_)
              first
              | exact made_bare (kids_yes c9) c14 c112 ((madeK_9 c110).2 (by omega))
              | exact made_nobare (by omega) (by omega) (by omega) c112
              | (refine made_noK (fun e => ?_); have e := (madeK_9 c110).1 e; omega)
            ·refine AL.go (AO.assign rfl rfl (AL.nil (AK.seqN (AC.condF rfl (AC.skip (AK.blkN ?_))))))
             refine AK.seqN (AC.seq (AC.region (AL.go (AO.assign rfl rfl (AL.nil (AK.seqN ?_))))))
             refine AC.ret ?_
             first | refine AK.ret (L' := L) (F' := F) Tryz.results101 rfl subA (hT ?_) | refine AK.ret (L' := L) (F' := F) Tryz.results101 rfl subA (hF ?_)
             first
             | exact made_nokids c9
             | exact made_long c14
             | exact made_noK (madeK_no c22 c23 c36 c54 c67 c85 c89 c94 c110)
end
end Go.Sy
namespace Go.Sy
open Go Go.Proofs Go.RowKit
theorem isAgg_int {P : Program} {t : TypeId} {k : IntKind} (w : World) (h : P.underlying t = some (.int k)) : (isAgg t).run P w = .ok false w := by simp [isAgg, run_underlying h]
theorem isAgg_str {P : Program} {t : TypeId} (w : World) (h : P.underlying t = some .string) : (isAgg t).run P w = .ok false w := by simp [isAgg, run_underlying h]
theorem part_get {P : Program} {t : TypeId} {cs : Array Value} {off : Nat} {v : Value} (w : World) (h : (isAgg t).run P w = .ok false w) (hv : cs[off]? = some v) : (part t cs off).run P w = .ok v w := by
  simp [part, h, hv, Result.andThen]
theorem S_eq (x y : List UInt8) : ((⟨x.toArray⟩ : ByteArray).toList == (⟨y.toArray⟩ : ByteArray).toList) = (x == y) := by rw [S_toList, S_toList]
def keyB (x y : Key) : Bool := x.kind == y.kind && (x.n == y.n && (x.name == y.name && (x.words == y.words && (x.kids == y.kids && x.lengths == y.lengths))))
theorem keyB_iff (x y : Key) : keyB x y = true ↔ x = y := by
  cases x; cases y; simp [keyB]
theorem eqF_step {P : Program} {w : World} {d : Nat} {xs ys : Array Value} {f : Field} {fs : List Field} {a b : Value} {r s : Bool} (hn : (f.name != "_") = true) (ha : (part f.type xs f.offset).run P w = .ok a w) (hb : (part f.type ys f.offset).run P w = .ok b w)
    (hr : (Op.equalIn d f.type a b).run P w = .ok r w) (hs : (Op.eqFields d xs ys fs).run P w = .ok s w) : (Op.eqFields d xs ys (f :: fs)).run P w = .ok (r && s) w := by
  have hn' : f.name ≠ "_" := by simpa using hn
  rw [Op.eqFields, if_pos hn']
  simp only [Sem.run_bind, ha, hb, hr, Result.andThen]
  cases r
  · simp
  · simpa using hs
theorem key_equalIn (x y : Key) (w : World) : (Op.equalIn 10000 163 (vKey x) (vKey y)).run Tryz.prog w = .ok (keyB x y) w := by
  have hu : Tryz.prog.underlying 163 = some (.struct (Tryz.prog.fieldsOf 163)) := by rw [Program.fieldsOf, Tryz.underlying163]
  have hp : Tryz.prog.stoodInHeld 163 = false := by decide +kernel
  rw [show (10000 : Nat) = 9998 + 1 + 1 from rfl, run_equalIn_struct w (9998 + 1) _ _ _ hu hp]
  rw [Program.fieldsOf, Tryz.underlying163]
  have hi := Tryz.underlying3
  have hs := Tryz.underlying9
  refine eqF_step rfl (part_get w (isAgg_int w hi) rfl) (part_get w (isAgg_int w hi) rfl) (run_equalIn_int w _ _ _ _ _ _ hi) ?_
  refine eqF_step rfl (part_get w (isAgg_int w hi) rfl) (part_get w (isAgg_int w hi) rfl) (run_equalIn_int w _ _ _ _ _ _ hi) ?_
  refine eqF_step rfl (part_get w (isAgg_str w hs) rfl) (part_get w (isAgg_str w hs) rfl) ((run_equalIn_string w _ _ _ _ hs).trans (by rw [S_eq])) ?_
  refine eqF_step rfl (part_get w (isAgg_str w hs) rfl) (part_get w (isAgg_str w hs) rfl) ((run_equalIn_string w _ _ _ _ hs).trans (by rw [S_eq])) ?_
  refine eqF_step rfl (part_get w (isAgg_str w hs) rfl) (part_get w (isAgg_str w hs) rfl) ((run_equalIn_string w _ _ _ _ hs).trans (by rw [S_eq])) ?_
  have := eqF_step (P := Tryz.prog) (w := w) (d := 9998 + 1) (xs := #[.int .i64 x.kind, .int .i64 x.n, S x.name, S x.words, S x.kids, S x.lengths]) (ys := #[.int .i64 y.kind, .int .i64 y.n, S y.name, S y.words, S y.kids, S y.lengths]) (fs := []) (f := ⟨ "lengths", 9, 5, false, "", "indenture/typ", 72⟩) rfl (part_get w (isAgg_str w hs) rfl) (part_get w (isAgg_str w hs) rfl) ((run_equalIn_string w _ _ _ _ hs).trans (by rw [S_eq])) (s := true) (by rw [Op.eqFields]; rfl)
  rw [Bool.and_true] at this
  exact this
theorem vKey_inj (x y : Key) (h : vKey x = vKey y) : x = y := by
  cases x; cases y
  injection h with h
  have h := congrArg Array.toList h
  simp only [List.cons.injEq, Value.int.injEq, true_and, and_true] at h
  obtain ⟨h1, h2, h3, h4, h5, h6⟩ := h
  injection h3 with h3; injection h4 with h4; injection h5 with h5; injection h6 with h6
  rw [h1, h2, S_inj h3, S_inj h4, S_inj h5, S_inj h6]
theorem same_str (n : Nat) (x : List UInt8) : Instr.sameBits (n + 1) (S x) (S x) = true := by
  show ((⟨x.toArray⟩ : ByteArray) == ⟨x.toArray⟩) = true
  rw [S_beq]; simp
theorem same_int (n : Nat) (x : Int) : Instr.sameBits (n + 1) (.int .i64 x) (.int .i64 x) = true := by
  show (IntKind.i64 == IntKind.i64 && x == x) = true
  simp
instance : KyT Tryz.prog 163 vKey := by
  refine KyT.ask Tryz.underlying163 (fun x y w => ⟨keyB x y, ?_, keyB_iff x y⟩) vKey_inj (fun em x w => ?_) (fun x => ?_)
  · exact key_equalIn x y w
  · have hi := Tryz.underlying3
    have hs := Tryz.underlying9
    rw [show (10000 : Nat) = 9998 + 1 + 1 from rfl, Instr.checkKey]
    have p1 := fun (off : Nat) (v : Value) (hv : (#[Value.int .i64 x.kind, .int .i64 x.n, S x.name, S x.words, S x.kids, S x.lengths])[off]? = some v) => part_get (P := Tryz.prog) w (isAgg_int w hi) hv
    have p2 := fun (off : Nat) (v : Value) (hv : (#[Value.int .i64 x.kind, .int .i64 x.n, S x.name, S x.words, S x.kids, S x.lengths])[off]? = some v) => part_get (P := Tryz.prog) w (isAgg_str w hs) hv
    have c1 : ∀ v, (Instr.checkKey em (9998 + 1) 3 v).run Tryz.prog w = .ok () w := by intro v; rw [Instr.checkKey]; simp [run_underlying hi]
    have c2 : ∀ v, (Instr.checkKey em (9998 + 1) 9 v).run Tryz.prog w = .ok () w := by intro v; rw [Instr.checkKey]; simp [run_underlying hs]
    simp only [Sem.run_bind, run_underlying Tryz.underlying163, Result.andThen_ok]
    simp [p1 0 _ rfl, p1 1 _ rfl, p2 2 _ rfl, p2 3 _ rfl, p2 4 _ rfl, p2 5 _ rfl, c1, c2, Result.andThen]
  · rw [show (10000 : Nat) = 9998 + 1 + 1 from rfl, Instr.sameBits]
    simp [same_str, same_int]
theorem key_guard : Tryz.prog.eqGuardType Tryz.prog.depth 163 = false := by decide +kernel
end Go.Sy
namespace Go.Sy
open Go Go.Proofs Go.RowKit
theorem start_len : startL.length = 22 := by decide
theorem names_len : startNames.length = 20 := by decide
theorem basic_step {q : Nat} (hq : q < startNames.length) : (startNames.take q).map basicT ++ [basicT startNames[q]] = (startNames.take (q + 1)).map basicT := by
  rw [List.take_succ_eq_append_getElem hq, List.map_append]; rfl
theorem start_ok : ∀ t ∈ startL, TyOk t := by
  have h1 : ∀ t ∈ startL, -9223372036854775808 ≤ t.kind ∧ t.kind ≤ 9223372036854775807 := by decide
  have h2 : ∀ t ∈ startL, -9223372036854775808 ≤ t.n ∧ t.n ≤ 9223372036854775807 := by decide
  have h3 : ∀ t ∈ startL, t.name.length ≤ 60 := by decide
  have h4 : ∀ t ∈ startL, t.words = [] := by decide
  have h5 : ∀ t ∈ startL, t.kids = [] := by decide
  intro t ht
  refine ⟨h1 t ht, h2 t ht, h3 t ht, by rw [h4 t ht]; decide, by rw [h4 t ht]; simp, by rw [h5 t ht]; decide, by rw [h5 t ht]; simp⟩
theorem start_get {q : Nat} (hq : q < startL.length) : startL.getD q (basicT []) = startL[q] := by simp [List.getD, List.getElem?_eq_getElem hq]
theorem cells_S {F : List Fact} : ∀ (l : List (List UInt8)), Cells F (l.map S) (l.map eS).flatten
  | [] => .nil
  | _ :: l => .val (cells_S l)
def SeenK (l : List Ty) (q : Nat) (m : Key → Option Bool) : Prop := ∀ x, m x = some true ↔ ∃ t ∈ l.take q, keyT t = x
theorem SeenK.zero (l : List Ty) : SeenK l 0 (fun _ => none) := fun x => ⟨fun h => by simp at h, fun ⟨t, h, _⟩ => by simp at h⟩
theorem SeenK.step {l : List Ty} {q : Nat} {m : Key → Option Bool} (h : SeenK l q m) (hq : q < l.length) : SeenK l (q + 1) (upd m (keyT l[q]) true) := by
  intro x
  rw [List.take_succ_eq_append_getElem hq]
  by_cases hx : x = keyT l[q]
  · subst hx
    rw [upd_self]
    exact ⟨fun _ => ⟨l[q], List.mem_append_right _ (by simp), rfl⟩, fun _ => rfl⟩
  · rw [upd_ne _ hx, h x]
    constructor
    · rintro ⟨t, h1, h2⟩; exact ⟨t, List.mem_append_left _ h1, h2⟩
    · rintro ⟨t, h1, h2⟩
      rcases List.mem_append.1 h1 with k | k
      · exact ⟨t, k, h2⟩
      · have : t = l[q] := by simpa using k
        subst this; exact absurd h2.symm hx
theorem SeenK.yes {l : List Ty} {q : Nat} {m : Key → Option Bool} (h : SeenK l q m) {t : Ty} (hm : m (keyT t) = some true) : t ∈ l.take q := by
  obtain ⟨u, h1, h2⟩ := (h _).1 hm
  rwa [key_inj h2] at h1
theorem SeenK.no {l : List Ty} {q : Nat} {m : Key → Option Bool} (h : SeenK l q m) {t : Ty} (hm : m (keyT t) ≠ some true) : t ∉ l.take q := fun hk => hm ((h _).2 ⟨t, hk, rfl⟩)
theorem row_ne {l : List Ty} (e : rightP l) {q : Nat} (hq : q < l.length) (h8 : q < startL.length) (hc : (!keyB (keyT l[q]) (keyT startL[q])) = true) : False := by
  have h := e.2.2 q hq
  have hsl := start_len
  unfold rowAt at h
  rw [if_pos (by omega), start_get h8] at h
  rw [h, (keyB_iff _ _).2 rfl] at hc
  exact absurd hc (by decide)
theorem row_eq {l : List Ty} {q : Nat} (hq : q < l.length) (h8 : q < startL.length) (hc : (!keyB (keyT l[q]) (keyT startL[q])) = false) : rowAt l q hq := by
  have hsl := start_len
  unfold rowAt
  rw [if_pos (by omega), start_get h8]
  have : keyB (keyT l[q]) (keyT startL[q]) = true := by simpa using hc
  exact key_inj ((keyB_iff _ _).1 this)
theorem row_made {l : List Ty} {q : Nat} (hq : q < l.length) (h : ¬ q < 22) (h1 : madeP (l.take q) l[q]) (h2 : l[q] ∉ l.take q) : rowAt l q hq := by
  unfold rowAt; rw [if_neg h]; exact ⟨h1, h2⟩
theorem row_nomade {l : List Ty} (e : rightP l) {q : Nat} (hq : q < l.length) (h : ¬ q < 22) (h1 : ¬ madeP (l.take q) l[q]) : False := by
  have h2 := e.2.2 q hq
  unfold rowAt at h2; rw [if_neg h] at h2; exact h1 h2.1
theorem rows_step {l : List Ty} {q : Nat} (hr : ∀ j (hj : j < l.length), j < q → rowAt l j hj) (hq : q < l.length) (h : rowAt l q hq) : ∀ j (hj : j < l.length), j < q + 1 → rowAt l j hj := by
  intro j hj hjq
  rcases Nat.lt_succ_iff_lt_or_eq.1 hjq with k | rfl
  · exact hr j hj k
  · exact h
attribute [local irreducible] AC AT AO AK AH ACalls Sub Res.cells Res.nix Res.own Res.map Exit.then Exit.inBlock bodyPost Code.wp Code.wpIn WL Next Post Kont
section
variable {W0 : World} {L : List Res} {F : List Fact} {R : Value → List Res → List Fact → Prop}
theorem Y.neqK {n : Nat} {ρ : Rho} {T : World → Prop} {a b : Key} {x y : Operand} {d : Option Tmp} {yt ty : TypeId} {pos : String} {af : Array Edge} {g : Option (Nat × Bool)} (hx : ev ρ x = some (vKey a)) (hy : ev ρ y = some (vKey b)) : Yd Tryz.prog n ρ T ⟨d, .binOp .neq 163 x y yt, ty, pos, af, g⟩ (.bool (!keyB a b)) := ⟨fun s w st _ => by
  simp only [execOp, ev_eval st hx, ev_eval st hy, Sem.run_bind, run_eqGuard_agg w _ _ _ _ _ _ key_guard, run_neq_struct, key_equalIn, Result.andThen, Sem.run_pure]⟩
set_option maxRecDepth 100000
set_option maxHeartbeats 4000000
theorem start_c (h : ∀ a k c, R (.slice a k c) L (fL startL a k c :: F)) : ACalls Tryz.prog W0 99 #[] L F R := by
  refine ACalls.body Tryz.func99 rfl Tryz.ntmps99 rfl ?_
  refine AC.seq (AC.region (AL.go (AO.assign rfl rfl (AL.nil (AK.seqN (AC.seq ?_))))))
  refine AC.region (AL.go (AO.assign rfl rfl (AL.nil (AK.seqN (AC.seq (AC.seq ?_))))))
  refine AC.region ?_
  refine AL.go (AO.buildSlice rfl rfl rfl rfl rfl (fun b4 => ?_))
  refine AT.sub (Sub.trans (Sub.lit (i := 0) (enc := eS) (sz := 1) startNames rfl (cells_S startNames) (fun _ => rfl) rfl (by decide)) (Sub.drop.trans (Sub.nilF (sz := 1)))) ?_
  refine AL.go (AO.len rfl rfl (fun hl5 => ?_) (hm := by repeat (first | exact mem0 | assumption | refine memS ?_)))
  refine AL.go (AO.move rfl rfl (AL.nil (AK.seqN (AC.block ?_))))
  refine AC.loop (fun (i : Nat × Option Addr × Nat × Nat) => i.1 ≤ startNames.length) (fun i => [(1, .slice i.2.1 i.2.2.1 i.2.2.2), (4, .slice (some ⟨b4, 0, none⟩) 20 20), (5, .int .i64 startNames.length), (6, .int .i64 (i.1 : Int))]) (fun i => Res.own (.slice i.2.1 i.2.2.1 i.2.2.2) 29 5 (((startNames.take i.1).map basicT).map eTy) :: L) (fun _ => _) (fun i => startNames.length - i.1) (0, none, 0, 0) (by simp) srA Sub.ownNil ?_
  rintro ⟨q, a1, k1, c1⟩ hq
  simp only at hq ⊢
  refine AC.seq (AC.region ?_)
  refine AL.go (AO.lss rfl rfl rfl (fun c7 => ?_) (fun c7 => ?_))
  ·refine AL.nil (AK.seqN (AC.seq (AC.condT rfl (AC.skip (AK.seqN ?_)))))
   refine AC.seq (AC.block (AC.seq (AC.region ?_)))
   have hql : q < startNames.length := by omega
   have hnl := names_len
   have htl : ((startNames.take q).map basicT).length = q := by simp; omega
   refine AL.go (AO.indexAddr rfl rfl rfl rfl memA hql (fun _ _ => ?_))
   refine AL.go (AO.loadF rfl rfl ?_)
   intros
   refine AL.go (AO.assign rfl rfl (AL.nil (AK.seqN (AC.region (AL.go (AO.move rfl rfl (AL.go (AO.move rfl rfl ?_))))))))
   refine AL.go (AO.build rfl rfl rfl ?_)
   refine AL.go (AO.buildSlice rfl rfl rfl rfl rfl (fun b13 => ?_))
   refine AL.go (AO.append (i := 0) (enc := eTy) (lst := (startNames.take q).map basicT) [basicT startNames[q]] rfl rfl rfl rfl (.val (.val (.val (.slc (.slc .nil memA) memA)))) rfl rfl (fun _ => rfl) (by rw [htl]; simp [maxLen]; omega) (by rw [htl]; omega) (fun a14 k14 c14 => ?_))
   rw [basic_step hql]
   refine AL.go (AO.assign rfl rfl (AL.nil (AK.blkN (AK.seqN (AC.region (AL.go (AO.add rfl rfl rfl (by omega) (by omega) ?_)))))))
   refine AL.go (AO.move rfl rfl (AL.nil ?_))
   refine AK.next (q + 1, a14, k14, c14) (by simp only; omega) (by simp only; omega) srA subF
  ·refine AL.nil (AK.seqN (AC.seq (AC.condF rfl (AC.exit (AK.seqX ?_)))))
   refine AK.seqX (AK.blkX (AK.seqN (AC.seq (AC.region ?_))))
   refine AL.go (AO.move rfl rfl ?_)
   have hall : startNames.take q = startNames := List.take_of_length_le (by omega)
   rw [hall]
   refine AL.go (AO.build rfl rfl rfl ?_)
   refine AL.go (AO.build rfl rfl rfl ?_)
   refine AL.go (AO.buildSlice rfl rfl rfl rfl rfl (fun b19 => ?_))
   refine AL.go (AO.append (i := 0) (enc := eTy) (lst := startNames.map basicT) [⟨7, [], 0, [], []⟩, ⟨7, [], 1, [], []⟩] rfl rfl rfl rfl (.val (.val (.val (.slc (.slc (.val (.val (.val (.slc (.slc .nil memA) memA)))) memA) memA)))) rfl rfl (fun _ => rfl) (by decide) (by decide) (fun a20 k20 c20 => ?_))
   refine AL.go (AO.assign rfl rfl (AL.nil (AK.seqN (AC.ret ?_))))
   refine AK.ret (L' := L) (F' := fL startL a20 k20 c20 :: F) Tryz.results99 rfl ?_ (h _ _ _)
   exact (Sub.commit (i := 0) rfl).trans (Sub.drop.trans (Sub.headF (fun x hx => by repeat (first | exact hx | refine List.mem_cons_of_mem _ ?_))))
theorem right_c (g : Glob W0) (l : List Ty) (hok : ∀ t ∈ l, TyOk t) {a : Option Addr} {k c : Nat} (m1 : fL l a k c ∈ F) (hT : rightP l → R (.bool true) L F) (hF : ¬ rightP l → R (.bool false) L F) : ACalls Tryz.prog W0 41 #[.slice a k c] L F R := by
  refine ACalls.body Tryz.func41 rfl Tryz.ntmps41 rfl ?_
  refine AC.seq (AC.region (AL.go (AO.assign rfl rfl (AL.nil (AK.seqN (AC.seq ?_))))))
  refine AC.region ?_
  refine AL.go (AO.call rfl rfl (start_c (fun a8 k8 c8 => ?_)))
  have hsl := start_len
  refine AL.go (AO.assign rfl rfl (AL.nil (AK.seqN (AC.seq (AC.seq (AC.region ?_))))))
  refine AL.go (AO.move rfl rfl ?_)
  refine AL.go (AO.len rfl rfl (fun hl10 => ?_) (hm := by repeat (first | exact mem0 | assumption | refine memS ?_)))
  refine AL.go (AO.gtr rfl rfl rfl (fun c11 => ?_) (fun c11 => ?_))
  ·refine AL.go (AO.move rfl rfl (AL.no rfl rfl rfl rfl (AL.no rfl rfl rfl rfl (AL.no rfl rfl rfl rfl (AL.no rfl rfl rfl rfl (AL.no rfl rfl rfl rfl ?_))))))
   refine AL.go (AO.pickT rfl rfl rfl (AL.nil (AK.seqN (AC.condT rfl (AC.seq (AC.region ?_))))))
   refine AL.go (AO.assign rfl rfl (AL.nil (AK.seqN (AC.ret (AK.seqR ?_)))))
   first | refine AK.ret (L' := L) (F' := F) Tryz.results41 rfl subA (hT ?_) | refine AK.ret (L' := L) (F' := F) Tryz.results41 rfl subA (hF ?_)
   first
   | exact fun e => absurd e.2.1 (by omega)
   | exact fun e => absurd e.1 (by omega)
   | exact fun e => row_ne e hql hq8 c40
   | exact fun e => row_nomade e hql (by omega) c52
   | exact fun e => right_once e q hql (hseen.yes c59)
   | exact ⟨by omega, by omega, fun i hi => hrow i hi (by omega)⟩
  ·refine AL.go (AO.move rfl rfl (AL.yes rfl rfl (AO.move rfl rfl ?_)))
   refine AL.yes rfl rfl (AO.len rfl rfl (fun hl14 => ?_) (hm := by repeat (first | exact mem0 | assumption | refine memS ?_)))
   refine AL.yes rfl rfl (AO.move rfl rfl ?_)
   refine AL.yes rfl rfl (AO.len rfl rfl (fun hl16 => ?_) (hm := by repeat (first | exact mem0 | assumption | refine memS ?_)))
   refine AL.yes rfl rfl (AO.lss rfl rfl rfl (fun c17 => ?_) (fun c17 => ?_))
   ·refine AL.go (AO.pickF rfl rfl rfl (AL.nil (AK.seqN (AC.condT rfl (AC.seq (AC.region ?_))))))
    refine AL.go (AO.assign rfl rfl (AL.nil (AK.seqN (AC.ret (AK.seqR ?_)))))
    first | refine AK.ret (L' := L) (F' := F) Tryz.results41 rfl subA (hT ?_) | refine AK.ret (L' := L) (F' := F) Tryz.results41 rfl subA (hF ?_)
    first
    | exact fun e => absurd e.2.1 (by omega)
    | exact fun e => absurd e.1 (by omega)
    | exact fun e => row_ne e hql hq8 c40
    | exact fun e => row_nomade e hql (by omega) c52
    | exact fun e => right_once e q hql (hseen.yes c59)
    | exact ⟨by omega, by omega, fun i hi => hrow i hi (by omega)⟩
   ·refine AL.go (AO.pickF rfl rfl rfl (AL.nil (AK.seqN (AC.condF rfl (AC.skip (AK.seqN ?_))))))
    refine AC.seq (AC.region ?_)
    refine AL.go (AO.makeMap vKey Value.bool rfl (fun b19 => ?_))
    refine AL.go (AO.assign rfl rfl (AL.nil (AK.seqN (AC.seq (AC.seq (AC.region ?_))))))
    refine AL.go (AO.move rfl rfl ?_)
    refine AL.go (AO.len rfl rfl (fun hl21 => ?_) (hm := by repeat (first | exact mem0 | assumption | refine memS ?_)))
    refine AL.go (AO.move rfl rfl (AL.nil (AK.seqN (AC.block ?_))))
    refine AC.loop (fun (i : Nat × (Key → Option Bool)) => i.1 ≤ l.length ∧ SeenK l i.1 i.2 ∧ ∀ j (hj : j < l.length), j < i.1 → rowAt l j hj) (fun i => [(0, .slice a k c), (3, .slice a8 k8 c8), (4, .map (some b19)), (20, .slice a k c), (21, .int .i64 l.length), (22, .int .i64 (i.1 : Int))]) (fun i => Res.map b19 vKey Value.bool i.2 :: _) (fun _ => fL startL a8 k8 c8 :: F) (fun i => l.length - i.1) (0, fun _ => none) ⟨by omega, SeenK.zero _, by omega⟩ srA (Sub.refl _ _) ?_
    rintro ⟨q, m⟩ ⟨hq, hseen, hrow⟩
    simp only at hq hseen hrow ⊢
    refine AC.seq (AC.region ?_)
    refine AL.go (AO.lss rfl rfl rfl (fun c23 => ?_) (fun c23 => ?_))
    ·refine AL.nil (AK.seqN (AC.seq (AC.condT rfl (AC.skip (AK.seqN ?_)))))
     refine AC.seq (AC.block (AC.seq (AC.region (AL.go (AO.move rfl rfl ?_)))))
     have hql : q < l.length := by omega
     refine AL.go (AO.indexAddr rfl rfl rfl rfl memA hql (fun _ _ => ?_))
     refine AL.go (AO.loadFA rfl rfl ?_)
     intro a26 k26 z26 d26 e26 f26
     refine AL.go (AO.alloc rfl (fun b6 => ?_))
     refine AL.go (AO.assign rfl rfl ?_)
     refine AL.go (AO.storeBA rfl rfl rfl rfl ?_)
     refine AL.nil (AK.seqN (AC.seq (AC.region ?_)))
     refine AL.go (AO.loadBA rfl rfl ?_)
     refine AL.go (AO.call rfl rfl (keyOf_c g l[q] (hok _ (List.getElem_mem hql)) memA memA ?_))
     refine AL.go (AO.alloc rfl (fun b7 => ?_))
     refine AL.go (AO.storeBA rfl rfl rfl rfl ?_)
     refine AL.nil (AK.seqN (AC.seq (AC.seq ?_)))
     refine AC.draw (fun _ => false) [(b6, _, _), (b7, _, _)] bxA rfl (fun hx hX => ?_)
     have hll := (len_of_fact (hX (fL l a k c) memA)).1
     have hlc := (len_of_fact (hX (fL l a k c) memA)).2
     have hl8 := (len_of_fact (hX (fL startL a8 k8 c8) memA)).1
     refine AH.takeW (i := 0) rfl (Y.move rfl) (by kernel_rfl) rfl rfl ?_
     refine AH.takeW (i := 1) rfl (Y.move rfl) (by kernel_rfl) rfl rfl ?_
     refine AH.takeW (i := 2) rfl (Y.lenV rfl) (by kernel_rfl) rfl rfl ?_
     refine AH.takeB (i := 3) rfl (Y.lss rfl rfl) (by kernel_rfl) rfl rfl (fun c32 => ?_) (fun c32 => ?_)
     ·replace c32 := of_decide_eq_true c32
      refine AH.takeW (i := 4) rfl (Y.move rfl) (by kernel_rfl) rfl rfl ?_
      refine AH.takeS (i := 5) rfl (Y.loadBA rfl lmA (by rfl)) (by kernel_rfl) (by kernel_rfl) rfl rfl rfl ?_
      refine AH.takeW (i := 6) rfl (Y.move rfl) (by kernel_rfl) rfl rfl ?_
      refine AH.takeW (i := 7) rfl (Y.move rfl) (by kernel_rfl) rfl rfl ?_
      have hq8 : q < startL.length := by omega
      obtain ⟨p1, o1, rfl, at1⟩ := row_of_fact (hX (fL startL a8 k8 c8) memA) hq8
      obtain ⟨w1, x1, y1, w2, x2, y2, hv1, hw1, hw2⟩ := ty_cells at1
      refine AH.fact hw1 memA (AH.fact hw2 memA ?_)
      refine AH.takeW (i := 8) rfl (Y.indexAddr rfl rfl rfl (by omega)) (by kernel_rfl) rfl rfl ?_
      refine AH.takeS (i := 9) rfl (Y.loadFA rfl rfl hv1) (by kernel_rfl) (by kernel_rfl) rfl rfl rfl ?_
      refine AH.one (i := 10) (by kernel_rfl) rfl rfl (fun _ => ?_)
      refine AO.call rfl rfl (keyOf_c g startL[q] (start_ok _ (List.getElem_mem hq8)) memA memA ?_)
      refine AT.held bxA memB ?_
      refine AH.takeB (i := 11) rfl (Y.neqK rfl rfl) (by kernel_rfl) rfl rfl (fun c40 => ?_) (fun c40 => ?_)
      ·refine AH.takeW (i := 12) rfl (Y.pickT rfl rfl) (by kernel_rfl) rfl rfl ?_
       refine AH.takeW (i := 13) rfl (Y.move rfl) (by kernel_rfl) rfl rfl ?_
       refine AH.skip (i := 14) rfl (by kernel_rfl) rfl rfl ?_
       refine AH.skip (i := 15) rfl (by kernel_rfl) rfl rfl ?_
       refine AH.skip (i := 16) rfl (by kernel_rfl) rfl rfl ?_
       refine AH.skip (i := 17) rfl (by kernel_rfl) rfl rfl ?_
       refine AH.skip (i := 18) rfl (by kernel_rfl) rfl rfl ?_
       refine AH.skip (i := 19) rfl (by kernel_rfl) rfl rfl ?_
       refine AH.skip (i := 20) rfl (by kernel_rfl) rfl rfl ?_
       refine AH.skip (i := 21) rfl (by kernel_rfl) rfl rfl ?_
       refine AH.skip (i := 22) rfl (by kernel_rfl) rfl rfl ?_
       refine AH.skip (i := 23) rfl (by kernel_rfl) rfl rfl ?_
       refine AH.skip (i := 24) rfl (by kernel_rfl) rfl rfl ?_
       refine AH.skip (i := 25) rfl (by kernel_rfl) rfl rfl ?_
       refine AH.takeW (i := 26) rfl (Y.pickT rfl rfl) (by kernel_rfl) rfl rfl ?_
       refine AH.takeW (i := 27) rfl (Y.move rfl) (by kernel_rfl) rfl rfl ?_
       refine AH.skip (i := 28) rfl (by kernel_rfl) rfl rfl ?_
       refine AH.skip (i := 29) rfl (by kernel_rfl) rfl rfl ?_
       refine AH.skip (i := 30) rfl (by kernel_rfl) rfl rfl ?_
       refine AH.takeW (i := 31) rfl (Y.pickT rfl rfl) (by kernel_rfl) rfl rfl ?_
       refine AH.done (by kernel_rfl) ?_
       refine AK.seqN (AC.condT rfl (AC.seq (AC.region (AL.go (AO.assign rfl rfl (AL.nil ?_))))))
       refine AK.seqN (AC.ret (AK.seqR (AK.blkR (AK.seqR (AK.seqR ?_)))))
       refine AK.blkR (AK.seqR ?_)
       first | refine AK.ret (L' := L) (F' := F) Tryz.results41 rfl subA (hT ?_) | refine AK.ret (L' := L) (F' := F) Tryz.results41 rfl subA (hF ?_)
       first
       | exact fun e => absurd e.2.1 (by omega)
       | exact fun e => absurd e.1 (by omega)
       | exact fun e => row_ne e hql hq8 c40
       | exact fun e => row_nomade e hql (by omega) c52
       | exact fun e => right_once e q hql (hseen.yes c59)
       | exact ⟨by omega, by omega, fun i hi => hrow i hi (by omega)⟩
      ·refine AH.takeW (i := 12) rfl (Y.pickT rfl rfl) (by kernel_rfl) rfl rfl ?_
       refine AH.takeW (i := 13) rfl (Y.move rfl) (by kernel_rfl) rfl rfl ?_
       refine AH.takeW (i := 14) rfl (Y.move rfl) (by kernel_rfl) rfl rfl ?_
       refine AH.takeW (i := 15) rfl (Y.move rfl) (by kernel_rfl) rfl rfl ?_
       refine AH.takeW (i := 16) rfl (Y.lenV rfl) (by kernel_rfl) rfl rfl ?_
       refine AH.takeB (i := 17) rfl (Y.geq rfl rfl) (by kernel_rfl) rfl rfl (fun c46 => absurd (of_decide_eq_true c46) (by omega)) (fun c46 => ?_)
       refine AH.takeW (i := 18) rfl (Y.move rfl) (by kernel_rfl) rfl rfl ?_
       refine AH.skip (i := 19) rfl (by kernel_rfl) rfl rfl ?_
       refine AH.skip (i := 20) rfl (by kernel_rfl) rfl rfl ?_
       refine AH.skip (i := 21) rfl (by kernel_rfl) rfl rfl ?_
       refine AH.skip (i := 22) rfl (by kernel_rfl) rfl rfl ?_
       refine AH.skip (i := 23) rfl (by kernel_rfl) rfl rfl ?_
       refine AH.skip (i := 24) rfl (by kernel_rfl) rfl rfl ?_
       refine AH.takeW (i := 25) rfl (Y.pickF rfl rfl) (by kernel_rfl) rfl rfl ?_
       refine AH.takeW (i := 26) rfl (Y.pickF rfl rfl) (by kernel_rfl) rfl rfl ?_
       refine AH.takeW (i := 27) rfl (Y.move rfl) (by kernel_rfl) rfl rfl ?_
       refine AH.takeW (i := 28) rfl (Y.move rfl) (by kernel_rfl) rfl rfl ?_
       refine AH.takeS (i := 29) rfl (Y.loadBA rfl lmA (by rfl)) (by kernel_rfl) (by kernel_rfl) rfl rfl rfl ?_
       refine AH.one (i := 30) (by kernel_rfl) rfl rfl (fun _ => ?_)
       refine AO.lookupB (kenc := vKey) (m := m) (i := 2) (keyT l[q]) rfl rfl rfl (by rfl) (fun c59 => ?_) (fun c59 => ?_)
       all_goals refine AT.held bxA memB ?_
       ·refine AH.takeW (i := 31) rfl (Y.pickF rfl rfl) (by kernel_rfl) rfl rfl ?_
        refine AH.done (by kernel_rfl) ?_
        refine AK.seqN (AC.condT rfl (AC.seq (AC.region (AL.go (AO.assign rfl rfl (AL.nil ?_))))))
        refine AK.seqN (AC.ret (AK.seqR (AK.blkR (AK.seqR (AK.seqR ?_)))))
        refine AK.blkR (AK.seqR ?_)
        first | refine AK.ret (L' := L) (F' := F) Tryz.results41 rfl subA (hT ?_) | refine AK.ret (L' := L) (F' := F) Tryz.results41 rfl subA (hF ?_)
        first
        | exact fun e => absurd e.2.1 (by omega)
        | exact fun e => absurd e.1 (by omega)
        | exact fun e => row_ne e hql hq8 c40
        | exact fun e => row_nomade e hql (by omega) c52
        | exact fun e => right_once e q hql (hseen.yes c59)
        | exact ⟨by omega, by omega, fun i hi => hrow i hi (by omega)⟩
       ·refine AH.takeW (i := 31) rfl (Y.pickF rfl rfl) (by kernel_rfl) rfl rfl ?_
        refine AH.done (by kernel_rfl) ?_
        refine AK.seqN (AC.condF rfl (AC.skip (AK.seqN (AC.region (AL.go (AO.move rfl rfl ?_))))))
        refine AL.go (AO.loadBA rfl rfl ?_)
        refine AL.go (AO.mapUpdate (kenc := vKey) (venc := Value.bool) (m := m) (i := 2) (keyT l[q]) true rfl rfl rfl (by rfl) ?_)
        refine AL.nil (AK.blkN (AK.seqN (AC.region (AL.go (AO.add rfl rfl rfl (by omega) (by omega) (AL.go (AO.move rfl rfl ?_)))))))
        refine AL.nil ?_
        first | refine AK.next (q + 1, upd m (keyT l[q]) true) ⟨by simp only; omega, hseen.step hql, rows_step hrow hql (row_eq hql hq8 c40)⟩ (by simp only; omega) srA (Sub.drop.trans (Sub.drop.trans subF)) | refine AK.next (q + 1, upd m (keyT l[q]) true) ⟨by simp only; omega, hseen.step hql, rows_step hrow hql (row_made hql (by omega) c52 (hseen.no c59))⟩ (by simp only; omega) srA (Sub.drop.trans (Sub.drop.trans subF))
     ·replace c32 := of_decide_eq_false c32
      refine AH.takeW (i := 4) rfl (Y.move rfl) (by kernel_rfl) rfl rfl ?_
      refine AH.skip (i := 5) rfl (by kernel_rfl) rfl rfl ?_
      refine AH.skip (i := 6) rfl (by kernel_rfl) rfl rfl ?_
      refine AH.skip (i := 7) rfl (by kernel_rfl) rfl rfl ?_
      refine AH.skip (i := 8) rfl (by kernel_rfl) rfl rfl ?_
      refine AH.skip (i := 9) rfl (by kernel_rfl) rfl rfl ?_
      refine AH.skip (i := 10) rfl (by kernel_rfl) rfl rfl ?_
      refine AH.skip (i := 11) rfl (by kernel_rfl) rfl rfl ?_
      refine AH.takeW (i := 12) rfl (Y.pickF rfl rfl) (by kernel_rfl) rfl rfl ?_
      refine AH.takeW (i := 13) rfl (Y.move rfl) (by kernel_rfl) rfl rfl ?_
      refine AH.takeW (i := 14) rfl (Y.move rfl) (by kernel_rfl) rfl rfl ?_
      refine AH.takeW (i := 15) rfl (Y.move rfl) (by kernel_rfl) rfl rfl ?_
      refine AH.takeW (i := 16) rfl (Y.lenV rfl) (by kernel_rfl) rfl rfl ?_
      refine AH.takeB (i := 17) rfl (Y.geq rfl rfl) (by kernel_rfl) rfl rfl (fun c46 => ?_) (fun c46 => absurd (of_decide_eq_false c46) (by omega))
      refine AH.takeW (i := 18) rfl (Y.move rfl) (by kernel_rfl) rfl rfl ?_
      refine AH.takeW (i := 19) rfl (Y.move rfl) (by kernel_rfl) rfl rfl ?_
      refine AH.takeW (i := 20) rfl (Y.move rfl) (by kernel_rfl) rfl rfl ?_
      refine AH.weak (Sub.part (enc := eTy) (lst := l) 0 q c (show fL l a k c ∈ _ from memA) (by omega) (by omega) (by omega) (by omega)) ?_
      refine AH.takeW (i := 21) rfl (Y.sliceH rfl rfl rfl (by omega)) (by kernel_rfl) rfl rfl ?_
      refine AH.takeS (i := 22) rfl (Y.loadBA rfl lmA (by rfl)) (by kernel_rfl) (by kernel_rfl) rfl rfl rfl ?_
      refine AH.one (i := 23) (by kernel_rfl) rfl rfl (fun _ => ?_)
      refine AO.call rfl rfl (made_c g (l.take q) l[q] (hok _ (List.getElem_mem hql)) memA memA memA (fun c52 => ?_) (fun c52 => ?_))
      all_goals refine AT.held bxA memB ?_
      ·refine AH.takeW (i := 24) rfl (Y.not rfl) (by kernel_rfl) rfl rfl ?_
       refine AH.takeW (i := 25) rfl (Y.pickT rfl rfl) (by kernel_rfl) rfl rfl ?_
       refine AH.takeW (i := 26) rfl (Y.pickF rfl rfl) (by kernel_rfl) rfl rfl ?_
       refine AH.takeW (i := 27) rfl (Y.move rfl) (by kernel_rfl) rfl rfl ?_
       refine AH.takeW (i := 28) rfl (Y.move rfl) (by kernel_rfl) rfl rfl ?_
       refine AH.takeS (i := 29) rfl (Y.loadBA rfl lmA (by rfl)) (by kernel_rfl) (by kernel_rfl) rfl rfl rfl ?_
       refine AH.one (i := 30) (by kernel_rfl) rfl rfl (fun _ => ?_)
       refine AO.lookupB (kenc := vKey) (m := m) (i := 2) (keyT l[q]) rfl rfl rfl (by rfl) (fun c59 => ?_) (fun c59 => ?_)
       all_goals refine AT.held bxA memB ?_
       ·refine AH.takeW (i := 31) rfl (Y.pickF rfl rfl) (by kernel_rfl) rfl rfl ?_
        refine AH.done (by kernel_rfl) ?_
        refine AK.seqN (AC.condT rfl (AC.seq (AC.region (AL.go (AO.assign rfl rfl (AL.nil ?_))))))
        refine AK.seqN (AC.ret (AK.seqR (AK.blkR (AK.seqR (AK.seqR ?_)))))
        refine AK.blkR (AK.seqR ?_)
        first | refine AK.ret (L' := L) (F' := F) Tryz.results41 rfl subA (hT ?_) | refine AK.ret (L' := L) (F' := F) Tryz.results41 rfl subA (hF ?_)
        first
        | exact fun e => absurd e.2.1 (by omega)
        | exact fun e => absurd e.1 (by omega)
        | exact fun e => row_ne e hql hq8 c40
        | exact fun e => row_nomade e hql (by omega) c52
        | exact fun e => right_once e q hql (hseen.yes c59)
        | exact ⟨by omega, by omega, fun i hi => hrow i hi (by omega)⟩
       ·refine AH.takeW (i := 31) rfl (Y.pickF rfl rfl) (by kernel_rfl) rfl rfl ?_
        refine AH.done (by kernel_rfl) ?_
        refine AK.seqN (AC.condF rfl (AC.skip (AK.seqN (AC.region (AL.go (AO.move rfl rfl ?_))))))
        refine AL.go (AO.loadBA rfl rfl ?_)
        refine AL.go (AO.mapUpdate (kenc := vKey) (venc := Value.bool) (m := m) (i := 2) (keyT l[q]) true rfl rfl rfl (by rfl) ?_)
        refine AL.nil (AK.blkN (AK.seqN (AC.region (AL.go (AO.add rfl rfl rfl (by omega) (by omega) (AL.go (AO.move rfl rfl ?_)))))))
        refine AL.nil ?_
        first | refine AK.next (q + 1, upd m (keyT l[q]) true) ⟨by simp only; omega, hseen.step hql, rows_step hrow hql (row_eq hql hq8 c40)⟩ (by simp only; omega) srA (Sub.drop.trans (Sub.drop.trans subF)) | refine AK.next (q + 1, upd m (keyT l[q]) true) ⟨by simp only; omega, hseen.step hql, rows_step hrow hql (row_made hql (by omega) c52 (hseen.no c59))⟩ (by simp only; omega) srA (Sub.drop.trans (Sub.drop.trans subF))
      ·refine AH.takeW (i := 24) rfl (Y.not rfl) (by kernel_rfl) rfl rfl ?_
       refine AH.takeW (i := 25) rfl (Y.pickT rfl rfl) (by kernel_rfl) rfl rfl ?_
       refine AH.takeW (i := 26) rfl (Y.pickF rfl rfl) (by kernel_rfl) rfl rfl ?_
       refine AH.takeW (i := 27) rfl (Y.move rfl) (by kernel_rfl) rfl rfl ?_
       refine AH.skip (i := 28) rfl (by kernel_rfl) rfl rfl ?_
       refine AH.skip (i := 29) rfl (by kernel_rfl) rfl rfl ?_
       refine AH.skip (i := 30) rfl (by kernel_rfl) rfl rfl ?_
       refine AH.takeW (i := 31) rfl (Y.pickT rfl rfl) (by kernel_rfl) rfl rfl ?_
       refine AH.done (by kernel_rfl) ?_
       refine AK.seqN (AC.condT rfl (AC.seq (AC.region (AL.go (AO.assign rfl rfl (AL.nil ?_))))))
       refine AK.seqN (AC.ret (AK.seqR (AK.blkR (AK.seqR (AK.seqR ?_)))))
       refine AK.blkR (AK.seqR ?_)
       first | refine AK.ret (L' := L) (F' := F) Tryz.results41 rfl subA (hT ?_) | refine AK.ret (L' := L) (F' := F) Tryz.results41 rfl subA (hF ?_)
       first
       | exact fun e => absurd e.2.1 (by omega)
       | exact fun e => absurd e.1 (by omega)
       | exact fun e => row_ne e hql hq8 c40
       | exact fun e => row_nomade e hql (by omega) c52
       | exact fun e => right_once e q hql (hseen.yes c59)
       | exact ⟨by omega, by omega, fun i hi => hrow i hi (by omega)⟩
    ·refine AL.nil (AK.seqN (AC.seq (AC.condF rfl (AC.exit (AK.seqX ?_)))))
     refine AK.seqX (AK.blkX (AK.seqN (AC.seq (AC.region (AL.go (AO.assign rfl rfl ?_))))))
     refine AL.nil (AK.seqN (AC.ret ?_))
     first | refine AK.ret (L' := L) (F' := F) Tryz.results41 rfl subA (hT ?_) | refine AK.ret (L' := L) (F' := F) Tryz.results41 rfl subA (hF ?_)
     first
     | exact fun e => absurd e.2.1 (by omega)
     | exact fun e => absurd e.1 (by omega)
     | exact fun e => row_ne e hql hq8 c40
     | exact fun e => row_nomade e hql (by omega) c52
     | exact fun e => right_once e q hql (hseen.yes c59)
     | exact ⟨by omega, by omega, fun i hi => hrow i hi (by omega)⟩
end
end Go.Sy
namespace Go.Sy
open Go Go.Proofs Go.RowKit
attribute [local irreducible] AC AT AO AK AH ACalls Sub Res.cells Res.nix Res.own Res.map Exit.then Exit.inBlock bodyPost Code.wp Code.wpIn WL Next Post Kont
section
variable {W0 : World} {L : List Res} {F : List Fact} {R : Value → List Res → List Fact → Prop}
set_option maxRecDepth 100000
set_option maxHeartbeats 4000000
end
end Go.Sy
namespace Go.Sy
open Go Go.Proofs Go.RowKit
attribute [local irreducible] AC AT AO AK AH ACalls Sub Res.cells Res.nix Res.own Res.map Exit.then Exit.inBlock bodyPost Code.wp Code.wpIn WL Next Post Kont
section
variable {W0 : World} {L : List Res} {F : List Fact} {R : Value → List Res → List Fact → Prop}
set_option maxRecDepth 100000
set_option maxHeartbeats 4000000
end
end Go.Sy
namespace Go.Sy
open Go Go.Proofs Go.RowKit
theorem at_mem {l : List Ty} {t : Ty} {q : Nat} (hq : q < l.length) (h : l[q] = t) : t ∈ l := h ▸ List.getElem_mem hq
attribute [local irreducible] AC AT AO AK AH ACalls Sub Res.cells Res.nix Res.own Res.map Exit.then Exit.inBlock bodyPost Code.wp Code.wpIn WL Next Post Kont
section
variable {W0 : World} {L : List Res} {F : List Fact} {R : Value → List Res → List Fact → Prop}
set_option maxRecDepth 100000
set_option maxHeartbeats 4000000
theorem rnames_c (h : ∀ b, R (.slice (some ⟨b, 0, none⟩) 20 20) L (.slc (.slice (some ⟨b, 0, none⟩) 20 20) 1 (startNames.map eS) :: F)) : ACalls Tryz.prog W0 108 #[] L F R := by
  refine ACalls.body Tryz.func108 rfl Tryz.ntmps108 rfl ?_
  refine AC.seq (AC.region (AL.go (AO.assign rfl rfl (AL.nil (AK.seqN (AC.seq ?_))))))
  refine AC.region ?_
  refine AL.go (AO.buildSlice rfl rfl rfl rfl rfl (fun b4 => ?_))
  refine AT.sub (Sub.trans (Sub.lit (i := 0) (enc := eS) (sz := 1) startNames rfl (cells_S startNames) (fun _ => rfl) rfl (by decide)) Sub.drop) ?_
  refine AL.go (AO.assign rfl rfl (AL.nil (AK.seqN (AC.ret ?_))))
  exact AK.ret Tryz.results108 rfl (Sub.refl _ _) (h _)
end
end Go.Sy
