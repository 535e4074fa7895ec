/- Joined of my own texts: FwP. -/
import Derived.Test.YtodaafgpfjcpgaaGreatDoorX7
import Derived.Lib.AppendStr
import Derived.Lib.UnsafeStr
import Derived.Lib.Builder
import Derived.Laws.Externs
namespace Go.Sy
open Go Go.RowKit Go.Lib
abbrev eB (c : UInt8) : List D := [.val (.int .u8 c.toNat)]
def bV (l : List UInt8) : List Value := l.map fun c => .int .u8 c.toNat
theorem bV_length (l : List UInt8) : (bV l).length = l.length := by simp [bV]
theorem bV_append (l m : List UInt8) : bV (l ++ m) = bV l ++ bV m := by simp [bV]
theorem strCells_S (s : List UInt8) : strCells ⟨s.toArray⟩ = bV s := by simp [strCells, bV]
section
variable {P : Program} {W0 : World} {L : List Res} {F : List Fact} {t u e : TypeId} {v : Value} {lst : List UInt8} {i : Nat}
theorem eB_row {l : List UInt8} {a : Nat} {r : List D} {j : Nat} {d : D} (ha : (l.map eB)[a]? = some r) (hj : r[j]? = some d) : j = 0 ∧ ∃ c, l[a]? = some c ∧ d = .val (.int .u8 c.toNat) := by
  rw [List.getElem?_map] at ha
  cases hc : l[a]? with
  | none => rw [hc] at ha; simp at ha
  | some c =>
    rw [hc] at ha
    simp only [Option.map_some, Option.some.injEq] at ha
    subst ha
    have hj0 : j = 0 := by
      have := (List.getElem?_eq_some_iff.1 hj).1
      simpa using this
    subst hj0
    simp at hj
    exact ⟨rfl, c, rfl, hj.symm⟩
theorem CR.val_eq {h : H} {x y : Value} (c : CR h x (.val y)) : x = y := by cases c; rfl
theorem own_bytes {w : World} {h : H} {m : Nat → Hl} (sx : SatX W0.heap.size L F w h m) (hi : L[i]? = some (Res.own v e 1 (lst.map eB))) : w.ownsRow W0.heap.size e 1 v lst.length (bV lst) ∧ (∀ k, m i k = none → some k ≠ v.ownBlock) := by
  have hl := has_lt hi
  obtain ⟨_, hp⟩ : ownP v e 1 (lst.map eB) h (m i) := sx.res i _ hi
  rcases hp with ⟨hv, hr, _⟩ | ⟨g, cap, cur, hv, hm, hcap, hmax, hcs, hx⟩
  · have hl0 : lst = [] := by simpa using hr
    subst hl0 hv
    exact ⟨⟨rfl, .inl ⟨rfl, rfl⟩⟩, fun k _ he => by simp [Value.ownBlock] at he⟩
  have hll : (lst.map eB).length = lst.length := by simp
  rw [hll] at hv hcap
  have hbl := sx.own i g _ hl (by rw [hm]; exact one_self _ _)
  refine ⟨⟨by rw [bV_length]; omega, .inr ⟨g, cap, cur, hv, hbl.1, hbl.2.1, hcap, hmax, hcs, ?_⟩⟩, ?_⟩
  · apply List.ext_getElem?
    intro j
    rcases Nat.lt_or_ge j lst.length with q | q
    · rw [List.getElem?_take_of_lt HS]
      obtain ⟨x, hx1, hx2⟩ := hx j (eB lst[j]) 0 _ (by simp [q]) rfl
      have := hx2.val_eq
      subst this
      simp only [Nat.mul_one, Nat.add_zero] at hx1
      simp [bV, q, hx1]
    rw [List.getElem?_eq_none (by simp; omega), List.getElem?_eq_none (by rw [bV_length]; omega)]
  intro k hk he
  subst hv
  simp [Value.ownBlock] at he
  subst he
  rw [hm, one_self] at hk
  simp at hk
theorem to_own {w : World} {h : H} {B : Nat} (ho : w.ownsRow B e 1 v lst.length (bV lst)) : ∃ m' : Hl, ownP v e 1 (lst.map eB) h m' ∧ ∀ b O, m' b = some O → v.ownBlock = some b ∧ B ≤ b ∧ w.heap[b]? = some O := by
  have hrow : ∀ (a : Nat) (r : List D), (lst.map eB)[a]? = some r → r.length = 1 := by
    intro a r hr; simp at hr; obtain ⟨x, _, rfl⟩ := hr; rfl
  rcases ho.2 with ⟨hv, hz⟩ | ⟨g, cap, cur, hv, hb, hg, hnc, hcm, hcs, ht⟩
  · have : lst = [] := List.eq_nil_of_length_eq_zero hz
    subst this
    exact ⟨fun _ => none, ⟨hrow, .inl ⟨hv, rfl, fun _ => rfl⟩⟩, fun b O h => by simp at h⟩
  refine ⟨one g (.cells cur e (0, 0)), ⟨hrow, .inr ⟨g, cap, cur, by simpa using hv, rfl, by simpa using hnc, hcm, hcs, ?_⟩⟩, ?_⟩
  · intro a r j d ha hj
    obtain ⟨rfl, c, hc, rfl⟩ := eB_row ha hj
    have hal : a < lst.length := (List.getElem?_eq_some_iff.1 hc).1
    refine ⟨.int .u8 c.toNat, ?_, .val _⟩
    have h1 : (cur.toList.take (lst.length * 1))[a]? = some (.int .u8 c.toNat) := by rw [ht]; simp [bV, hc]
    rw [List.getElem?_take_of_lt HS] at h1
    simpa using h1
  intro b O hO
  obtain ⟨rfl, rfl⟩ := one_some hO
  exact ⟨by rw [hv]; rfl, hb, hg⟩
theorem appendS_where {w : World} {ti : TypeInfo} {ty : TypeId} (ht : P.underlying t = some (.slice e)) (hu : P.underlying u = some .string) (hti : P.info? e = some ti) (hz : ti.zero = some (.int .u8 0)) (hs1 : ti.size = 1) (hb1 : ti.bytes = 1)
    {base n : Nat} {xs : List Value} (hown : w.ownsRow base e 1 v n xs) {s : ByteArray} (h63 : n + s.size ≤ maxLen) (hbytes : n + s.size ≤ 140737488355328) {v' : Value} {w' : World}
    (hr : (Builtin.append_ #[t, u] ty #[v, .string s]).run P w = .ok v' w') {g : Nat} (hg : v'.ownBlock = some g) : v.ownBlock = some g ∨ w.heap.size ≤ g := by
  have hsmall : n + s.size ≤ 9223372036854775807 := by simp only [maxLen] at h63; omega
  rcases hown.2 with ⟨rfl, rfl⟩ | ⟨q, cap, cur, rfl, hbg, hq, hnc, hcm, hcs, htake⟩
  · obtain ⟨v2, w2, hr2, ho2, _, _⟩ := run_append_own_string (P := P) (w := w) w.heap.size t u ty e ti ht hu hti hz hs1 hb1 (.slice none 0 0) 0 [] (World.ownsRow_nil w _ e 1) s h63 hbytes (Nat.le_refl _)
    rw [hr] at hr2
    injection hr2 with e1 e2
    subst e1
    right
    rcases ho2.2 with ⟨rfl, _⟩ | ⟨q, _, _, rfl, hb, _⟩
    · simp [Value.ownBlock] at hg
    simp [Value.ownBlock] at hg; omega
  by_cases hroom : n + s.size ≤ cap
  · have hr2 := run_append_room_string (P := P) (w := w) t u ty e ti ht hu hti hs1 q n cap cur hq s hroom HS
    rw [hr] at hr2
    injection hr2 with e1 e2
    subst e1
    left; simpa [Value.ownBlock] using hg
  have holds : ∀ j x, xs[j]? = some x → w.cell? ((⟨q, 0, none⟩ : Addr).add j) = some x := hown.cells (g := q) rfl
  have hr2 := run_append_grow_string (P := P) (w := w) t u ty e ti (.int .u8 0) ht hu hti hz ⟨q, 0, none⟩ n cap xs (by rw [hs1]; exact hown.1) holds s HS HS (by rw [hb1]; exact growslice_fits HS HS)
  rw [hr] at hr2
  injection hr2 with e1 e2
  subst e1
  right; simp [Value.ownBlock] at hg; omega
theorem appendS_own {w : World} {s : List UInt8} [ht : SlT P t e 1 1] [hu : StT P u] [hz : ZeT P e (.int .u8 0)] (sat : Sat W0 L F w) (hi : L[i]? = some (Res.own v e 1 (lst.map eB)))
    (h63 : lst.length + s.length ≤ maxLen) (hbytes : lst.length + s.length ≤ 140737488355328) (aty : TypeId) :
    ∃ v' w', (Builtin.append_ #[t, u] aty #[v, S s]).run P w = .ok v' w' ∧ Sat W0 (L.set i (Res.own v' e 1 ((lst ++ s).map eB))) F w' ∧ (v' = .slice none 0 0 ↔ v = .slice none 0 0 ∧ s = []) := by
  obtain ⟨hb, h, m, sx⟩ := sat
  have hl := has_lt hi
  obtain ⟨ti, z, hti, h1, h2, h3, h4⟩ := ht.info
  have hzz : z = .int .u8 0 := by
    have := hz.zero w
    simp [zeroValue, typeInfo, hti, h3] at this; exact this
  subst hzz
  obtain ⟨hown, hblk⟩ := own_bytes sx hi
  have hss : (⟨s.toArray⟩ : ByteArray).size = s.length := S_size s
  obtain ⟨v', w', hrun, hown', hg, hnil⟩ := run_append_own_string (P := P) (w := w) W0.heap.size t u aty e ti ht.und hu.und hti h3 h1 h2 v lst.length (bV lst) hown ⟨s.toArray⟩ (by rw [hss]; exact h63) (by rw [hss]; exact hbytes) hb.size
  have hw := fun g => appendS_where (P := P) (v := v) (ty := aty) (g := g) ht.und hu.und hti h3 h1 h2 hown (s := ⟨s.toArray⟩) (by rw [hss]; exact h63) (by rw [hss]; exact hbytes) hrun
  rw [hss] at hown' hnil
  rw [strCells_S, ← bV_append, show lst.length + s.length = (lst ++ s).length by simp] at hown'
  obtain ⟨m', hp', hm'⟩ := to_own (h := h) hown'
  have st : Step w w' (m i) := ⟨hg.os, hg.tape, hg.output, hg.size, fun k hk hmk => hg.block k hk (hblk k hmk)⟩
  refine ⟨v', w', hrun, ⟨Sat.below_of hb st (fun b O hm => (sx.own i b O hl hm).1), h, _, sx.upd hb.size hl st _ m' hp' ?_⟩, ?_⟩
  · intro b O hO
    obtain ⟨q1, q2, q3⟩ := hm' b O hO
    refine ⟨?_, q3⟩
    rcases hw b q1 with k | k
    · left; intro hn; exact hblk b hn k.symm
    exact .inr k
  rw [hnil]
  constructor
  · rintro ⟨a, b⟩; exact ⟨a, List.eq_nil_of_length_eq_zero b⟩
  rintro ⟨a, b⟩; exact ⟨a, by rw [b]; rfl⟩
end
section
variable {P : Program} {W0 : World} {n : Nat} {K : Act → World → Prop} {Q : Po} {ρ : Rho} {L : List Res} {F : List Fact} {t u e : TypeId}
theorem AO.appendS {x y : Operand} {v : Value} {s lst : List UInt8} {i : Nat} {d : Tmp} {ty : TypeId} {pos : String} {af : Array Edge} {g : Option (Nat × Bool)} [ht : SlT P t e 1 1] [hu : StT P u] [hz : ZeT P e (.int .u8 0)] (hx : ev ρ x = some v) (hy : ev ρ y = some (S s)) (hd : Nat.blt d n = true)
    (hi : L[i]? = some (Res.own v e 1 (lst.map eB))) (h63 : lst.length + s.length ≤ maxLen) (hbytes : lst.length + s.length ≤ 140737488355328)
    (h : ∀ a k c, ((Value.slice a k c) = .slice none 0 0 ↔ v = .slice none 0 0 ∧ s = []) → AT W0 n K ((d, .slice a k c) :: ρ) (L.set i (Res.own (.slice a k c) e 1 ((lst ++ s).map eB))) F) : AO P W0 n K ⟨some d, .call ⟨.builtin .append, #[x, y], #[t, u]⟩, ty, pos, af, g⟩ Q ρ L F := by
  intro a w st
  obtain ⟨v', w', hrun, s', hn⟩ := appendS_own (P := P) (t := t) (u := u) st.sat hi h63 hbytes ty
  obtain ⟨a0, c0, rfl⟩ := s'.ownSl (i := i) (v := v') (e := e) (sz := 1) (rows := (lst ++ s).map eB) (by simp [has_lt hi])
  have hr : (execOp a.eval ⟨some d, .call ⟨.builtin .append, #[x, y], #[t, u]⟩, ty, pos, af, g⟩).run P w = .ok (.value (.slice a0 ((lst ++ s).map eB).length c0)) w' := by
    simp [execOp, resolve, invoke, builtin, GK st.slots hx, GK st.slots hy, hrun]
  refine ⟨HO hr (fun _ e => by cases e), ?_⟩
  simp only [hr, owR]
  exact h _ _ _ hn _ _ ⟨st.slots.put (Nat.le_of_ble_eq_true hd) _, s'⟩
theorem ACalls.ownForm {f : FuncId} {args : Array Value} {R : Value → List Res → List Fact → Prop} {v : Value} {lst : List UInt8} {j : Nat} (hj : L[j]? = some (Res.own v e 1 (lst.map eB))) (hne : lst ≠ [])
    (h : ∀ g c, v = .slice (some ⟨g, 0, none⟩) lst.length c → c ≠ 0 → ACalls P W0 f args L F R) : ACalls P W0 f args L F R := by
  intro w s
  have s0 := s
  obtain ⟨_, hh, m, sx⟩ := s
  obtain ⟨_, hp⟩ : ownP v e 1 (lst.map eB) hh (m j) := sx.res j _ hj
  rcases hp with ⟨_, hr, _⟩ | ⟨g, cap, cur, hv, _, hcap, _⟩
  · exact absurd (by simpa using hr) hne
  rw [List.length_map] at hv hcap
  have : 0 < lst.length := List.length_pos_iff.2 hne
  exact h g cap hv HS w s0
theorem AO.sliceData0 {x : Operand} {k c : Nat} {d : Tmp} {ty : TypeId} {pos : String} {af : Array Edge} {g : Option (Nat × Bool)} (hx : ev ρ x = some (.slice none k c)) (hd : Nat.blt d n = true) (h : AT W0 n K ((d, .pointer none) :: ρ) L F) :
    AO P W0 n K ⟨some d, .call ⟨.builtin .unsafeSliceData, #[x], #[t]⟩, ty, pos, af, g⟩ Q ρ L F :=
  HG hd (fun a w st => by
    have := Lib.run_unsafeSliceData_nil (P := P) (w := w) #[t] ty k c
    simp [execOp, resolve, invoke, builtin, GK st.slots hx, this]) h
theorem AO.sliceData1 {x : Operand} {a : Addr} {k c : Nat} {d : Tmp} {ty : TypeId} {pos : String} {af : Array Edge} {g : Option (Nat × Bool)} (hx : ev ρ x = some (.slice (some a) k c)) (hc : c ≠ 0) (hd : Nat.blt d n = true) (h : AT W0 n K ((d, .pointer (some a)) :: ρ) L F) :
    AO P W0 n K ⟨some d, .call ⟨.builtin .unsafeSliceData, #[x], #[t]⟩, ty, pos, af, g⟩ Q ρ L F :=
  HG hd (fun a' w st => by
    have := Lib.run_unsafeSliceData_row (P := P) (w := w) #[t] ty a k c hc
    simp [execOp, resolve, invoke, builtin, GK st.slots hx, this]) h
theorem AO.unsafeStr0 {x y : Operand} {d : Tmp} {ty : TypeId} {pos : String} {af : Array Edge} {g : Option (Nat × Bool)} (hx : ev ρ x = some (.pointer none)) (hy : ev ρ y = some (.int .i64 0)) (hd : Nat.blt d n = true) (h : AT W0 n K ((d, S []) :: ρ) L F) :
    AO P W0 n K ⟨some d, .call ⟨.builtin .unsafeString, #[x, y], #[t, u]⟩, ty, pos, af, g⟩ Q ρ L F :=
  HG hd (fun a w st => by
    have := Lib.run_unsafeString_none (P := P) (w := w) t u ty none
    have e0 : (Value.string .empty) = S [] := rfl
    rw [e0] at this
    simp [execOp, resolve, invoke, builtin, GK st.slots hx, GK st.slots hy, this]) h
theorem Sat.freeze {w : World} (s : Sat W0 L F w) {j g k c m : Nat} {rows : List (List D)} (hj : L[j]? = some (Res.own (.slice (some ⟨g, 0, none⟩) k c) e 1 rows)) : Sat W0 (L.set j Res.nix) F (w.freeze ⟨g, 0, none⟩ m) := by
  obtain ⟨hb, h, mm, sx⟩ := s
  have hl := has_lt hj
  obtain ⟨_, hp⟩ : ownP _ e 1 rows h (mm j) := sx.res j _ hj
  obtain ⟨cur, hm⟩ : ∃ O, mm j = one g O := by
    rcases hp with ⟨hv, _⟩ | ⟨g', cap, cur, hv, hm, _⟩
    · simp at hv
    simp at hv
    obtain ⟨rfl, _⟩ := hv
    exact ⟨_, hm⟩
  have st : Step w (w.freeze ⟨g, 0, none⟩ m) (mm j) := by
    unfold World.freeze
    split
    · exact ⟨rfl, rfl, rfl, Nat.le_refl _, fun _ _ _ => rfl⟩
    refine ⟨rfl, rfl, rfl, by simp, fun k _ hk => ?_⟩
    have hkg : k ≠ g := fun e => by rw [e, hm, one_self] at hk; simp at hk
    simp only [Array.getElem?_modify]
    rw [if_neg HS]
  exact ⟨Sat.below_of hb st (fun b O hO => (sx.own j b O hl hO).1), h, _, sx.upd hb.size hl st Res.nix (fun _ => none) (fun _ => rfl) (by simp)⟩
theorem AO.unsafeStr1 {x y : Operand} {lst : List UInt8} {j b k c : Nat} {tp ti : TypeId} {d : Tmp} {ty : TypeId} {pos : String} {af : Array Edge} {g : Option (Nat × Bool)} (hp : P.underlying tp = some (.pointer e)) (hc1 : P.cellsOf e = 1) (hx : ev ρ x = some (.pointer (some ⟨b, 0, none⟩))) (hy : ev ρ y = some (.int .i64 lst.length)) (hd : Nat.blt d n = true)
    (hj : L[j]? = some (Res.own (.slice (some ⟨b, 0, none⟩) k c) e 1 (lst.map eB))) (hne : lst ≠ []) (h : AT W0 n K ((d, S lst) :: ρ) (L.set j Res.nix) F) :
    AO P W0 n K ⟨some d, .call ⟨.builtin .unsafeString, #[x, y], #[tp, ti]⟩, ty, pos, af, g⟩ Q ρ L F := by
  intro a w st
  have s := st.sat
  have s' := s.freeze (m := lst.length) hj
  obtain ⟨hb, hh, mm, sx⟩ := s
  obtain ⟨hown, _⟩ := own_bytes sx hj
  obtain ⟨g', cap, cur, hv, hbg, hg, hnc, hcm, hcs, htake⟩ : ∃ g' cap cur, Value.slice (some ⟨b, 0, none⟩) k c = .slice (some ⟨g', 0, none⟩) lst.length cap ∧ W0.heap.size ≤ g' ∧ w.heap[g']? = some (.cells cur e (0, 0)) ∧ lst.length ≤ cap ∧ cap ≤ maxLen ∧ cur.size = cap * 1 ∧ cur.toList.take (lst.length * 1) = bV lst := by
    rcases hown.2 with ⟨hv, _⟩ | ⟨g', cap, cur, hv, r⟩
    · simp at hv
    exact ⟨g', cap, cur, hv, r⟩
  simp at hv
  obtain ⟨rfl, rfl, rfl⟩ := hv
  have hrun := Lib.run_unsafeString_row (P := P) w tp ti ty e hp hc1 b cur.size (by simp [World.shape?, hg]) lst hne HS (by unfold maxLen at hcm; omega) (fun j x hx => by
    have := hown.cells (g := b) rfl j (.int .u8 x.toNat) (by simp [bV, hx])
    exact this)
  have hr : (execOp a.eval ⟨some d, .call ⟨.builtin .unsafeString, #[x, y], #[tp, ti]⟩, ty, pos, af, g⟩).run P w = .ok (.value (S lst)) (w.freeze ⟨b, 0, none⟩ lst.length) := by
    simp [execOp, resolve, invoke, builtin, GK st.slots hx, GK st.slots hy, hrun]
  refine ⟨HO hr (fun _ e => by cases e), ?_⟩
  simp only [hr, owR]
  exact h _ _ ⟨st.slots.put (Nat.le_of_ble_eq_true hd) _, s'⟩
theorem Sub.dropAt {r : Res} {j : Nat} (hj : L[j]? = some r) : Sub L F (L.set j Res.nix) F := fun _ _ s => s.dropAt (has_lt hj)
variable {x y : Operand} {a : Addr} {d : Tmp} {ty yt : TypeId} {pos : String} {af : Array Edge} {g : Option (Nat × Bool)}
theorem AO.eqlP {te : TypeId} {p : Option Addr} (hu : P.underlying t = some (.pointer te)) (hx : ev ρ x = some (.pointer p)) (hy : ev ρ y = some (.pointer none)) (hd : Nat.blt d n = true) (h : AT W0 n K ((d, .bool p.isNone) :: ρ) L F) :
    AO P W0 n K ⟨some d, .binOp .eql t x y yt, ty, pos, af, g⟩ Q ρ L F :=
  HG hd (fun s w st => by
    have hp : P.underlying t = some (.pointer (P.pointee t)) := by simp [Program.pointee, hu]
    have := run_eql_pointer_nil (P := P) (w := w) t p hp
    simp [execOp, GK st.slots hx, GK st.slots hy, eqGuard, this]) h
theorem AO.neqPs {te : TypeId} (hu : P.underlying t = some (.pointer te)) (hj : (P.info? te).isSome = true) (hx : ev ρ x = some (.pointer (some a))) (hy : ev ρ y = some (.pointer (some a))) (hd : Nat.blt d n = true) (h : AT W0 n K ((d, .bool false) :: ρ) L F) :
    AO P W0 n K ⟨some d, .binOp .neq t x y yt, ty, pos, af, g⟩ Q ρ L F :=
  HG hd (fun s w st => by
    obtain ⟨j, hj⟩ := Option.isSome_iff_exists.1 hj
    have := Lib.run_neq_ptr_same (P := P) w a hu hj
    simp [execOp, GK st.slots hx, GK st.slots hy, eqGuard, this]) h
theorem AO.toUnsafe {src dst te tb : TypeId} {m b i : Nat} {cs : Array Value} (hs : P.underlying src = some (.pointer te)) (hd' : P.underlying dst = some .unsafePointer) (hj : (P.info? te).map (·.size) = some m) (hj0 : Nat.beq m 0 = false) (hi : L[i]? = some (Res.cells b cs tb)) (h0 : 0 < cs.size)
    (hx : ev ρ x = some (.pointer (some ⟨b, 0, none⟩))) (hd : Nat.blt d n = true) (h : AT W0 n K ((d, .pointer (some ⟨b, 0, none⟩)) :: ρ) L F) : AO P W0 n K ⟨some d, .convert src dst x, ty, pos, af, g⟩ Q ρ L F :=
  HG hd (fun s w st => by
    have hb := st.sat.block hi
    obtain ⟨j, hj, hjs⟩ := Option.map_eq_some_iff.1 hj
    have hj0 : j.size ≠ 0 := by rw [hjs]; intro e; rw [e] at hj0; exact absurd hj0 (by decide)
    have := Lib.run_to_unsafe (P := P) w ⟨b, 0, none⟩ hs hd' hj hj0 (e := tb) (cells := cs.size) (by simp [World.shape?, hb]) h0
    simp [execOp, GK st.slots hx, this]) h
theorem AO.fromUnsafe {src dst te tb : TypeId} {b i : Nat} {cs : Array Value} (hs : P.underlying src = some .unsafePointer) (hd' : P.underlying dst = some (.pointer te)) (hj : (P.info? te).isSome = true) (hi : L[i]? = some (Res.cells b cs tb)) (hl : liesAt P P.depth tb (cs.size / P.cellsOf tb) 0 te 1 = true)
    (hx : ev ρ x = some (.pointer (some ⟨b, 0, none⟩))) (hd : Nat.blt d n = true) (h : AT W0 n K ((d, .pointer (some ⟨b, 0, none⟩)) :: ρ) L F) : AO P W0 n K ⟨some d, .convert src dst x, ty, pos, af, g⟩ Q ρ L F :=
  HG hd (fun s w st => by
    have hb := st.sat.block hi
    obtain ⟨j, hj⟩ := Option.isSome_iff_exists.1 hj
    have := Lib.run_from_unsafe (P := P) w ⟨b, 0, none⟩ hs hd' hj (e := tb) (cells := cs.size) (by simp [World.shape?, hb]) hl
    simp [execOp, GK st.slots hx, this]) h
theorem AO.noEscape {f : FuncId} {fn : Func} {ts : Array TypeId} {v : Value} (hf : P.funcs[f]? = some fn) (hname : (fn.name == "runtime.NumGoroutine") = false) (hb : fn.body.isNone = true) (hn : Extern.findNext fn = none) (he : Extern.find fn = some Extern.AbiNoEscape.same)
    (hx : ev ρ x = some v) (hd : Nat.blt d n = true) (h : AT W0 n K ((d, v) :: ρ) L F) : AO P W0 n K ⟨some d, .call ⟨.value (.func f), #[x], ts⟩, ty, pos, af, g⟩ Q ρ L F :=
  HG hd (fun s w st => by
    have := run_callFunc_extern hf hname hb hn he #[v] w
    have e2 := Lib.run_noEscape (P := P) (w := w) v
    rw [e2] at this
    simp only [Result.andThen] at this
    have hL := evL_eval st.slots (show evL ρ [x] = some [v] by simp [evL, hx])
    simp only [execOp, resolve, hL]
    simp [Act.eval, Deferred.ofValue, invoke, this]) h
end
end Go.Sy
