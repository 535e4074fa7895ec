/- Joined of my own texts: FwK, SeU, SeV, SeX, TsG, TbE, TbF, Shelf2, TbG, FwAB, TbH, TbI, TbJ, TbK, TbL, TsH, TsI, TsJ, TsK, TsL, TbM. -/
import Derived.Test.YtinolpaapcpijaaGreatDoorW19
import Derived.Sort.EncStr
import Derived.Lib.SlicesCompact
import Derived.Shelf.SlSortCmp.NoneTotal
import Derived.Ground.SlsfProg
import Derived.Test.YtinolpaapcpijaaGreatDoorProg
namespace Go.Sy
open Go Go.RowKit Go.Sort Go.Proofs
section
variable {P : Program} {W0 : World} {L : List Res} {F : List Fact} {R : Value → List Res → List Fact → Prop}
theorem ACalls.rowK {α : Type} [Inhabited α] (enc : α → Value) {f : FuncId} (Pr : List α → Prop) (res : Option Addr → List α → Nat → Value) (lst : List α) (hls : lst.length < 4611686018427387904)
    (hcon : ∀ (blk cap : Nat) (w : World), Holds enc w blk 0 lst.toArray → blk < w.heap.size → lst.length ≤ cap →
      Calls P f #[.slice (some ⟨blk, 0, none⟩) lst.length cap] w fun e w' => ∃ l2 z q os, Pr l2 ∧ (l2 ++ z).length = lst.length ∧ e = .returned (res (some ⟨blk, 0, none⟩) l2 cap) ∧ w' = grow (putRow enc (Sort.ahead w q) blk 0 (l2 ++ z).toArray) os)
    (hnil : lst = [] → ∀ (w : World), Calls P f #[.slice none 0 0] w fun e w' => e = .returned (res none [] 0) ∧ w' = w) (hp0 : lst = [] → Pr [])
    {i : Nat} {v : Value} {e : TypeId} (hi : L[i]? = some (Res.own v e 1 (lst.map fun x => [D.val (enc x)])))
    (h : ∀ (l2 : List α) (a : Option Addr) (c : Nat), v = .slice a lst.length c → Pr l2 → R (res a l2 c) (L.set i (Res.own (.slice a l2.length c) e 1 (l2.map fun x => [D.val (enc x)]))) F) :
    ACalls P W0 f #[v] L F R := by
  intro w s
  obtain ⟨hb, hh, m, sx⟩ := id s
  have hl := HD hi
  obtain ⟨h0, hp⟩ : ownP v e 1 (lst.map fun x => [D.val (enc x)]) hh (m i) := sx.res i _ hi
  rcases hp with ⟨rfl, hr, hm0⟩ | ⟨b, cap, cur, rfl, hm, hcap, hmax, hcs, hxx⟩
  · have hl0 : lst = [] := by simpa using hr
    refine (hnil hl0 w).mono fun e' w' ⟨he, hw⟩ => ?_
    subst he hw
    refine ⟨_, _, _, rfl, h [] none 0 (by rw [hl0]; rfl) (hp0 hl0), ?_⟩
    have : L.set i (Res.own (.slice none ([] : List α).length 0) e 1 (([] : List α).map fun x => [D.val (enc x)])) = L := by
      subst hl0
      have h2 := (List.getElem?_eq_some_iff.1 hi).2
      have h3 : Res.own (.slice none ([] : List α).length 0) e 1 (([] : List α).map fun x => [D.val (enc x)]) = L[i] := h2.symm
      rw [h3]; exact List.set_getElem_self _
    rw [this]; exact s
  have hll : (lst.map fun x => [D.val (enc x)]).length = lst.length := List.length_map _
  rw [hll] at hcap
  have hbl := sx.own i b _ hl (by rw [hm]; exact Hb _ _)
  have hbw := hbl.2.1
  rw [Nat.mul_one] at hcs
  have hget : ∀ q (hq : q < lst.length), cur[q]? = some (enc lst[q]) := by
    intro q hq
    obtain ⟨x, hx1, hx2⟩ := hxx q [D.val (enc lst[q])] 0 (.val (enc lst[q])) (by simp [hq]) rfl
    cases hx2
    simpa using hx1
  have hH : Holds enc w b 0 lst.toArray := by
    intro t ht
    have ht' : t < lst.length := by simpa using ht
    refine ⟨?_, by simp [World.frozen?, hbw]⟩
    have e1 := hget t ht'
    obtain ⟨cl⟩ := cur
    rw [Nat.zero_add, block_cell hbw]
    simpa [ht'] using e1
  have hcall := hcon b cap w hH (block_lt hbw) hcap
  rw [hll]
  refine Calls.mono hcall fun e' w' he => ?_
  obtain ⟨l2, z, q, os, hpr, hlen, he, hw⟩ := he
  subst he hw
  have hl2 : l2.length ≤ lst.length := by rw [← hlen]; simp
  refine ⟨_, _, _, rfl, h l2 (some ⟨b, 0, none⟩) cap (by rw [hll]) hpr, ?_⟩
  have hlt := block_lt hbw
  have hheap : (grow (putRow enc (Sort.ahead w q) b 0 (l2 ++ z).toArray) os).heap = w.heap.modify b (onCells (putCells enc 0 (l2 ++ z).toArray)) ++ os := rfl
  have hnew : (grow (putRow enc (Sort.ahead w q) b 0 (l2 ++ z).toArray) os).heap[b]? = some (.cells (putCells enc 0 (l2 ++ z).toArray cur) e (0, 0)) := by
    rw [hheap, Array.getElem?_append_left (by simpa using hlt), Array.getElem?_modify, if_pos rfl, hbw]; rfl
  have st : Step w (grow (putRow enc (Sort.ahead w q) b 0 (l2 ++ z).toArray) os) (m i) := by
    refine ⟨rfl, rfl, rfl, by rw [hheap]; simp, fun k hk hmk => ?_⟩
    have hkb : b ≠ k := fun e' => by subst e'; rw [hm, Hb] at hmk; simp at hmk
    rw [hheap, Array.getElem?_append_left (by simpa using hk), Array.getElem?_modify, if_neg hkb]
  refine ⟨Ho hb st (fun b' O hm' => (sx.own i b' O hl hm').1), hh, _, sx.upd hb.size hl st _ (one b (.cells (putCells enc 0 (l2 ++ z).toArray cur) e (0, 0))) ⟨?_, .inr ⟨b, cap, putCells enc 0 (l2 ++ z).toArray cur, by simp, rfl, by simp; omega, hmax, by unfold putCells; simpa using hcs, ?_⟩⟩ ?_⟩
  · intro k r hr
    simp only [List.getElem?_map, Option.map_eq_some_iff] at hr
    obtain ⟨x, _, rfl⟩ := hr
    rfl
  · intro k r j dd hr hj
    simp only [List.getElem?_map, Option.map_eq_some_iff] at hr
    obtain ⟨x, hx, rfl⟩ := hr
    have hkl : k < l2.length := has_lt' hx
    obtain rfl : j = 0 := by have := has_lt' hj; simp at this; exact this
    injection hj with hj; subst hj
    refine ⟨enc x, ?_, .val _⟩
    unfold putCells
    rw [Nat.mul_one, Nat.add_zero, Array.getElem?_mapIdx, Array.getElem?_eq_getElem HW, Option.map_some, if_pos ⟨Nat.zero_le _, by simp at hlen ⊢; omega⟩]
    have : (l2 ++ z).toArray[k - 0]! = x := by
      rw [getElem!_pos _ _ (by simp; omega)]
      simp [List.getElem_append_left hkl, (List.getElem?_eq_some_iff.1 hx).2]
    rw [this]
  intro b' O hm'
  obtain ⟨rfl, rfl⟩ := one_some hm'
  exact ⟨.inl (by rw [hm, Hb]; simp), hnew⟩
end
section
variable {P : Program} {W0 : World} {n : Nat} {Q : Po} {ρ : Rho} {L : List Res} {F : List Fact} {K : Act → World → Prop}
variable {d : Tmp} {ty t : TypeId} {pos : String} {af : Array Edge} {g : Option (Nat × Bool)}
variable {x y : Operand} {e sz bytes : Nat} {rows : List (List D)} {b k c : Nat}
end
end Go.Sy
namespace Go.Sy
open Go Go.Proofs Go.RowKit
theorem Sub.eqIn {A B : List Res} {x y : Res} {F : List Fact} (h : x = y) : Sub (A ++ x :: B) F (A ++ y :: B) F := by subst h; exact Gk _ _
attribute [local irreducible] AC AT AO AK AH ACalls Sub Res.cells Res.obj Res.nix Res.own Res.map Exit.then Exit.inBlock bodyPost Code.wp Code.wpIn WL Next Post Kont
section
variable {W0 : World} {L : List Res} {F : List Fact} {R : Value → List Res → List Fact → Prop}
set_option maxRecDepth 100000
set_option maxHeartbeats 16000000
end
end Go.Sy
namespace Go.Sy
open Go Go.Proofs Go.RowKit
attribute [local irreducible] AC AT AO AK AH ACalls Sub Res.cells Res.obj Res.nix Res.own Res.map Exit.then Exit.inBlock bodyPost bodyPostM roundPost Begin AYields Code.wp Code.wpIn WL Next Post Kont
section
variable {W0 : World} {L : List Res} {F : List Fact} {R : Value → List Res → List Fact → Prop}
set_option maxRecDepth 100000
set_option maxHeartbeats 16000000
end
end Go.Sy
namespace Go.Sy
open Go Go.Proofs Go.RowKit
attribute [local irreducible] AC AT AO AK AH ACalls Sub Res.cells Res.obj Res.nix Res.own Res.map Exit.then Exit.inBlock bodyPost Code.wp Code.wpIn WL Next Post Kont
section
variable {W0 : World} {L : List Res} {F : List Fact} {R : Value → List Res → List Fact → Prop}
set_option maxRecDepth 100000
set_option maxHeartbeats 16000000
end
end Go.Sy
namespace Go.Sy
open Go Go.Proofs
def tLo : Ty := ⟨7, [], 2, [[126]], [2]⟩
def tEq : Ty := ⟨7, [], 2, [[61]], [2]⟩
def aliveT : List Ty := startL ++ [nmT0, tLo, tEq]
def nmD : Nmd := ⟨[112, 46, 84], [], 2, []⟩
theorem aliveT_len : aliveT.length = 25 := by decide
theorem lo_elems (l : List Ty) (h7 : kindAt l 2 ≠ 7) (h9 : kindAt l 2 ≠ 9) : elemsP l tLo := by
  refine ⟨rfl, by decide, by decide, fun i hi => ?_⟩
  have : i = 0 := by simp [tLo] at hi; exact hi
  subst this
  exact .inl ⟨.inr rfl, by decide, h7, h9, by decide, fun h => absurd h HW⟩
theorem eq_elems (l : List Ty) (h7 : kindAt l 2 ≠ 7) (h9 : kindAt l 2 ≠ 9) : elemsP l tEq := by
  refine ⟨rfl, by decide, by decide, fun i hi => ?_⟩
  have : i = 0 := by simp [tEq] at hi; exact hi
  subst this
  exact .inl ⟨.inl rfl, by decide, h7, h9, by decide, fun h => absurd h HW⟩
theorem aliveT_right : rightP aliveT := by
  have h : aliveT = ((startL ++ [nmT0]) ++ [tLo]) ++ [tEq] := by unfold aliveT; simp
  rw [h]
  refine right_snoc (right_snoc (right_snoc start_right (by decide) ⟨fun k hk => ?_, by decide, fun e => absurd rfl e, fun _ _ => rfl, (madeK_8 rfl).2 ⟨rfl, by unfold namedP; decide⟩⟩ (by decide)) (by decide) ⟨fun k hk => ?_, by decide, fun _ => rfl, fun _ h7 => absurd rfl h7, (madeK_7 rfl).2 (lo_elems _ (by decide) (by decide))⟩ (by decide)) (by decide) ⟨fun k hk => ?_, by decide, fun _ => rfl, fun _ h7 => absurd rfl h7, (madeK_7 rfl).2 (eq_elems _ (by decide) (by decide))⟩ (by decide)
  · simp [nmT0] at hk
  · have : k = 2 := by simpa [tLo] using hk
    rw [this]; decide
  have : k = 2 := by simpa [tEq] using hk
  rw [this]; decide
theorem nmD_named : namedU aliveT nmD := by
  refine ⟨by unfold namedP; decide, ⟨by decide, fun b hb => absurd hb (by simp [nmD])⟩, ⟨by unfold fewA; decide, by unfold isK; decide, by unfold isK; decide, by decide⟩, by decide, fun j hj => absurd hj (by simp [nmD]), fun e => absurd HU e⟩
theorem aliveT_rightU : rightU aliveT [nmD] := by
  refine ⟨aliveT_right, by decide, fun i hi => ?_, fun t ht h8 => ?_⟩
  · have h0 : i = 0 := by simp at hi; exact hi
    subst h0
    exact ⟨nmD_named, fun h => absurd h (by decide)⟩
  have hn : ∀ t ∈ startL ++ [tLo, tEq], t.kind ≠ 8 := by decide
  rcases List.mem_append.1 ht with h | h
  · exact absurd h8 (hn t (List.mem_append_left _ h))
  simp at h
  rcases h with rfl | rfl | rfl
  · exact ⟨0, rfl, rfl⟩
  · exact absurd h8 (by decide)
  exact absurd h8 (by decide)
theorem nmD_ok : ∀ n ∈ [nmD], NmOk n := by
  intro n hn
  have : n = nmD := by simpa using hn
  subst this
  exact ⟨by decide, fun m hm => by simp [nmD] at hm⟩
theorem und22 : undR aliveT [nmD] 22 = .ok (aliveT, 2) := by
  rw [show (22 : Int) = ((22 : Nat) : Int) from rfl, und_8 (N := [nmD]) (n := 22) (j := 0) (u := 2) (by decide) (by decide) (by decide) rfl rfl]
  exact subR_zero aliveT_right (by decide) (by decide)
theorem bnd_none (T : List Ty) : bndP T [] := ⟨by decide, fun b hb => by cases hb⟩
theorem good_alive (pl : List Int) (h : ∀ p ∈ pl, 0 ≤ p ∧ p < 25) : goodA aliveT [nmD] [] pl := ⟨⟨aliveT_rightU, bnd_none _⟩, fun p hp => by rw [aliveT_len]; exact h p hp⟩
theorem alive_lo : isR [nmD] [] aliveT 22 23 = .ok true := by
  have e : tyAt aliveT 23 = tLo := by decide
  refine is_even (T1 := aliveT) ?_ ?_ (by decide)
  · rw [e]
    show wordsR _ _ _ _ _ 1 = _
    simp only [wordsR]
    rw [if_neg (by decide)]
  rw [if_pos (by decide), ins_one (T1 := aliveT) (k := 2) (by decide) und22 (by decide)]
  unfold withinR
  rw [if_neg (by decide), if_neg (by decide)]
  simp only
  rw [und22]
  simp only
  rw [if_pos (by decide)]
theorem alive_eq : badM (isR [nmD] [] aliveT 22 24) 0 := by
  have e : tyAt aliveT 24 = tEq := by decide
  refine is_out ?_ (by decide) (.inr ⟨rfl, ?_⟩)
  · rw [e]
    show wordsR _ _ _ _ _ 1 = _
    simp only [wordsR]
    rw [if_neg (by decide)]
  rw [ins_one (T1 := aliveT) (k := 2) (by decide) und22 (by decide)]
  unfold withinR
  rw [if_neg (by decide), if_neg (by decide)]
  simp only
  rw [und22]
  simp only
  rw [if_neg (by decide)]
theorem badA_good {T : List Ty} {N : List Nmd} {B pl : List Int} {e : Int} (hb : badA T N B pl e) (hg : goodA T N B pl) : False := by
  rcases hb with ⟨h, _⟩ | ⟨_, h, _⟩
  · exact h hg.1
  exact h hg.2
theorem badM_once {r : Except Int Bool} {e e' : Int} (h : badM r e) (h' : badM r e') : e = e' := by
  rcases h with ⟨h1, h2⟩ | ⟨h1, h2⟩ <;> rcases h' with ⟨k1, k2⟩ | ⟨k1, k2⟩ <;> rw [h2] at k2
  · injection k2
  · cases k2
  · cases k2
  omega
theorem tellB_yes {r : Except Int Bool} {is : Bool} {e : Int} (h : tellB r is e) (hr : r = .ok true) : is = true ∧ e = 0 := by
  subst hr
  rcases h with ⟨h1, h2, _⟩ | ⟨_, ⟨_, h⟩ | ⟨_, h⟩⟩
  · exact ⟨h1, h2⟩
  · cases h
  cases h
theorem tellB_no {r : Except Int Bool} {is : Bool} {e e' : Int} (h : tellB r is e) (hr : badM r e') : is = false ∧ e = e' := by
  rcases h with ⟨_, _, h⟩ | ⟨h1, h2⟩
  · rcases hr with ⟨_, k⟩ | ⟨_, k⟩ <;> rw [h] at k <;> cases k
  exact ⟨h1, badM_once h2 hr⟩
theorem alive_yes {is : Bool} {e : Int} (h : hasTP aliveT [nmD] [] 22 23 is e) : is = true ∧ e = 0 := by
  rcases h with ⟨_, h, _⟩ | ⟨_, ⟨h, _⟩ | ⟨_, h⟩⟩
  · exact (badA_good h (good_alive _ (by decide))).elim
  · exact absurd (by decide) h
  exact tellB_yes h alive_lo
theorem alive_no {is : Bool} {e : Int} (h : hasTP aliveT [nmD] [] 22 24 is e) : is = false ∧ e = 0 := by
  rcases h with ⟨_, h, _⟩ | ⟨_, ⟨h, _⟩ | ⟨_, h⟩⟩
  · exact (badA_good h (good_alive _ (by decide))).elim
  · exact absurd (by decide) h
  exact tellB_no h alive_eq
end Go.Sy
namespace Go.Sy
open Go Go.Proofs
theorem trm_zips (t : Ty) (hl : t.words.length = t.kids.length) : trmL t = (zips t).filter fun z => markB z.1 := by
  have key : ∀ q, q ≤ t.words.length → trmN t q = ((zips t).take q).filter fun z => markB z.1 := by
    intro q
    induction q with
    | zero => intro _; simp [trmN]
    | succ q ih =>
      intro hq
      have hqz : q < (zips t).length := by rw [HH hl]; omega
      rw [List.take_succ_eq_append_getElem hqz, List.filter_append, ← ih HW, HN HW HW hqz]
      simp only [trmN]
      rw [Gt [] (show q < t.words.length by omega), Gt 0 (show q < t.kids.length by omega)]
      cases h : markB t.words[q] <;> simp [h]
  have := key _ (Nat.le_refl _)
  unfold trmL
  rw [this, List.take_of_length_le (by rw [HH hl]; omega)]
theorem mark_eq (w : List UInt8) : markB w = true ↔ markP w := by unfold markB markP; simp
theorem pair_step {α : Type} (R : α → α → Prop) (htr : ∀ a b c, R a b → R b c → R a c) : ∀ l : List α, (∀ n (h : n + 1 < l.length), R (l[n]'HW) l[n + 1]) → l.Pairwise R
  | [], _ => .nil
  | [x], _ => by simp
  | x :: y :: l, h => by
    have ih := pair_step R htr (y :: l) (fun n hn => h (n + 1) (by simp only [List.length_cons] at hn ⊢; omega))
    have hxy : R x y := h 0 (by simp)
    refine List.pairwise_cons.2 ⟨fun z hz => ?_, ih⟩
    rcases List.mem_cons.1 hz with rfl | hz
    · exact hxy
    exact htr _ _ _ hxy ((List.pairwise_cons.1 ih).1 z hz)
structure FaceP (n : Nat) (t : Ty) : Prop where
  kind : t.kind = 7
  name : t.name = []
  len : t.words.length = t.kids.length
  zip : zips t = mthL t ++ trmL t
  rise : (mthL t).Pairwise fun x y => x.1 < y.1
  terms : (trmL t).Pairwise fun x y => x.2 < y.2
  none : ¬ 2 ≤ t.n → trmL t = []
  low : ∀ z ∈ trmL t, 0 ≤ z.2 ∧ z.2 < n
  n0 : 0 ≤ t.n
  n3 : t.n ≤ 3
theorem face_of {T : List Ty} (hr : rightP T) {c : Int} (h0 : 0 ≤ c) (hc : c < T.length) (h7 : (tyAt T c).kind = 7) : FaceP T.length (tyAt T c) := by
  obtain ⟨hn, e⟩ := GQ h0 hc
  have hif := iface_n hr h0 hc h7
  have hlow := trm_there hr h0 hc h7
  rw [e] at h7 hif hlow ⊢
  have hrt := GL hr hn
  have hz := hrt.iface h7
  have htz := trm_zips T[c.toNat] hz
  by_cases c22 : c.toNat < 22
  · have hrow := hr.2.2 _ hn
    unfold rowAt at hrow
    rw [if_pos c22] at hrow
    have hql : c.toNat < startL.length := by rw [start_len]; exact c22
    rw [start_get hql] at hrow
    obtain ⟨s1, s2, _, _⟩ := start_plain _ (List.getElem_mem hql)
    have hzn : zips T[c.toNat] = [] := by unfold zips; rw [hrow, s1, s2]; rfl
    have hm : mthL T[c.toNat] = [] := by unfold mthL; rw [hzn]; rfl
    have ht : trmL T[c.toNat] = [] := by rw [htz, hzn]; rfl
    exact ⟨h7, hrt.bare h7, hz, by rw [hm, ht, hzn]; rfl, by rw [hm]; exact .nil, by rw [ht]; exact .nil, fun _ => ht, hlow, hif.1, hif.2.1⟩
  have hrow := hr.2.2 _ hn
  unfold rowAt at hrow
  rw [if_neg c22] at hrow
  have hE := (madeK_7 h7).1 hrow.1.2.2.2.2
  obtain ⟨ds, ms, hzz, hd, hm, hs⟩ := elems_parts hE
  have hall : ∀ z ∈ zips T[c.toNat], ¬ markP z.1 → isName z.1 = true := fun z hz2 hnm => by
    obtain ⟨j, hj, rfl⟩ := List.getElem_of_mem hz2
    have hjl : j < T[c.toNat].words.length := by rw [HH hz] at hj; omega
    rw [HN hjl HW hj] at hnm ⊢
    rcases hE.2.2.2 j hjl with h | h
    · exact absurd h.1 hnm
    exact h.2.1
  have e1 : mthL T[c.toNat] = ds := by
    unfold mthL
    rw [hzz, List.filter_append, List.filter_eq_self.2 (fun z hz2 => hall z (by rw [hzz]; exact List.mem_append_left _ hz2) (hd z hz2)), List.filter_eq_nil_iff.2 (fun z hz2 h => name_mark h (hm z hz2)), List.append_nil]
  have e2 : trmL T[c.toNat] = ms := by
    rw [htz, hzz, List.filter_append, List.filter_eq_nil_iff.2 (fun z hz2 h => hd z hz2 ((mark_eq _).1 h)), List.filter_eq_self.2 (fun z hz2 => (mark_eq _).2 (hm z hz2)), List.nil_append]
  refine ⟨h7, hrt.bare h7, hz, by rw [e1, e2]; exact hzz, ?_, by rw [e2]; exact hs, fun hn2 => ?_, hlow, hif.1, hif.2.1⟩
  · rw [e1]
    have hdl : ds.length ≤ T[c.toNat].words.length := by
      have := congrArg List.length hzz
      rw [HH hz, List.length_append] at this; omega
    have hdg : ∀ j (hj : j < ds.length), ds[j].1 = T[c.toNat].words[j]'HW := fun j hj => by
      have h1 : (zips T[c.toNat])[j]'(by rw [HH hz]; omega) = ds[j] := by simp only [hzz]; rw [List.getElem_append_left hj]
      rw [← h1, HN HW HW]
    refine pair_step (fun x y : Tm => x.1 < y.1) (fun a b c (h1 : a.1 < b.1) (h2 : b.1 < c.1) => List.lt_trans h1 h2) _ fun j hj => ?_
    have hEj := hE.2.2.2 (j + 1) HW
    have hnm : ¬ markP (T[c.toNat].words[j + 1]'HW) := by rw [← hdg (j + 1) hj]; exact hd _ (List.getElem_mem hj)
    rcases hEj with h | h
    · exact absurd h.1 hnm
    have := (h.2.2.2 HW).2
    rw [Nat.add_sub_cancel, Gt _ (show j < T[c.toNat].words.length by omega), bytesLess_eq] at this
    rw [hdg j HW, hdg (j + 1) hj]
    exact of_decide_eq_true this
  rw [e2]
  refine List.eq_nil_iff_forall_not_mem.2 fun z hz2 => hn2 ?_
  have hzm : z ∈ zips T[c.toNat] := by rw [hzz]; exact List.mem_append_right _ hz2
  obtain ⟨j, hj, rfl⟩ := List.getElem_of_mem hzm
  have hjl : j < T[c.toNat].words.length := by rw [HH hz] at hj; omega
  have hmj := hm _ hz2
  rw [HN hjl HW hj] at hmj
  rcases hE.2.2.2 j hjl with h | h
  · exact h.2.1
  exact absurd hmj h.1
theorem FaceP.marks {n : Nat} {t : Ty} (h : FaceP n t) : ∀ z ∈ trmL t, markP z.1 := fun z hz => by
  rw [trm_zips t h.len] at hz
  exact (mark_eq _).1 (List.mem_filter.1 hz).2
theorem mth_names {t : Ty} : ∀ z ∈ mthL t, isName z.1 = true := fun _ hz => (List.mem_filter.1 hz).2
theorem FaceP.one {n : Nat} {t : Ty} (h : FaceP n t) {w w2 : List UInt8} {k : Int} (h1 : (w, k) ∈ trmL t) (h2 : (w2, k) ∈ trmL t) : w = w2 := by
  obtain ⟨a, ha, e1⟩ := List.getElem_of_mem h1
  obtain ⟨b, hb, e2⟩ := List.getElem_of_mem h2
  rcases Nat.lt_trichotomy a b with c | c | c
  · have := List.pairwise_iff_getElem.1 h.terms a b ha hb c
    rw [e1, e2] at this; simp only at this; omega
  · subst c; rw [e1] at e2; injection e2
  have := List.pairwise_iff_getElem.1 h.terms b a hb ha c
  rw [e1, e2] at this; simp only at this; omega
theorem FaceP.sig {n : Nat} {t : Ty} (h : FaceP n t) {w : List UInt8} {k l : Int} (h1 : (w, k) ∈ mthL t) (h2 : (w, l) ∈ mthL t) : k = l := by
  obtain ⟨a, ha, e1⟩ := List.getElem_of_mem h1
  obtain ⟨b, hb, e2⟩ := List.getElem_of_mem h2
  rcases Nat.lt_trichotomy a b with c | c | c
  · have := List.pairwise_iff_getElem.1 h.rise a b ha hb c
    rw [e1, e2] at this; exact absurd this (bs_irr _)
  · subst c; rw [e1] at e2; injection e2
  have := List.pairwise_iff_getElem.1 h.rise b a hb ha c
  rw [e1, e2] at this; exact absurd this (bs_irr _)
noncomputable def wiG (N : List Nmd) (T : List Ty) (x : Tm) (l : List Tm) : Except Int (List Ty × Bool) :=
  if x ∈ l then .ok (T, true) else if x.1 = [126] then .ok (T, false) else match undR T N x.2 with
  | .error e => .error e
  | .ok (T1, k) => .ok (T1, decide ((([126] : List UInt8), k) ∈ l))
noncomputable def addG (N : List Nmd) (of : List Tm) : List Tm → List Ty × List Tm → Except Int (List Ty × List Tm)
  | [], s => .ok s
  | x :: l, s => match wiG N s.1 x of with
    | .error e => .error e
    | .ok (T1, b) => addG N of l (T1, if b = true then s.2 ++ [x] else s.2)
noncomputable def comG (N : List Nmd) (T : List Ty) (a b : Ty) : Except Int (List Ty × List Tm) :=
  if ¬ 2 ≤ b.n then .ok (T, trmL a) else if ¬ 2 ≤ a.n then .ok (T, trmL b) else match addG N (trmL b) (trmL a) (T, []) with
  | .error e => .error e
  | .ok s => match addG N (trmL a) (trmL b) s with
    | .error e => .error e
    | .ok s => .ok (s.1, termsR T.length s.2)
def orN (a b : Int) : Int := (if a % 2 = 1 ∨ b % 2 = 1 then 1 else 0) + (if 2 ≤ a ∨ 2 ≤ b then 2 else 0)
def clashP (a b : Ty) : Prop := ∃ x ∈ mthL a, ∃ y ∈ mthL b, x.1 = y.1 ∧ x.2 ≠ y.2
def newL (a b : Ty) : List Tm := (mthL b).filter fun y => !decide (y.1 ∈ (mthL a).map (·.1))
def sortP (a b : Ty) (ms : List Tm) : Prop := ms.Perm (mthL a ++ newL a b) ∧ ms.Pairwise fun x y => ¬ y.1 < x.1
def mtT (a b : Ty) (ms ts : List Tm) : Ty := ⟨7, [], orN a.n b.n, (ms ++ ts).map (·.1), (ms ++ ts).map (·.2)⟩
def meetP (T : List Ty) (N : List Nmd) (i k : Int) (X : List Ty) (M : List Nmd) (m e : Int) : Prop :=
  (e ≠ 0 ∧ X = [] ∧ M = [] ∧ m = 0 ∧ (badA T N [] [i, k] e ∨ (goodA T N [] [i, k] ∧ (¬((tyAt T i).kind = 7 ∧ (tyAt T k).kind = 7) ∨ ((tyAt T i).kind = 7 ∧ (tyAt T k).kind = 7) ∧ (clashP (tyAt T i) (tyAt T k) ∨ comG N T (tyAt T i) (tyAt T k) = .error e ∨ ∃ T1 ts ms l j, comG N T (tyAt T i) (tyAt T k) = .ok (T1, ts) ∧ sortP (tyAt T i) (tyAt T k) ms ∧ AddP T1 (mtT (tyAt T i) (tyAt T k) ms ts) l j e))))) ∨
  (e = 0 ∧ M = N ∧ goodA T N [] [i, k] ∧ ((tyAt T i).kind = 7 ∧ (tyAt T k).kind = 7) ∧ ¬ clashP (tyAt T i) (tyAt T k) ∧ ∃ T1 ts ms, comG N T (tyAt T i) (tyAt T k) = .ok (T1, ts) ∧ sortP (tyAt T i) (tyAt T k) ms ∧ AddP T1 (mtT (tyAt T i) (tyAt T k) ms ts) X m 0)
theorem sort_self {n : Nat} {a b : Ty} (ha : FaceP n a) (hn : newL a b = []) {ms : List Tm} (h : sortP a b ms) : ms = mthL a := by
  obtain ⟨hp, hs⟩ := h
  rw [hn, List.append_nil] at hp
  refine List.Perm.eq_of_pairwise (le := fun x y => ¬ y.1 < x.1) (fun x y hx hy h1 h2 => ?_) hs (ha.rise.imp fun h h2 => bs_irr _ (List.lt_trans h h2)) hp
  have e : x.1 = y.1 := List.le_antisymm (List.not_lt.1 h1) (List.not_lt.1 h2)
  have hx2 := hp.mem_iff.1 hx
  have : x.2 = y.2 := ha.sig (w := x.1) hx2 (by rw [e]; exact hy)
  exact Prod.ext e this
theorem zip_mt (a b : Ty) (ms ts : List Tm) : zips (mtT a b ms ts) = ms ++ ts := by
  unfold zips mtT
  simp only
  generalize ms ++ ts = l
  induction l with
  | nil => rfl
  | cons x l ih => simp [ih]
theorem orN_self {a : Int} (h0 : 0 ≤ a) (h3 : a ≤ 3) : orN a a = a := by unfold orN; simp only [or_self]; split <;> split <;> omega
theorem orN_zero {a : Int} (h0 : 0 ≤ a) (h3 : a ≤ 3) : orN a 0 = a := by unfold orN; split <;> split <;> omega
theorem mt_self {n : Nat} {a b : Ty} (ha : FaceP n a) (ho : orN a.n b.n = a.n) : mtT a b (mthL a) (trmL a) = a := by
  have hz := ha.zip
  refine ty_ext ha.kind.symm ha.name.symm ho ?_ ?_
  · show ((mthL a ++ trmL a).map (·.1)) = a.words
    rw [← hz]; unfold zips; rw [List.map_fst_zip (Nat.le_of_eq ha.len)]
  show ((mthL a ++ trmL a).map (·.2)) = a.kids
  rw [← hz]; unfold zips; rw [List.map_snd_zip (Nat.le_of_eq ha.len.symm)]
theorem addG_self (N : List Nmd) (of : List Tm) (T : List Ty) : ∀ (l cs : List Tm), (∀ x ∈ l, x ∈ of) → addG N of l (T, cs) = .ok (T, cs ++ l)
  | [], cs, _ => by simp [addG]
  | x :: l, cs, h => by
    have hw : wiG N T x of = .ok (T, true) := by unfold wiG; rw [if_pos (h x (.head _))]
    simp only [addG, hw, if_true]
    rw [addG_self N of T l (cs ++ [x]) (fun y hy => h y (.tail _ hy))]
    simp
theorem terms_self {T : List Ty} (hr : rightP T) {c : Int} (h0 : 0 ≤ c) (hc : c < T.length) (h7 : (tyAt T c).kind = 7) : termsR T.length (trmL (tyAt T c) ++ trmL (tyAt T c)) = trmL (tyAt T c) := by
  have hf := face_of hr h0 hc h7
  have hnd : (trmL (tyAt T c)).Nodup := hf.terms.imp fun h e => by rw [e] at h; omega
  have hnr : (termsR T.length (trmL (tyAt T c) ++ trmL (tyAt T c))).Nodup := (termsR_sorted _ _).imp fun h e => by rw [e] at h; omega
  refine List.Perm.eq_of_pairwise (le := fun x y => x.2 < y.2) (fun a b _ _ h1 h2 => by omega) (termsR_sorted _ _) hf.terms ((List.perm_ext_iff_of_nodup hnr hnd).2 fun x => ?_)
  rw [Hs]
  have hm : ∀ z : Tm, z ∈ trmL (tyAt T c) ++ trmL (tyAt T c) ↔ z ∈ trmL (tyAt T c) := fun z => by rw [List.mem_append, or_self]
  obtain ⟨w, k⟩ := x
  constructor
  · rintro ⟨e, hne, _, _⟩
    simp only at e hne
    rcases (markOf_is (trmL (tyAt T c) ++ trmL (tyAt T c)) k).resolve_left (by rw [← e]; exact hne) with h | h
    · rw [e, h]; exact (hm _).1 ((markOf_set _ k).2.1 h).2
    rw [e, h]; exact (hm _).1 ((markOf_set _ k).1.1 h)
  intro hx
  have hb := hf.low _ hx
  have hmk := hf.marks _ hx
  refine ⟨?_, by rcases hmk with h | h <;> (simp only at h ⊢; rw [h]; simp), hb.1, hb.2⟩
  rcases hmk with h | h
  · simp only at h; subst h
    exact ((markOf_set _ k).2.2 ⟨fun h2 => by have := hf.one hx ((hm _).1 h2); simp at this, (hm _).2 hx⟩).symm
  simp only at h; subst h
  exact ((markOf_set _ k).1.2 ((hm _).2 hx)).symm
theorem meet_found {T : List Ty} {N : List Nmd} {i k : Int} (hg : goodA T N [] [i, k]) (h7 : (tyAt T i).kind = 7) (k7 : (tyAt T k).kind = 7) (hc : ¬ clashP (tyAt T i) (tyAt T k)) (hn : newL (tyAt T i) (tyAt T k) = []) (hcom : comG N T (tyAt T i) (tyAt T k) = .ok (T, trmL (tyAt T i))) (ho : orN (tyAt T i).n (tyAt T k).n = (tyAt T i).n) {X : List Ty} {M : List Nmd} {m e : Int} (h : meetP T N i k X M m e) : e = 0 ∧ X = T ∧ M = N ∧ m = i := by
  have hi := hg.2 i (.head _)
  have hf := face_of hg.1.1.1 hi.1 hi.2 h7
  obtain ⟨hq, eq⟩ := GQ hi.1 hi.2
  have key : ∀ {ms : List Tm} {l : List Ty} {j e : Int}, sortP (tyAt T i) (tyAt T k) ms → AddP T (mtT (tyAt T i) (tyAt T k) ms (trmL (tyAt T i))) l j e → e = 0 ∧ l = T ∧ j = i := fun {ms l j e} hs hA => by
    rw [sort_self hf hn hs, mt_self hf ho] at hA
    rcases hA with ⟨q, hq2, e1, e2, e3, e4⟩ | ⟨hno, _⟩
    · refine ⟨e4, e2, ?_⟩
      have := right_inj hg.1.1.1 hq2 hq (by rw [e1, eq])
      omega
    exact absurd (by rw [eq]; exact List.getElem_mem hq) hno
  rcases h with ⟨h0, _, _, _, hb | ⟨_, hk | ⟨_, hcl | he | ⟨T1, ts, ms, l, j, e1, e2, e3⟩⟩⟩⟩ | ⟨h0, hM, _, _, _, T1, ts, ms, e1, e2, e3⟩
  · exact (badA_good hb hg).elim
  · exact absurd ⟨h7, k7⟩ hk
  · exact absurd hcl hc
  · rw [hcom] at he; cases he
  · rw [hcom] at e1
    injection e1 with e1; injection e1 with e4 e5
    subst e4 e5
    exact absurd (key e2 e3).1 h0
  rw [hcom] at e1
  injection e1 with e1; injection e1 with e4 e5
  subst e4 e5
  have := key e2 e3
  exact ⟨h0, this.2.1, hM, this.2.2⟩
theorem meet_self {T : List Ty} {N : List Nmd} {i : Int} (hg : goodA T N [] [i, i]) (h7 : (tyAt T i).kind = 7) {X : List Ty} {M : List Nmd} {m e : Int} (h : meetP T N i i X M m e) : e = 0 ∧ X = T ∧ M = N ∧ m = i := by
  have hi := hg.2 i (.head _)
  have hf := face_of hg.1.1.1 hi.1 hi.2 h7
  refine meet_found hg h7 h7 ?_ ?_ ?_ (orN_self hf.n0 hf.n3) h
  · rintro ⟨x, hx, y, hy, e1, e2⟩
    exact e2 (hf.sig (w := x.1) hx (by rw [e1]; exact hy))
  · unfold newL
    rw [List.filter_eq_nil_iff]
    intro y hy
    have hm : y.1 ∈ (mthL (tyAt T i)).map (·.1) := List.mem_map.2 ⟨y, hy, rfl⟩
    rw [decide_eq_true hm]; decide
  unfold comG
  by_cases c : 2 ≤ (tyAt T i).n
  · rw [if_neg (by simpa using c), if_neg (by simpa using c), addG_self N _ T _ _ (fun x hx => hx)]
    simp only
    rw [addG_self N _ T _ _ (fun x hx => hx)]
    simp only [List.nil_append]
    rw [terms_self hg.1.1.1 hi.1 hi.2 h7]
  rw [if_pos c]
theorem any_at {T : List Ty} (hr : rightP T) : 20 < T.length ∧ tyAt T 20 = ⟨7, [], 0, [], []⟩ := by
  have hl := hr.1
  have h := hr.2.2 20 HW
  unfold rowAt at h
  rw [if_pos (by decide)] at h
  refine ⟨by omega, ?_⟩
  obtain ⟨hn, e⟩ := GQ (T := T) (i := 20) (by decide) HW
  rw [e]
  have e2 : T[(20 : Int).toNat] = T[20] := rfl
  rw [e2, h]; decide
theorem meet_any {T : List Ty} {N : List Nmd} {i : Int} (hu : rightU T N) (hi : 0 ≤ i ∧ i < T.length) (h7 : (tyAt T i).kind = 7) {X : List Ty} {M : List Nmd} {m e : Int} (h : meetP T N i 20 X M m e) : e = 0 ∧ X = T ∧ M = N ∧ m = i := by
  have hf := face_of hu.1 hi.1 hi.2 h7
  obtain ⟨hl, ha⟩ := any_at hu.1
  have hg : goodA T N [] [i, 20] := ⟨⟨hu, bnd_none T⟩, fun p hp => by
    simp only [List.mem_cons, List.not_mem_nil, or_false] at hp
    rcases hp with rfl | rfl
    · exact hi
    omega⟩
  have hm : mthL (tyAt T 20) = [] := by rw [ha]; rfl
  refine meet_found hg h7 (by rw [ha]) ?_ ?_ ?_ (by rw [ha]; exact orN_zero hf.n0 hf.n3) h
  · rintro ⟨x, _, y, hy, _⟩
    rw [hm] at hy; cases hy
  · unfold newL; rw [hm]; rfl
  unfold comG
  rw [if_pos (by rw [ha]; decide)]
end Go.Sy
namespace Go.Sy
open Go Go.Proofs
section
variable {T X : List Ty} {N : List Nmd} {i k : Int}
def upU (T X : List Ty) (N : List Nmd) : Prop := rightU X N ∧ T <+: X
theorem wiG_up {Tx Ty2 : List Ty} {x : Tm} {l : List Tm} {b : Bool} (hx : upU T Tx N) (h0 : 0 ≤ x.2 ∧ x.2 < T.length) (h : wiG N Tx x l = .ok (Ty2, b)) : upU T Ty2 N := by
  unfold wiG at h
  split at h
  · injection h with h; injection h with h; subst h; exact hx
  split at h
  · injection h with h; injection h with h; subst h; exact hx
  split at h
  · cases h
  rename_i hy
  injection h with h; injection h with h
  subst h
  have := hx.2.length_le
  obtain ⟨h1, h2, _⟩ := undR_ok hx.1 h0.1 HW hy
  exact ⟨h1, hx.2.trans h2⟩
theorem addG_ok {of : List Tm} : ∀ (l : List Tm) (T0 : List Ty) (cs : List Tm) (T2 : List Ty) (cs2 : List Tm), upU T T0 N → (∀ x ∈ l, 0 ≤ x.2 ∧ x.2 < T.length) → addG N of l (T0, cs) = .ok (T2, cs2) →
    upU T T2 N ∧ (∀ z ∈ cs2, z ∈ cs ∨ (z ∈ l ∧ ∃ Tx Ty2, upU T Tx N ∧ wiG N Tx z of = .ok (Ty2, true))) ∧ (∀ z ∈ cs, z ∈ cs2) ∧ ∀ z ∈ l, z ∈ cs2 ∨ ∃ Tx Ty2, upU T Tx N ∧ wiG N Tx z of = .ok (Ty2, false)
  | [], T0, cs, T2, cs2, hu, _, h => by
    injection h with h; injection h with e1 e2
    subst e1 e2
    exact ⟨hu, fun z hz => .inl hz, fun z hz => hz, fun z hz => by cases hz⟩
  | x :: l, T0, cs, T2, cs2, hu, hl, h => by
    simp only [addG] at h
    cases hw : wiG N T0 x of with
    | error e => rw [hw] at h; cases h
    | ok y =>
      obtain ⟨T1, b⟩ := y
      rw [hw] at h
      have hu1 := wiG_up hu (hl x (.head _)) hw
      obtain ⟨h1, h2, h3, h4⟩ := addG_ok l T1 _ T2 cs2 hu1 (fun z hz => hl z (.tail _ hz)) h
      refine ⟨h1, fun z hz => ?_, fun z hz => ?_, fun z hz => ?_⟩
      · rcases h2 z hz with h | ⟨h, h5⟩
        · cases b with
          | false => exact .inl h
          | true =>
            rcases List.mem_append.1 h with h | h
            · exact .inl h
            rw [List.mem_singleton.1 h]
            exact .inr ⟨.head _, T0, T1, hu, hw⟩
        exact .inr ⟨.tail _ h, h5⟩
      · refine h3 z ?_
        cases b with
        | false => exact hz
        | true => exact List.mem_append_left _ hz
      rcases List.mem_cons.1 hz with rfl | hz
      · cases b with
        | false => exact .inr ⟨T0, T1, hu, hw⟩
        | true => exact .inl (h3 z (List.mem_append_right _ (.head _)))
      exact h4 z hz
theorem wi_til {Tx Ty2 : List Ty} {l : List Tm} {b : Bool} (h : wiG N Tx ([126], k) l = .ok (Ty2, b)) : b = true ↔ (([126] : List UInt8), k) ∈ l := by
  unfold wiG at h
  split at h
  · rename_i c
    injection h with h; injection h with _ h; subst h; simp [c]
  rename_i c
  rw [if_pos rfl] at h
  injection h with h; injection h with _ h; subst h; simp [c]
theorem wi_eq (ht : rightU T N) {X1 Tx Ty2 : List Ty} (hX : upU T X N) (hk : undR X N i = .ok (X1, k)) (hx : upU T Tx N) (h0 : 0 ≤ i ∧ i < T.length) {l : List Tm} (hl : ∀ z ∈ l, 0 ≤ z.2 ∧ z.2 < T.length) {b : Bool} (h : wiG N Tx ([61], i) l = .ok (Ty2, b)) : b = true ↔ inC l i k := by
  unfold wiG at h
  unfold inC
  split at h
  · rename_i c
    injection h with h; injection h with _ h; subst h; simp [c]
  rename_i c
  rw [if_neg (show ¬ ((([61] : List UInt8), i).1 = [126]) from (by decide : ¬ (([61] : List UInt8) = [126])))] at h
  simp only at h
  split at h
  · cases h
  rename_i T1 k2 hu
  injection h with h; injection h with _ h
  subst h
  obtain ⟨t, _, _, e⟩ := und_two (P := Tx) (Q := X) ⟨⟨hx.1.1, hX.1.1, hx.2, hX.2⟩, ht, hx.1, hX.1⟩ (EqI.base h0.1 h0.2) hu hk
  have h9 := in_low t.tw e hl i
  unfold inC at h9
  rw [← h9]
  simp [c]
theorem com_in (ht : rightU T N) (hX : upU T X N) {X1 : List Ty} (hk : undR X N i = .ok (X1, k)) (h0 : 0 ≤ i ∧ i < T.length) {a b : Ty} (ha : FaceP T.length a) (hb : FaceP T.length b) (a2 : 2 ≤ a.n) (b2 : 2 ≤ b.n) {T1 : List Ty} {ts : List Tm} (h : comG N T a b = .ok (T1, ts)) : inC ts i k ↔ inC (trmL a) i k ∧ inC (trmL b) i k := by
  unfold comG at h
  rw [if_neg (by simpa using b2), if_neg (by simpa using a2)] at h
  cases h1 : addG N (trmL b) (trmL a) (T, []) with
  | error e => rw [h1] at h; cases h
  | ok s =>
    obtain ⟨T2, cs⟩ := s
    rw [h1] at h
    simp only at h
    cases h3 : addG N (trmL a) (trmL b) (T2, cs) with
    | error e => rw [h3] at h; cases h
    | ok s =>
      obtain ⟨T3, ds⟩ := s
      rw [h3] at h
      injection h with h; injection h with e1 e2
      subst e1 e2
      obtain ⟨u2, A1, _, A3⟩ := addG_ok (T := T) _ _ _ _ _ ⟨ht, List.prefix_rfl⟩ ha.low h1
      obtain ⟨u3, B1, B2, B3⟩ := addG_ok (T := T) _ _ _ _ _ u2 hb.low h3
      -- what is among them
      have til : (([126] : List UInt8), k) ∈ ds → (([126] : List UInt8), k) ∈ trmL a ∧ (([126] : List UInt8), k) ∈ trmL b := fun hz => by
        rcases B1 _ hz with hz | ⟨hz, Tx, Ty2, hx, hw⟩
        · rcases A1 _ hz with hz | ⟨hz, Tx, Ty2, hx, hw⟩
          · cases hz
          exact ⟨hz, (wi_til hw).1 rfl⟩
        exact ⟨(wi_til hw).1 rfl, hz⟩
      have tili : ∀ {j : Int}, (([126] : List UInt8), j) ∈ ds → (([126] : List UInt8), j) ∈ trmL a ∧ (([126] : List UInt8), j) ∈ trmL b := fun {j} hz => by
        rcases B1 _ hz with hz | ⟨hz, Tx, Ty2, hx, hw⟩
        · rcases A1 _ hz with hz | ⟨hz, Tx, Ty2, hx, hw⟩
          · cases hz
          exact ⟨hz, (wi_til hw).1 rfl⟩
        exact ⟨(wi_til hw).1 rfl, hz⟩
      have til2 : (([126] : List UInt8), k) ∈ trmL a → (([126] : List UInt8), k) ∈ trmL b → (([126] : List UInt8), k) ∈ ds := fun ka kb => by
        rcases A3 _ ka with hz | ⟨Tx, Ty2, hx, hw⟩
        · exact B2 _ hz
        exact absurd ((wi_til hw).2 kb) (by decide)
      have eq1 : (([61] : List UInt8), i) ∈ ds → inC (trmL a) i k ∧ inC (trmL b) i k := fun hz => by
        rcases B1 _ hz with hz | ⟨hz, Tx, Ty2, hx, hw⟩
        · rcases A1 _ hz with hz | ⟨hz, Tx, Ty2, hx, hw⟩
          · cases hz
          exact ⟨.inl hz, (wi_eq ht hX hk hx h0 hb.low hw).1 rfl⟩
        exact ⟨(wi_eq ht hX hk hx h0 ha.low hw).1 rfl, .inl hz⟩
      have eq2 : (([61] : List UInt8), i) ∈ trmL a → inC (trmL b) i k → (([61] : List UInt8), i) ∈ ds := fun ka kb => by
        rcases A3 _ ka with hz | ⟨Tx, Ty2, hx, hw⟩
        · exact B2 _ hz
        exact absurd ((wi_eq ht hX hk hx h0 hb.low hw).2 kb) (by decide)
      have eq3 : (([61] : List UInt8), i) ∈ trmL b → inC (trmL a) i k → (([61] : List UInt8), i) ∈ ds := fun kb ka => by
        rcases B3 _ kb with hz | ⟨Tx, Ty2, hx, hw⟩
        · exact hz
        exact absurd ((wi_eq ht hX hk hx h0 ha.low hw).2 ka) (by decide)
      have mt : ∀ j : Int, (([126] : List UInt8), j) ∈ termsR T.length ds ↔ (([126] : List UInt8), j) ∈ ds ∧ 0 ≤ j ∧ j < T.length := fun j => by
        rw [Hs]
        constructor
        · rintro ⟨e, _, h5, h6⟩; exact ⟨(markOf_set ds j).1.1 e.symm, h5, h6⟩
        rintro ⟨e, h5, h6⟩; exact ⟨((markOf_set ds j).1.2 e).symm, by simp, h5, h6⟩
      have me : ∀ j : Int, (([61] : List UInt8), j) ∈ termsR T.length ds ↔ ((([126] : List UInt8), j) ∉ ds ∧ (([61] : List UInt8), j) ∈ ds) ∧ 0 ≤ j ∧ j < T.length := fun j => by
        rw [Hs]
        constructor
        · rintro ⟨e, _, h5, h6⟩; exact ⟨(markOf_set ds j).2.1 e.symm, h5, h6⟩
        rintro ⟨e, h5, h6⟩; exact ⟨((markOf_set ds j).2.2 e).symm, by simp, h5, h6⟩
      have noA : (([61] : List UInt8), i) ∈ trmL a → (([126] : List UInt8), i) ∉ ds := fun hz h9 => by
        have := ha.one hz (tili h9).1; simp at this
      have noB : (([61] : List UInt8), i) ∈ trmL b → (([126] : List UInt8), i) ∉ ds := fun hz h9 => by
        have := hb.one hz (tili h9).2; simp at this
      constructor
      · rintro (hz | hz)
        · exact eq1 ((me i).1 hz).1.2
        have := til ((mt k).1 hz).1
        exact ⟨.inr this.1, .inr this.2⟩
      rintro ⟨hA, hB⟩
      rcases hA with hA1 | hA1
      · exact .inl ((me i).2 ⟨⟨noA hA1, eq2 hA1 hB⟩, h0⟩)
      rcases hB with hB1 | hB1
      · exact .inl ((me i).2 ⟨⟨noB hB1, eq3 hB1 (.inr hA1)⟩, h0⟩)
      exact .inr ((mt k).2 ⟨til2 hA1 hB1, ha.low _ hA1⟩)
theorem com_up (ht : rightU T N) {a b : Ty} (ha : FaceP T.length a) (hb : FaceP T.length b) {T1 : List Ty} {ts : List Tm} (h : comG N T a b = .ok (T1, ts)) : upU T T1 N ∧ (∀ z ∈ ts, 0 ≤ z.2 ∧ z.2 < T.length) ∧ (∀ z ∈ ts, markP z.1) ∧ (2 ≤ a.n → ¬ 2 ≤ b.n → ts = trmL a) ∧ (¬ 2 ≤ a.n → 2 ≤ b.n → ts = trmL b) := by
  unfold comG at h
  by_cases b2 : 2 ≤ b.n
  · rw [if_neg (by simpa using b2)] at h
    by_cases a2 : 2 ≤ a.n
    · rw [if_neg (by simpa using a2)] at h
      cases h1 : addG N (trmL b) (trmL a) (T, []) with
      | error e => rw [h1] at h; cases h
      | ok s =>
        obtain ⟨T2, cs⟩ := s
        rw [h1] at h
        simp only at h
        cases h3 : addG N (trmL a) (trmL b) (T2, cs) with
        | error e => rw [h3] at h; cases h
        | ok s =>
          obtain ⟨T3, ds⟩ := s
          rw [h3] at h
          injection h with h; injection h with e1 e2
          subst e1 e2
          obtain ⟨u2, _⟩ := addG_ok (T := T) _ _ _ _ _ ⟨ht, List.prefix_rfl⟩ ha.low h1
          obtain ⟨u3, _⟩ := addG_ok (T := T) _ _ _ _ _ u2 hb.low h3
          exact ⟨u3, fun z hz => ((Hs _ _ _).1 hz).2.2, fun z hz => termsR_mark hz, fun _ h => absurd b2 h, fun h => absurd a2 h⟩
    rw [if_pos a2] at h
    injection h with h; injection h with e1 e2
    subst e1 e2
    exact ⟨⟨ht, List.prefix_rfl⟩, hb.low, hb.marks, fun h => absurd h a2, fun _ _ => rfl⟩
  rw [if_pos b2] at h
  injection h with h; injection h with e1 e2
  subst e1 e2
  exact ⟨⟨ht, List.prefix_rfl⟩, ha.low, ha.marks, fun _ _ => rfl, fun _ h => absurd h b2⟩
theorem mth_mt {a b : Ty} {ms ts : List Tm} (hm : ∀ z ∈ ms, isName z.1 = true) (ht : ∀ z ∈ ts, markP z.1) : mthL (mtT a b ms ts) = ms ∧ trmL (mtT a b ms ts) = ts := by
  have hl : (mtT a b ms ts).words.length = (mtT a b ms ts).kids.length := by simp [mtT]
  rw [trm_zips _ hl]
  unfold mthL
  rw [zip_mt]
  constructor
  · rw [List.filter_append, List.filter_eq_self.2 hm, List.filter_eq_nil_iff.2 (fun z hz h => name_mark h (ht z hz)), List.append_nil]
  rw [List.filter_append, List.filter_eq_nil_iff.2 (fun z hz h => name_mark (hm z hz) ((mark_eq _).1 h)), List.filter_eq_self.2 (fun z hz => (mark_eq _).2 (ht z hz)), List.nil_append]
theorem sort_mem {a b : Ty} {ms : List Tm} (hc : ¬ clashP a b) (hs : sortP a b ms) (z : Tm) : z ∈ ms ↔ z ∈ mthL a ∨ z ∈ mthL b := by
  rw [hs.1.mem_iff, List.mem_append]
  unfold newL
  rw [List.mem_filter]
  constructor
  · rintro (h | h)
    · exact .inl h
    exact .inr h.1
  rintro (h | h)
  · exact .inl h
  by_cases c : z.1 ∈ (mthL a).map (·.1)
  · obtain ⟨x, hx, e⟩ := List.mem_map.1 c
    have : x.2 = z.2 := Classical.byContradiction fun hne => hc ⟨x, hx, z, h, e, hne⟩
    exact .inl (by rw [← (Prod.ext e this : x = z)]; exact hx)
  exact .inr ⟨h, by simp only [Bool.not_eq_true', decide_eq_false_iff_not]; exact c⟩
theorem orN_two {a b : Int} : 2 ≤ orN a b ↔ 2 ≤ a ∨ 2 ≤ b := by unfold orN; split <;> split <;> simp_all
theorem orN_one {a b : Int} : orN a b % 2 = 1 ↔ a % 2 = 1 ∨ b % 2 = 1 := by unfold orN; split <;> split <;> simp_all
theorem meet_law {a b m : Int} (h : meetP T N a b X N m 0) : rightU X N ∧ T <+: X ∧ (0 ≤ m ∧ m < X.length) ∧ goodA T N [] [a, b] ∧ ((tyAt T a).kind = 7 ∧ (tyAt T b).kind = 7) ∧ (tyAt X m).kind = 7 ∧
    ∀ (i : Int) (p q r : Bool), 0 ≤ i → i < T.length → (tyAt T i).kind ≠ 9 → isR N [] T i a = .ok p → isR N [] T i b = .ok q → isR N [] X i m = .ok r → r = (p && q) := by
  rcases h with ⟨h0, _⟩ | ⟨_, _, hg, ⟨ka, kb⟩, hc, T1, ts, ms, h1, h2, h3⟩
  · exact absurd rfl h0
  have ht := hg.1.1
  have ha := hg.2 a (.head _)
  have hb := hg.2 b (.tail _ (.head _))
  have fa := face_of ht.1 ha.1 ha.2 ka
  have fb := face_of ht.1 hb.1 hb.2 kb
  obtain ⟨hu, hlow, hmk, hA, hB⟩ := com_up ht fa fb h1
  obtain ⟨r1, r2, r3, r4⟩ := add_pre hu.1.1 h3 rfl
  obtain ⟨q, hq, e1, e2⟩ := add_at h3 rfl
  have hX : rightU X N := by
    refine rightU_up r2 hu.1 r1 ?_
    rcases h3 with ⟨_, _, _, e, _⟩ | ⟨_, ⟨_, _, _, e⟩ | ⟨_, _, _, _, e⟩ | ⟨_, _, e, _⟩⟩
    · subst e; exact hu.1.2.2.2
    · omega
    · omega
    subst e
    intro t ht2
    rcases List.mem_append.1 ht2 with h | h
    · exact hu.1.2.2.2 t h
    rw [List.mem_singleton.1 h]
    intro h8
    exact absurd h8 (show ¬ ((7 : Int) = 8) by decide)
  have hp : T <+: X := hu.2.trans r2
  have em : tyAt X m = mtT (tyAt T a) (tyAt T b) ms ts := by
    rw [e1, HI hq]; exact e2
  have hmn : ∀ z ∈ ms, isName z.1 = true := fun z hz => by
    rcases (sort_mem hc h2 z).1 hz with h | h <;> exact mth_names z h
  obtain ⟨m1, m2⟩ := mth_mt (a := tyAt T a) (b := tyAt T b) hmn hmk
  refine ⟨hX, hp, ⟨r3, r4⟩, hg, ⟨ka, kb⟩, by rw [em]; rfl, fun i p q r h0 hi h9 hP hQ hR => ?_⟩
  refine both_law ht hX hp h0 hi h9 ha hb ⟨r3, r4⟩ ka kb (by rw [em]; rfl) (fun z => ?_) ?_ ?_ (fun X1 k hk a2 b2 => ?_) (fun a2 b2 => ?_) (fun a2 b2 => ?_) (fun z hz => ?_) hP hQ hR
  · rw [em, m1]; exact sort_mem hc h2 z
  · rw [em]; exact orN_two
  · rw [em]; exact orN_one
  · rw [em, m2]; exact com_in ht ⟨hX, hp⟩ hk ⟨h0, hi⟩ fa fb a2 b2 h1
  · rw [em, m2]; exact hA a2 b2
  · rw [em, m2]; exact hB a2 b2
  rw [em, m2] at hz; exact hlow z hz
end
end Go.Sy
namespace Go.Proofs
open Go.Shelf
def Tryz.sortMeth_ren : Go.Shelf.Ren := ⟨fun | 6 => 142 | 15 => 155 | 14 => 188 | 28 => 201 | 29 => 202 | 20 => 221 | 21 => 222 | 22 => 223 | 23 => 224 | 24 => 225 | 25 => 226 | 26 => 227 | 27 => 228 | 46 => 252 | 47 => 239 | 48 => 240 | 49 => 253 | 50 => 254 | 57 => 274 | n => n, fun | 22 => 134 | 24 => 142 | 25 => 206 | 3 => 3 | 39 => 218 | 0 => 0 | 53 => 257 | 55 => 259 | 4 => 4 | 46 => 251 | 45 => 250 | 50 => 91 | 5 => 5 | 9 => 9 | 66 => 283 | 70 => 287 | 76 => 298 | 77 => 299 | n => n, fun | n => n⟩
theorem Tryz.sortMeth : Go.Proofs.SlLaysF0.n6 Tryz.prog Tryz.sortMeth_ren := {
  mixed := by kernel_rfl
  f6 := ⟨Tryz.f142.name, by decide, Tryz.func142.trans (congrArg some (by kernel_rfl))⟩
  f14 := ⟨Tryz.f188.name, by decide, Tryz.func188.trans (congrArg some (by kernel_rfl))⟩
  f15 := Tryz.func155.trans (congrArg some (by kernel_rfl))
  f20 := ⟨Tryz.f221.name, by decide, Tryz.func221.trans (congrArg some (by kernel_rfl))⟩
  f21 := ⟨Tryz.f222.name, by decide, Tryz.func222.trans (congrArg some (by kernel_rfl))⟩
  f22 := ⟨Tryz.f223.name, by decide, Tryz.func223.trans (congrArg some (by kernel_rfl))⟩
  f23 := ⟨Tryz.f224.name, by decide, Tryz.func224.trans (congrArg some (by kernel_rfl))⟩
  f24 := ⟨Tryz.f225.name, by decide, Tryz.func225.trans (congrArg some (by kernel_rfl))⟩
  f25 := ⟨Tryz.f226.name, by decide, Tryz.func226.trans (congrArg some (by kernel_rfl))⟩
  f26 := ⟨Tryz.f227.name, by decide, Tryz.func227.trans (congrArg some (by kernel_rfl))⟩
  f27 := ⟨Tryz.f228.name, by decide, Tryz.func228.trans (congrArg some (by kernel_rfl))⟩
  f28 := Tryz.func201.trans (congrArg some (by kernel_rfl))
  f29 := Tryz.func202.trans (congrArg some (by kernel_rfl))
  f46 := ⟨Tryz.f252.name, by decide, Tryz.func252.trans (congrArg some (by kernel_rfl))⟩
  f47 := Tryz.func239.trans (congrArg some (by kernel_rfl))
  f48 := Tryz.func240.trans (congrArg some (by kernel_rfl))
  f49 := ⟨Tryz.f253.name, by decide, Tryz.func253.trans (congrArg some (by kernel_rfl))⟩
  f50 := ⟨Tryz.f254.name, by decide, Tryz.func254.trans (congrArg some (by kernel_rfl))⟩
  f57 := ⟨Tryz.f274.name, by decide, Tryz.func274.trans (congrArg some (by kernel_rfl))⟩
  t0 := Tryz.underlying0
  a0 := Tryz.isAgg0
  z0 := Tryz.sizeOf0
  v0 := Tryz.zeroValue0
  t3 := Tryz.underlying3
  a3 := Tryz.isAgg3
  z3 := Tryz.sizeOf3
  v3 := Tryz.zeroValue3
  t4 := Tryz.underlying4
  a4 := Tryz.isAgg4
  z4 := Tryz.sizeOf4
  v4 := Tryz.zeroValue4
  t5 := Tryz.underlying5
  a5 := Tryz.isAgg5
  z5 := Tryz.sizeOf5
  v5 := Tryz.zeroValue5
  t9 := Tryz.underlying9
  a9 := Tryz.isAgg9
  z9 := Tryz.sizeOf9
  v9 := Tryz.zeroValue9
  t22 := Tryz.underlying134
  a22 := Tryz.isAgg134
  z22 := Tryz.sizeOf134
  v22 := Tryz.zeroValue134
  t25 := Tryz.underlying206
  a25 := Tryz.isAgg206
  z25 := Tryz.sizeOf206
  v25 := Tryz.zeroValue206
  t39 := Tryz.underlying218
  a39 := Tryz.isAgg218
  z39 := Tryz.sizeOf218
  v39 := Tryz.zeroValue218
  t45 := Tryz.underlying250
  a45 := Tryz.isAgg250
  z45 := Tryz.sizeOf250
  v45 := Tryz.zeroValue250
  t46 := Tryz.underlying251
  a46 := Tryz.isAgg251
  z46 := Tryz.sizeOf251
  v46 := Tryz.zeroValue251
  t50 := Tryz.underlying91
  a50 := Tryz.isAgg91
  z50 := Tryz.sizeOf91
  v50 := Tryz.zeroValue91
  t53 := Tryz.underlying257
  a53 := Tryz.isAgg257
  z53 := Tryz.sizeOf257
  v53 := Tryz.zeroValue257
  t55 := Tryz.underlying259
  a55 := Tryz.isAgg259
  z55 := Tryz.sizeOf259
  v55 := Tryz.zeroValue259
  t66 := Tryz.underlying283
  a66 := Tryz.isAgg283
  z66 := Tryz.sizeOf283
  v66 := Tryz.zeroValue283
  t70 := Tryz.underlying287
  a70 := Tryz.isAgg287
  z70 := Tryz.sizeOf287
  v70 := Tryz.zeroValue287
  t76 := Tryz.underlying298
  a76 := Tryz.isAgg298
  z76 := Tryz.sizeOf298
  v76 := Tryz.zeroValue298
  t77 := Tryz.underlying299
  a77 := Tryz.isAgg299
  z77 := Tryz.sizeOf299
  v77 := Tryz.zeroValue299 }
def Tryz.sortTset_ren : Go.Shelf.Ren := ⟨fun | 6 => 147 | 15 => 155 | 14 => 189 | 28 => 201 | 29 => 202 | 20 => 229 | 21 => 230 | 22 => 231 | 23 => 232 | 24 => 233 | 25 => 234 | 26 => 235 | 27 => 236 | 46 => 255 | 47 => 239 | 48 => 240 | 49 => 256 | 50 => 257 | 57 => 275 | n => n, fun | 22 => 118 | 24 => 144 | 25 => 210 | 3 => 3 | 39 => 218 | 0 => 0 | 53 => 257 | 55 => 259 | 4 => 4 | 46 => 251 | 45 => 250 | 50 => 91 | 5 => 5 | 9 => 9 | 66 => 283 | 70 => 287 | 76 => 298 | 77 => 299 | n => n, fun | n => n⟩
theorem Tryz.sortTset : Go.Proofs.SlLaysF0.n6 Tryz.prog Tryz.sortTset_ren := {
  mixed := by kernel_rfl
  f6 := ⟨Tryz.f147.name, by decide, Tryz.func147.trans (congrArg some (by kernel_rfl))⟩
  f14 := ⟨Tryz.f189.name, by decide, Tryz.func189.trans (congrArg some (by kernel_rfl))⟩
  f15 := Tryz.func155.trans (congrArg some (by kernel_rfl))
  f20 := ⟨Tryz.f229.name, by decide, Tryz.func229.trans (congrArg some (by kernel_rfl))⟩
  f21 := ⟨Tryz.f230.name, by decide, Tryz.func230.trans (congrArg some (by kernel_rfl))⟩
  f22 := ⟨Tryz.f231.name, by decide, Tryz.func231.trans (congrArg some (by kernel_rfl))⟩
  f23 := ⟨Tryz.f232.name, by decide, Tryz.func232.trans (congrArg some (by kernel_rfl))⟩
  f24 := ⟨Tryz.f233.name, by decide, Tryz.func233.trans (congrArg some (by kernel_rfl))⟩
  f25 := ⟨Tryz.f234.name, by decide, Tryz.func234.trans (congrArg some (by kernel_rfl))⟩
  f26 := ⟨Tryz.f235.name, by decide, Tryz.func235.trans (congrArg some (by kernel_rfl))⟩
  f27 := ⟨Tryz.f236.name, by decide, Tryz.func236.trans (congrArg some (by kernel_rfl))⟩
  f28 := Tryz.func201.trans (congrArg some (by kernel_rfl))
  f29 := Tryz.func202.trans (congrArg some (by kernel_rfl))
  f46 := ⟨Tryz.f255.name, by decide, Tryz.func255.trans (congrArg some (by kernel_rfl))⟩
  f47 := Tryz.func239.trans (congrArg some (by kernel_rfl))
  f48 := Tryz.func240.trans (congrArg some (by kernel_rfl))
  f49 := ⟨Tryz.f256.name, by decide, Tryz.func256.trans (congrArg some (by kernel_rfl))⟩
  f50 := ⟨Tryz.f257.name, by decide, Tryz.func257.trans (congrArg some (by kernel_rfl))⟩
  f57 := ⟨Tryz.f275.name, by decide, Tryz.func275.trans (congrArg some (by kernel_rfl))⟩
  t0 := Tryz.underlying0
  a0 := Tryz.isAgg0
  z0 := Tryz.sizeOf0
  v0 := Tryz.zeroValue0
  t3 := Tryz.underlying3
  a3 := Tryz.isAgg3
  z3 := Tryz.sizeOf3
  v3 := Tryz.zeroValue3
  t4 := Tryz.underlying4
  a4 := Tryz.isAgg4
  z4 := Tryz.sizeOf4
  v4 := Tryz.zeroValue4
  t5 := Tryz.underlying5
  a5 := Tryz.isAgg5
  z5 := Tryz.sizeOf5
  v5 := Tryz.zeroValue5
  t9 := Tryz.underlying9
  a9 := Tryz.isAgg9
  z9 := Tryz.sizeOf9
  v9 := Tryz.zeroValue9
  t22 := Tryz.underlying118
  a22 := Tryz.isAgg118
  z22 := Tryz.sizeOf118
  v22 := Tryz.zeroValue118
  t25 := Tryz.underlying210
  a25 := Tryz.isAgg210
  z25 := Tryz.sizeOf210
  v25 := Tryz.zeroValue210
  t39 := Tryz.underlying218
  a39 := Tryz.isAgg218
  z39 := Tryz.sizeOf218
  v39 := Tryz.zeroValue218
  t45 := Tryz.underlying250
  a45 := Tryz.isAgg250
  z45 := Tryz.sizeOf250
  v45 := Tryz.zeroValue250
  t46 := Tryz.underlying251
  a46 := Tryz.isAgg251
  z46 := Tryz.sizeOf251
  v46 := Tryz.zeroValue251
  t50 := Tryz.underlying91
  a50 := Tryz.isAgg91
  z50 := Tryz.sizeOf91
  v50 := Tryz.zeroValue91
  t53 := Tryz.underlying257
  a53 := Tryz.isAgg257
  z53 := Tryz.sizeOf257
  v53 := Tryz.zeroValue257
  t55 := Tryz.underlying259
  a55 := Tryz.isAgg259
  z55 := Tryz.sizeOf259
  v55 := Tryz.zeroValue259
  t66 := Tryz.underlying283
  a66 := Tryz.isAgg283
  z66 := Tryz.sizeOf283
  v66 := Tryz.zeroValue283
  t70 := Tryz.underlying287
  a70 := Tryz.isAgg287
  z70 := Tryz.sizeOf287
  v70 := Tryz.zeroValue287
  t76 := Tryz.underlying298
  a76 := Tryz.isAgg298
  z76 := Tryz.sizeOf298
  v76 := Tryz.zeroValue298
  t77 := Tryz.underlying299
  a77 := Tryz.isAgg299
  z77 := Tryz.sizeOf299
  v77 := Tryz.zeroValue299 }
end Go.Proofs
namespace Go.Sy
open Go Go.Proofs Go.RowKit
def mthQ (t : Ty) (q : Nat) : List Tm := ((zips t).take q).filter fun z => isName z.1
theorem mthQ_len (t : Ty) (q : Nat) : (mthQ t q).length ≤ q := by
  unfold mthQ
  have := List.length_filter_le (fun z : Tm => isName z.1) ((zips t).take q)
  rw [List.length_take] at this
  omega
theorem mthQ_yes {t : Ty} {q : Nat} (hw : q < t.words.length) (hk : q < t.kids.length) (h : isName t.words[q] = true) : mthQ t (q + 1) = mthQ t q ++ [(t.words[q], t.kids[q])] := by
  have hz : q < (zips t).length := by unfold zips; rw [List.length_zip]; omega
  unfold mthQ
  rw [List.take_succ_eq_append_getElem hz, List.filter_append, HN hw hk hz]
  simp [h]
theorem mthQ_no {t : Ty} {q : Nat} (hw : q < t.words.length) (hk : q < t.kids.length) (h : isName t.words[q] = false) : mthQ t (q + 1) = mthQ t q := by
  have hz : q < (zips t).length := by unfold zips; rw [List.length_zip]; omega
  unfold mthQ
  rw [List.take_succ_eq_append_getElem hz, List.filter_append, HN hw hk hz]
  simp [h]
theorem mthQ_all {t : Ty} (hl : t.words.length = t.kids.length) : mthQ t t.words.length = mthL t := by
  unfold mthQ mthL
  rw [List.take_of_length_le (by unfold zips; rw [List.length_zip]; omega)]
theorem mthL_len {t : Ty} (hl : t.words.length = t.kids.length) : (mthL t).length ≤ t.words.length := by rw [← mthQ_all hl]; exact mthQ_len t _
theorem nidx_first {a : List Tm} {w : List UInt8} {q : Nat} (hq : q < a.length) (h : a[q].1 = w) (hn : ∀ j (hj : j < a.length), j < q → a[j].1 ≠ w) : a.findIdx? (·.1 == w) = some q := by
  rw [List.findIdx?_eq_some_iff_getElem]
  exact ⟨hq, by simp [h], fun j hj => by have := hn j HW hj; simp [this]⟩
theorem nidx_no {a : List Tm} {w : List UInt8} (hn : ∀ j (hj : j < a.length), a[j].1 ≠ w) : a.findIdx? (·.1 == w) = none := by
  rw [List.findIdx?_eq_none_iff]
  intro x hx
  obtain ⟨j, hj, rfl⟩ := List.getElem_of_mem hx
  simp [hn j hj]
def encM (x : Tm) : List Value := [S x.1, .int .i64 x.2]
def cfM (x y : Tm) : Int := if Op.bytesLess x.1 y.1 = true then -1 else 1
theorem ltM (x y : Tm) : ltOf cfM x y = decide (x.1 < y.1) := by
  unfold ltOf cfM
  rw [bytesLess_eq]
  by_cases c : x.1 < y.1 <;> simp [c]
theorem swoM : Go.Sort.SWO (ltOf cfM) where
  irrefl x := by rw [ltM]; simp [bs_irr]
  trans x y z h1 h2 := by
    rw [ltM] at *
    simp only [decide_eq_true_eq] at *
    exact List.lt_trans h1 h2
  ntrans x y z h1 h2 := by
    rw [ltM] at *
    simp only [decide_eq_false_iff_not] at *
    exact fun h => h2 (List.lt_of_le_of_lt (List.not_lt.1 h1) h)
open Go.Sort in
theorem closeM (x y : Tm) (W : World) : Calls Tryz.prog 143 #[.agg (encM x).toArray, .agg (encM y).toArray] W fun e w' => e = .returned (.int .i64 (cfM x y)) ∧ ∃ q os', w' = Go.Sort.grow (W.drewN q) os' := by
  unfold encM cfM
  go_enter Tryz.func143, Tryz.ntmps143
  go_wp2
  all_goals go_ret
  all_goals first
    | exact ⟨rfl, 0, _, by rw [alloc_eq_grow, alloc_eq_grow, grow_grow]; rfl⟩
    | exact absurd ‹Op.bytesLess x.1 y.1 = true› (by simp_all)
    | simp_all
end Go.Sy
namespace Go.Sy
open Go Go.RowKit
section
variable {P : Program} {W0 : World} {n : Nat} {Q : Po} {ρ : Rho} {L : List Res} {F : List Fact} {K : Act → World → Prop}
variable {d : Tmp} {ty t e : TypeId} {pos : String} {af : Array Edge} {g : Option (Nat × Bool)} {x y : Operand} {k c sz : Nat} {rows : List (List D)}
theorem AO.loadOR {i b q j o : Nat} {v : Value} {vs : List Value} [ht : ScT P t] (hx : ev ρ x = some (.pointer (some ⟨b, o, none⟩))) (hd : Nat.blt d n = true) (ho : o = 0 + q * sz + j) (hi : L[i]? = some (Res.own (.slice (some ⟨b, 0, none⟩) k c) e sz rows)) (hr : rows[q]? = some (vs.map D.val)) (hj : vs[j]? = some v)
    (h : AT W0 n K ((d, v) :: ρ) L F) : AO P W0 n K ⟨some d, .load t x, ty, pos, af, g⟩ Q ρ L F := by
  intro a0 w s
  subst ho
  obtain ⟨cur, hb, hc⟩ := s.sat.ownRow hi hr
  have h1 := hc j v (by rw [List.getElem?_map, hj]; rfl)
  have hcell : w.cell? ⟨b, 0 + q * sz + j, none⟩ = some v := by
    obtain ⟨l⟩ := cur
    rw [block_cell hb]
    simpa [Nat.zero_add] using h1
  have hrun : (execOp a0.eval ⟨some d, .load t x, ty, pos, af, g⟩).run P w = .ok (.value v) w := by
    simp only [Nat.zero_add] at hcell
    simp [execOp, GD s.slots hx, Instr.loadAt, Instr.sureAddr, loadVar, ht.agg, hcell, Result.andThen]
  refine ⟨Hy hrun (fun _ e => by cases e), ?_⟩
  simp only [hrun, owR]
  exact h _ _ ⟨s.slots.put (Nat.le_of_ble_eq_true hd) _, s.sat⟩
theorem AO.or4 {yt : TypeId} {a1 a2 : Int} (hx : ev ρ x = some (.int .i64 a1)) (hy : ev ρ y = some (.int .i64 a2)) (h0 : 0 ≤ a1) (h3 : a1 ≤ 3) (k0 : 0 ≤ a2) (k3 : a2 ≤ 3) (hd : Nat.blt d n = true) (h : AT W0 n K ((d, .int .i64 ((if a1 % 2 = 1 ∨ a2 % 2 = 1 then 1 else 0) + (if 2 ≤ a1 ∨ 2 ≤ a2 then 2 else 0))) :: ρ) L F) : AO P W0 n K ⟨some d, .binOp .or t x y yt, ty, pos, af, g⟩ Q ρ L F := by
  refine HK (Q := Q) hd (fun s w st => ?_) h
  have e : (binOp .or t (.int .i64 a1) (.int .i64 a2)).run P w = .ok (.int .i64 ((if a1 % 2 = 1 ∨ a2 % 2 = 1 then 1 else 0) + (if 2 ≤ a1 ∨ 2 ≤ a2 then 2 else 0))) w := by
    have h1 : a1 = 0 ∨ a1 = 1 ∨ a1 = 2 ∨ a1 = 3 := by omega
    have h2 : a2 = 0 ∨ a2 = 1 ∨ a2 = 2 ∨ a2 = 3 := by omega
    rcases h1 with rfl | rfl | rfl | rfl <;> rcases h2 with rfl | rfl | rfl | rfl <;> (rw [binOp_or]; rfl)
  simp [execOp, GD st.slots hx, GD st.slots hy, eqGuard_or, e]
end
end Go.Sy
namespace Go.Sy
open Go Go.Proofs Go.RowKit
theorem new_yes {a b : Ty} {q : Nat} (hq : q < (mthL b).length) (h : (mthL b)[q].1 ∉ (mthL a).map (·.1)) : (((mthL b).take (q + 1)).filter fun y => !decide (y.1 ∈ (mthL a).map (·.1))) = (((mthL b).take q).filter fun y => !decide (y.1 ∈ (mthL a).map (·.1))) ++ [(mthL b)[q]] := by
  rw [List.take_succ_eq_append_getElem hq, List.filter_append]
  simp only [List.filter_cons, List.filter_nil]
  rw [if_pos (by simpa using h)]
theorem new_no {a b : Ty} {q : Nat} (hq : q < (mthL b).length) (h : (mthL b)[q].1 ∈ (mthL a).map (·.1)) : (((mthL b).take (q + 1)).filter fun y => !decide (y.1 ∈ (mthL a).map (·.1))) = (((mthL b).take q).filter fun y => !decide (y.1 ∈ (mthL a).map (·.1))) := by
  rw [List.take_succ_eq_append_getElem hq, List.filter_append]
  simp only [List.filter_cons, List.filter_nil]
  rw [if_neg (by simpa using h), List.append_nil]
abbrev nwQ (a b : Ty) (q : Nat) : List Tm := ((mthL b).take q).filter fun y => !decide (y.1 ∈ (mthL a).map (·.1))
theorem nw_len (a b : Ty) (q : Nat) : (nwQ a b q).length ≤ q := by
  have := List.length_filter_le (fun y : Tm => !decide (y.1 ∈ (mthL a).map (·.1))) ((mthL b).take q)
  rw [List.length_take] at this
  unfold nwQ
  omega
theorem nidx_out {a b : Ty} {q : Nat} {w : List UInt8} (h : (mthL a ++ nwQ a b q).findIdx? (·.1 == w) = none) : w ∉ (mthL a).map (·.1) := by
  rw [List.findIdx?_eq_none_iff] at h
  rintro hm
  obtain ⟨x, hx, e⟩ := List.mem_map.1 hm
  have := h x (List.mem_append_left _ hx)
  simp [e] at this
theorem nidx_in {n : Nat} {a b : Ty} (fb : FaceP n b) {q k : Nat} (hq : q < (mthL b).length) (h : (mthL a ++ nwQ a b q).findIdx? (·.1 == (mthL b)[q].1) = some k) : ∃ hk : k < (mthL a ++ nwQ a b q).length, (mthL a ++ nwQ a b q)[k].1 = (mthL b)[q].1 ∧ (mthL a ++ nwQ a b q)[k] ∈ mthL a := by
  obtain ⟨hk, h1, _⟩ := List.findIdx?_eq_some_iff_getElem.1 h
  have h1 : (mthL a ++ nwQ a b q)[k].1 = (mthL b)[q].1 := by simpa using h1
  refine ⟨hk, h1, ?_⟩
  rcases List.mem_append.1 (List.getElem_mem hk) with hm | hm
  · exact hm
  have hm2 := (List.mem_filter.1 hm).1
  obtain ⟨j, hj, e⟩ := List.mem_take_iff_getElem.1 hm2
  have hjq : j < q := by omega
  have := List.pairwise_iff_getElem.1 fb.rise j q HW hq hjq
  rw [e, h1] at this
  exact absurd this (bs_irr _)
attribute [local irreducible] AC AT AO AK AH ACalls Sub Res.cells Res.obj Res.nix Res.own Res.map Exit.then Exit.inBlock bodyPost Code.wp Code.wpIn WL Next Post Kont
section
variable {W0 : World} {L : List Res} {F : List Fact} {R : Value → List Res → List Fact → Prop}
set_option maxRecDepth 100000
set_option maxHeartbeats 16000000
theorem tmethods_c (t : Ty) (hl : t.words.length ≤ 20) (hlen : t.words.length = t.kids.length) {a1 a2 : Option Addr} {k1 c1 k2 c2 : Nat} (m1 : fW t a1 k1 c1 ∈ F) (m2 : fK t a2 k2 c2 ∈ F)
    (h : ∀ a k c, R (.slice a k c) (Res.own (.slice a k c) 142 2 ((mthL t).map eTm) :: L) F) : ACalls Tryz.prog W0 139 #[vTy t a1 k1 c1 a2 k2 c2] L F R := by
  have hml : 1000000 ≤ maxLen := by decide
  refine Ge Tryz.func139 HU Tryz.ntmps139 HU ?_
  refine qs 2 ?_
  refine Ga (GJ HU HU (fun b1 => ?_))
  refine qs 13 ?_
  refine Ga (Gv HU HU (fun hl8 => ?_) (enc := eS) (lst := t.words) (hm := memA))
  refine qs 4 ?_
  refine GN (fun (x : Nat × Option Addr × Nat × Nat) => x.1 ≤ t.words.length) (fun x => [(1, .pointer (some ⟨b1, 0, none⟩)), (3, .slice x.2.1 x.2.2.1 x.2.2.2), (7, .slice a1 k1 c1), (8, .int .i64 t.words.length), (9, .int .i64 (x.1 : Int))]) (fun x => Res.own (.slice x.2.1 x.2.2.1 x.2.2.2) 142 2 ((mthQ t x.1).map eTm) :: _) (fun _ => _) (fun x => t.words.length - x.1) (0, none, 0, 0) (by simp) srA Ha ?_
  rintro ⟨q, a3, k3, c3⟩ hq
  simp only at hq ⊢
  refine qs 2 ?_
  refine Ga (GB HU HU HU (fun c10 => ?_) (fun c10 => ?_))
  ·refine qs 11 ?_
   have hql : q < t.words.length := by omega
   have hqk : q < t.kids.length := by omega
   have htl := mthQ_len t q
   refine Ga (Gj HU HU HU HU (enc := eS) (lst := t.words) memA hql (fun _ _ => ?_))
   refine Ga (GE HU HU ?_)
   intros
   refine qs 7 ?_
   refine Ga (Gd HU HU (Hz t.words[q] (fun c15 => ?_) (fun c15 => ?_)))
   ·refine qs 9 ?_
    refine Ga (Gj HU HU HU HU (enc := eI) (lst := t.kids) memA hqk (fun _ _ => ?_))
    refine Ga (GE HU HU ?_)
    intros
    refine Ga (GI HU HU HU ?_)
    refine Ga (Gi HU HU HU HU HU (fun b24 => ?_))
    refine Ga (GZ (i := 0) (enc := eTm) (lst := mthQ t q) [(t.words[q], t.kids[q])] HU HU HU HU (.val (.val .nil)) HU HU (fun _ => rfl) HW HW (fun a25 k25 c25 => ?_))
    rw [← mthQ_yes hql hqk c15]
    refine qs 8 ?_
    exact Gl (q + 1, a25, k25, c25) (by simp only; omega) (by simp only; omega) srA subF
   refine qs 10 ?_
   refine Gl (q + 1, a3, k3, c3) (by simp only; omega) (by simp only; omega) srA ?_
   rw [mthQ_no hql hqk c15]
   exact subF
  refine qs 16 ?_
  obtain rfl : q = t.words.length := by omega
  rw [mthQ_all hlen]
  exact Gb (L' := Res.own (.slice a3 k3 c3) 142 2 ((mthL t).map eTm) :: L) (F' := F) Tryz.results139 rfl (Sub.swap2.trans (Sub.drop.trans subF)) (h _ _ _)
theorem tm1_c (x m : Tm) {b j : Nat} {e : TypeId} (hj : L[j]? = some (Res.cells b #[S m.1, .int .i64 m.2] e)) (hT : x.1 = m.1 → R (.bool true) L F) (hF : x.1 ≠ m.1 → R (.bool false) L F) : ACalls Tryz.prog W0 141 #[vTm x, .pointer (some ⟨b, 0, none⟩)] L F R := by
  refine Ge Tryz.func141 HU Tryz.ntmps141 HU ?_
  refine qs 2 ?_
  refine Ga (GJ HU HU (fun b2 => ?_))
  refine qs 8 ?_
  refine Ga (Gw (cs := [S m.1, .int .i64 m.2]) HU HU ?_ (i := j + 1) (hi := hj) (hv := HU))
  refine Ga (Hu HU HU HU (fun c8 => ?_) (fun c8 => ?_))
  ·refine qs 4 ?_
   first | exact Gb (L' := L) (F' := F) Tryz.results141 rfl Gn (hT c8) | exact Gb (L' := L) (F' := F) Tryz.results141 rfl Gn (hF c8)
  refine qs 4 ?_
  first | exact Gb (L' := L) (F' := F) Tryz.results141 rfl Gn (hT c8) | exact Gb (L' := L) (F' := F) Tryz.results141 rfl Gn (hF c8)
theorem idxMt_c (a : List Tm) (hl : a.length ≤ 1000) (m : Tm) {b i j : Nat} {e : TypeId} {a0 : Option Addr} {k0 c0 : Nat} (hi : L[i]? = some (Res.own (.slice a0 k0 c0) 142 2 (a.map eTm))) (hj : L[j]? = some (Res.cells b #[S m.1, .int .i64 m.2] e))
    (hF : a.findIdx? (·.1 == m.1) = none → R (.int .i64 (-1)) L F) (hT : ∀ k : Nat, a.findIdx? (·.1 == m.1) = some k → R (.int .i64 (k : Int)) L F) : ACalls Tryz.prog W0 140 #[.slice a0 k0 c0, .func (.func 141) #[] #[.pointer (some ⟨b, 0, none⟩)]] L F R := by
  refine Ge Tryz.func140 HU Tryz.ntmps140 HU ?_
  refine qs 9 ?_
  refine Ga (AO.lenO (i := i) HU HU hi (fun hk7 => ?_))
  rw [List.length_map]
  refine qs 4 ?_
  refine AC.loopC (fun (q : Nat) => q ≤ a.length ∧ ∀ j (hj : j < a.length), j < q → a[j].1 ≠ m.1) (fun q => [(0, .slice a0 k0 c0), (1, .func (.func 141) #[] #[.pointer (some ⟨b, 0, none⟩)]), (7, .int .i64 a.length), (8, .int .i64 (q : Int))]) (fun q => a.length - q) 0 ⟨by omega, by omega⟩ srA ?_
  rintro q ⟨hq, hok⟩
  refine qs 2 ?_
  refine Ga (GB HU HU HU (fun c9 => ?_) (fun c9 => ?_))
  ·refine qs 19 ?_
   have hql : q < a.length := by omega
   refine Ga (Hc (i := i) (q := q) HU HU HU HU hi (by rw [List.length_map]; exact hql) (fun bo ho => ?_))
   subst ho
   refine Ga (AO.loadOA (i := i) (q := q) (vs := [S a[q].1, .int .i64 a[q].2]) HU HU HU hi (eTm_get hql) HU ?_)
   refine Ga (AO.callC (cs := [.pointer (some ⟨b, 0, none⟩)]) HU HU HU (tm1_c a[q] m hj (fun c16 => ?_) (fun c16 => ?_)))
   ·refine qs 15 ?_
    first | exact Gb (L' := L) (F' := F) Tryz.results140 rfl subF (hT q (nidx_first hql c16 hok)) | exact Gb (L' := L) (F' := F) Tryz.results140 rfl subF (hF (nidx_no (fun j hj => hok j hj HW)))
   refine qs 10 ?_
   refine Gl (q + 1) ⟨by omega, fun j hj hjq => ?_⟩ HW srA subF
   rcases Nat.lt_succ_iff_lt_or_eq.1 hjq with k9 | rfl
   · exact hok j hj k9
   exact c16
  refine qs 15 ?_
  first | exact Gb (L' := L) (F' := F) Tryz.results140 rfl subF (hT q (nidx_first hql c16 hok)) | exact Gb (L' := L) (F' := F) Tryz.results140 rfl subF (hF (nidx_no (fun j hj => hok j hj HW)))
theorem sortM_c (a : List Tm) (hl : a.length ≤ 1000) {i : Nat} {v : Value} {e : TypeId} (hi : L[i]? = some (Res.own v e 2 (a.map eTm)))
    (h : ∀ b : List Tm, b.Perm a → b.Pairwise (fun x y => ¬ y.1 < x.1) → R (.tuple #[]) (L.set i (Res.own v e 2 (b.map eTm))) F) : ACalls Tryz.prog W0 142 #[v, .func (.func 143) #[] #[]] L F R := by
  have eg : ∀ args w, (callFunc 143 args).run Tryz.prog w = .ok (.enter 143 args) w := enters_of Tryz.func143 HV rfl
  have hr : ∀ b : List Tm, b.map (fun x => (encM x).map D.val) = b.map eTm := fun b => rfl
  refine ACalls.sortK (k := 2) encM (by decide) (fun _ => rfl) (ltOf cfM) (fun blk cap d w hH hblk hsz => ?_) (fun w => ?_) a HW (by rw [hr]; exact hi) (fun l2 hp hs => ?_)
  · exact AnyQ.slices_SortFunc Tryz.sortMeth 2 Tryz.isAgg142 Tryz.sizeOf142 encM (fun _ => rfl) (fun x v hv => by unfold encM at hv; simp at hv; rcases hv with rfl | rfl <;> rfl) cfM swoM 143 #[] blk 0 cap d w eg (fun m os dk _ x y => by have := closeM x y (sortWorldK encM 2 w blk 0 m dk os); simpa using this) hH hblk hsz
  · exact AnyF.slices_SortFunc_none Tryz.sortMeth none 0 _ w
  rw [hr]
  exact h _ hp (hs.imp fun {x y} hxy => by rw [ltM] at hxy; exact of_decide_eq_false hxy)
theorem tboth_c {n1 n2 : Nat} (a b : Ty) (fa : FaceP n1 a) (fb : FaceP n2 b) (la : a.words.length ≤ 20) (lb : b.words.length ≤ 20) {a1 a2 a3 a4 : Option Addr} {k1 c1 k2 c2 k3 c3 k4 c4 : Nat} (m1 : fW a a1 k1 c1 ∈ F) (m2 : fK a a2 k2 c2 ∈ F) (m3 : fW b a3 k3 c3 ∈ F) (m4 : fK b a4 k4 c4 ∈ F)
    (hY : ∀ ms ad k c, ¬ clashP a b → sortP a b ms → R (.tuple #[.slice ad k c, .bool true]) L (fTm ms ad k c :: F)) (hN : clashP a b → R (.tuple #[.slice none 0 0, .bool false]) L F) :
    ACalls Tryz.prog W0 89 #[vTy a a1 k1 c1 a2 k2 c2, vTy b a3 k3 c3 a4 k4 c4] L F R := by
  have hml : 1000000 ≤ maxLen := by decide
  have hla := mthL_len fa.len
  have hlb := mthL_len fb.len
  refine Ge Tryz.func89 HU Tryz.ntmps89 HU ?_
  refine qs 2 ?_
  refine Ga (GJ HU HU (fun b2 => (Ga (GJ HU HU (fun b3 => ?_)))))
  refine qs 7 ?_
  refine Ga (Gd HU HU (tmethods_c a la fa.len (show fW a a1 k1 c1 ∈ _ from memA) (show fK a a2 k2 c2 ∈ _ from memA) (fun a11 k11 c11 => ?_)))
  refine qs 7 ?_
  refine Ga (Gd HU HU (tmethods_c b lb fb.len (show fW b a3 k3 c3 ∈ _ from memA) (show fK b a4 k4 c4 ∈ _ from memA) (fun a13 k13 c13 => ?_)))
  refine Gz ((GH (i := 0) HU).trans Gn) ?_
  refine Ga (Gv HU HU (fun hl14 => ?_) (enc := eTm) (lst := mthL b) (hm := memA))
  refine qs 4 ?_
  refine GN (fun (x : Nat × Option Addr × Nat × Nat) => x.1 ≤ (mthL b).length ∧ ∀ y ∈ (mthL b).take x.1, ∀ z ∈ mthL a, z.1 = y.1 → z.2 = y.2) (fun x => [(6, .slice x.2.1 x.2.2.1 x.2.2.2), (13, .slice a13 k13 c13), (14, .int .i64 (mthL b).length), (15, .int .i64 (x.1 : Int))]) (fun x => Res.own (.slice x.2.1 x.2.2.1 x.2.2.2) 142 2 ((mthL a ++ nwQ a b x.1).map eTm) :: _) (fun _ => _) (fun x => (mthL b).length - x.1) (0, a11, k11, c11) ⟨Nat.zero_le _, by simp⟩ srA (Sub.eqIn (A := []) (by simp [nwQ])) ?_
  rintro ⟨q, a6, k6, c6⟩ ⟨hq, hok⟩
  simp only at hq hok ⊢
  refine qs 2 ?_
  refine Ga (GB HU HU HU (fun c16 => ?_) (fun c16 => ?_))
  ·refine qs 10 ?_
   have hql : q < (mthL b).length := by omega
   have hnl := nw_len a b q
   refine Ga (Gj HU HU HU HU (enc := eTm) (lst := mthL b) memA hql (fun _ _ => ?_))
   refine Ga (GU HU HU ?_)
   refine Ga (Gq HU (fun b8 => ?_))
   refine qs 6 ?_
   refine Ga (Hq HU HU ?_)
   refine Ga (Gd HU HU (idxMt_c (mthL a ++ nwQ a b q) (by rw [List.length_append]; omega) (mthL b)[q] (i := 1) (j := 0) HU HU (fun hix => ?_) (fun k hix => ?_)))
   ·refine qs 7 ?_
    refine Ga (GB HU HU HU (fun _ => ?_) (fun c24 => absurd c24 (by decide)))
    refine qs 7 ?_
    refine Ga (Gi HU HU HU HU HU (fun b27 => ?_))
    refine Ga (GZ (i := 1) (enc := eTm) (lst := mthL a ++ nwQ a b q) [(mthL b)[q]] HU HU HU HU (.val (.val .nil)) HU HU (fun _ => rfl) (by rw [List.length_append]; omega) (by rw [List.length_append]; omega) (fun a28 k28 c28 => ?_))
    rw [List.append_assoc, ← new_yes hql (nidx_out hix)]
    refine qs 9 ?_
    exact Gl (q + 1, a28, k28, c28) ⟨by simp only; omega, fun y hy z hz e => by
     rw [List.take_succ_eq_append_getElem hql] at hy
     rcases List.mem_append.1 hy with hy | hy
     · exact hok y hy z hz e
     rw [List.mem_singleton.1 hy] at e; exact absurd (List.mem_map.2 ⟨z, hz, e⟩) (nidx_out hix)⟩ (by simp only; omega) srA (Sub.drop.trans subF)
   refine qs 7 ?_
   refine Ga (GB HU HU HU (fun c24 => absurd c24 HW) (fun _ => ?_))
   refine qs 5 ?_
   refine GO (fun _ => false) [(b8, _, _)] bxA HU (fun hx hX => ?_)
   obtain ⟨hkl, hk1, hkm⟩ := nidx_in fb hql hix
   have hkm2 : ((mthL a ++ nwQ a b q)[k].1, (mthL a ++ nwQ a b q)[k].2) ∈ mthL a := hkm
   refine qt [0, 1, 5, 6] ?_
   refine Gf (i := 2) HV HU HU (fun _ => ?_)
   refine Hc (i := 1) (q := k) HU HU HU HU HU (by rw [List.length_map]; exact hkl) (fun bo ho => ?_)
   subst ho
   refine Gc bxA memB ?_
   refine qt [3] ?_
   refine Gf (i := 4) HV HU HU (fun _ => ?_)
   refine AO.loadOR (i := 1) (q := k) (j := 1) (v := .int .i64 (mthL a ++ nwQ a b q)[k].2) (vs := [S (mthL a ++ nwQ a b q)[k].1, .int .i64 (mthL a ++ nwQ a b q)[k].2]) HU HU HU HU (eTm_get hkl) HU ?_
   refine Gc bxA memB ?_
   refine He (i := 7) HU (Y.neq HU HU) HV HU HU (fun c37 => ?_) (fun c37 => ?_)
   ·replace c37 := ne_of_bne c37
    refine qt [8] ?_
    refine Gm HV ?_
    refine qs 15 ?_
    exact Hg (L' := L) (F' := F) Tryz.results89 rfl rfl subA (hN ⟨_, hkm, _, List.getElem_mem hql, hk1, c37⟩)
   replace c37 := eq_of_bneF c37
   refine qt [8] ?_
   refine Gm HV ?_
   refine qs 10 ?_
   have hmem : (mthL b)[q].1 ∈ (mthL a).map (·.1) := List.mem_map.2 ⟨_, hkm, hk1⟩
   refine Gl (q + 1, some ⟨bo, 0, none⟩, k6, c6) ⟨by simp only; omega, fun y hy z hz e => ?_⟩ (by simp only; omega) srA (Sub.drop.trans ?_)
   · rw [List.take_succ_eq_append_getElem hql] at hy
     rcases List.mem_append.1 hy with hy | hy
     · exact hok y hy z hz e
     rw [List.mem_singleton.1 hy] at e ⊢
     rw [← c37]
     exact fa.sig (w := z.1) hz (by rw [e, ← hk1]; exact hkm2)
   simp only
   rw [show nwQ a b (q + 1) = nwQ a b q from new_no hql hmem]
   exact subF
  refine qs 12 ?_
  obtain rfl : q = (mthL b).length := by omega
  have hnew : nwQ a b (mthL b).length = newL a b := by unfold nwQ newL; rw [List.take_length]
  have hnl := nw_len a b (mthL b).length
  rw [hnew] at hnl ⊢
  rw [List.take_length] at hok
  refine Ga (Gd HU HU (sortM_c (mthL a ++ newL a b) (by rw [List.length_append]; omega) (i := 0) HU (fun ms hp hs => ?_)))
  refine Gz ((GH (i := 0) HU).trans Gn) ?_
  refine qs 10 ?_
  exact Hg (L' := L) (F' := fTm ms a6 k6 c6 :: F) Tryz.results89 rfl rfl (by repeat (first | exact Gg (mem1 memA (fun x hx => by repeat (first | exact hx | refine List.mem_cons_of_mem _ ?_))) | refine GR Gn ?_)) (hY ms _ _ _ (fun ⟨x, hx, y, hy, e1, e2⟩ => e2 (hok y hy x hx e1)) ⟨hp, hs⟩)
end
end Go.Sy
namespace Go.Sy
open Go Go.Proofs Go.RowKit
noncomputable def addX (N : List Nmd) (of : List Tm) (l : List Tm) (r : Except Int (List Ty × List Tm)) : Except Int (List Ty × List Tm) := match r with
  | .error e => .error e
  | .ok s => addG N of l s
theorem addG_snoc (N : List Nmd) (of : List Tm) : ∀ (l : List Tm) (s : List Ty × List Tm) (x : Tm), addG N of (l ++ [x]) s = match addG N of l s with
    | .error e => .error e
    | .ok s => match wiG N s.1 x of with
      | .error e => .error e
      | .ok (T1, b) => .ok (T1, if b = true then s.2 ++ [x] else s.2)
  | [], s, x => by
    simp only [List.nil_append, addG]
    all_goals cases wiG N s.1 x of with
    | error e => rfl
    | ok y => obtain ⟨T1, b⟩ := y; rfl
  | y :: l, s, x => by
    simp only [List.cons_append, addG]
    cases wiG N s.1 y of with
    | error e => rfl
    | ok z => obtain ⟨T1, b⟩ := z; exact addG_snoc N of l _ x
theorem addX_step {N : List Nmd} {of l : List Tm} {r : Except Int (List Ty × List Tm)} {q : Nat} (hq : q < l.length) : addX N of (l.take (q + 1)) r = match addX N of (l.take q) r with
    | .error e => .error e
    | .ok s => match wiG N s.1 l[q] of with
      | .error e => .error e
      | .ok (T1, b) => .ok (T1, if b = true then s.2 ++ [l[q]] else s.2) := by
  rw [List.take_succ_eq_append_getElem hq]
  cases r with
  | error e => rfl
  | ok s => exact addG_snoc N of (l.take q) s l[q]
structure AddI (T : List Ty) (N : List Nmd) (r : Except Int (List Ty × List Tm)) (e : Int) (s : List Ty × List Tm) (os : List Tm) : Prop where
  is : (e = 0 ∧ r = .ok s ∧ os = termsA s.2 ∧ upU T s.1 N) ∨ (e ≠ 0 ∧ r = .error e)
  low : ∀ z ∈ os, 0 ≤ z.2 ∧ z.2 < T.length
theorem AddI.bad {T : List Ty} {N : List Nmd} {of l : List Tm} {r : Except Int (List Ty × List Tm)} {e : Int} {s : List Ty × List Tm} {os : List Tm} {q : Nat} (hq : q < l.length) (h : AddI T N (addX N of (l.take q) r) e s os) (he : e ≠ 0) : AddI T N (addX N of (l.take (q + 1)) r) e s os := by
  refine ⟨.inr ⟨he, ?_⟩, h.low⟩
  rcases h.is with ⟨h0, _⟩ | ⟨_, h1⟩
  · exact absurd h0 he
  rw [addX_step hq, h1]
theorem AddI.err {T : List Ty} {N : List Nmd} {of l : List Tm} {r : Except Int (List Ty × List Tm)} {e : Int} {s : List Ty × List Tm} {os : List Tm} {q : Nat} (hq : q < l.length) (h : AddI T N (addX N of (l.take q) r) 0 s os) (he : e ≠ 0) (hw : wiG N s.1 l[q] of = .error e) : AddI T N (addX N of (l.take (q + 1)) r) e s os := by
  refine ⟨.inr ⟨he, ?_⟩, h.low⟩
  rcases h.is with ⟨_, h1, _⟩ | ⟨h0, _⟩
  · rw [addX_step hq, h1]; simp only; rw [hw]
  exact absurd rfl h0
theorem AddI.no {T T1 : List Ty} {N : List Nmd} {of l : List Tm} {r : Except Int (List Ty × List Tm)} {s : List Ty × List Tm} {os : List Tm} {q : Nat} (hq : q < l.length) (hl : ∀ z ∈ l, 0 ≤ z.2 ∧ z.2 < T.length) (h : AddI T N (addX N of (l.take q) r) 0 s os) (hw : wiG N s.1 l[q] of = .ok (T1, false)) : AddI T N (addX N of (l.take (q + 1)) r) 0 (T1, s.2) os := by
  refine ⟨.inl ?_, h.low⟩
  rcases h.is with ⟨_, h1, h2, h3⟩ | ⟨h0, _⟩
  · refine ⟨rfl, by rw [addX_step hq, h1]; simp only; rw [hw]; rfl, h2, wiG_up h3 (hl _ (List.getElem_mem hq)) hw⟩
  exact absurd rfl h0
theorem AddI.yes {T T1 : List Ty} {N : List Nmd} {of l : List Tm} {r : Except Int (List Ty × List Tm)} {s : List Ty × List Tm} {os : List Tm} {q : Nat} (hq : q < l.length) (hl : ∀ z ∈ l, 0 ≤ z.2 ∧ z.2 < T.length) (hm : ∀ z ∈ l, markP z.1) (h : AddI T N (addX N of (l.take q) r) 0 s os) (hw : wiG N s.1 l[q] of = .ok (T1, true)) {os2 : List Tm} (h2 : os2 = addTm os l[q]) (hlow : ∀ z ∈ os2, 0 ≤ z.2 ∧ z.2 < T.length) : AddI T N (addX N of (l.take (q + 1)) r) 0 (T1, s.2 ++ [l[q]]) os2 := by
  refine ⟨.inl ?_, hlow⟩
  rcases h.is with ⟨_, h1, h3, h4⟩ | ⟨h0, _⟩
  · refine ⟨rfl, by rw [addX_step hq, h1]; simp only; rw [hw]; rfl, ?_, wiG_up h4 (hl _ (List.getElem_mem hq)) hw⟩
    rw [termsA_snoc, if_pos (hm _ (List.getElem_mem hq)), h2, h3]
  exact absurd rfl h0
theorem addY_none {a : List Tm} {z : Tm} (h : a.findIdx? (·.2 == z.2) = none) : addTm a z = a ++ [z] := by unfold addTm; rw [h]
theorem addY_set {a : List Tm} {z : Tm} {k : Nat} (h : a.findIdx? (·.2 == z.2) = some k) (hz : z.1 = [126]) : addTm a z = a.set k z := by unfold addTm; rw [h]; simp only; rw [if_pos hz]
theorem addY_same {a : List Tm} {z : Tm} {k : Nat} (h : a.findIdx? (·.2 == z.2) = some k) (hz : z.1 ≠ [126]) : addTm a z = a := by unfold addTm; rw [h]; simp only; rw [if_neg hz]
open Go.Sort in
theorem closeT (x y : Fm) (W : World) : Calls Tryz.prog 148 #[.agg (encF x).toArray, .agg (encF y).toArray] W fun e w' => e = .returned (.int .i64 (cfF x y)) ∧ ∃ q os', w' = Go.Sort.grow (W.drewN q) os' := by
  unfold encF cfF
  have hx := x.2.isLt
  have hy := y.2.isLt
  generalize x.2.val = i at *
  generalize y.2.val = j at *
  have hw : IntKind.i64.wrap ((i : Int) - (j : Int)) = (i : Int) - (j : Int) := wrap_i64 HW HW
  go_enter Tryz.func148, Tryz.ntmps148
  go_wp2
  go_ret
  exact ⟨rfl, 0, _, by rw [alloc_eq_grow, alloc_eq_grow, grow_grow]; rfl⟩
attribute [local irreducible] AC AT AO AK AH ACalls Sub Res.cells Res.obj Res.nix Res.own Res.map Exit.then Exit.inBlock bodyPost Code.wp Code.wpIn WL Next Post Kont
section
variable {W0 : World} {L : List Res} {F : List Fact} {R : Value → List Res → List Fact → Prop}
set_option maxRecDepth 100000
set_option maxHeartbeats 16000000
theorem sortT_c (a : List Tm) (ha : ∀ x ∈ a, 0 ≤ x.2 ∧ x.2 < 1048576) (hl : a.length ≤ 1000) {i : Nat} {v : Value} {e : TypeId} (hi : L[i]? = some (Res.own v e 2 (a.map eTm)))
    (h : ∀ b : List Tm, b.Perm a → b.Pairwise (fun x y => x.2 ≤ y.2) → R (.tuple #[]) (L.set i (Res.own v e 2 (b.map eTm))) F) : ACalls Tryz.prog W0 147 #[v, .func (.func 148) #[] #[]] L F R := by
  have eg : ∀ args w, (callFunc 148 args).run Tryz.prog w = .ok (.enter 148 args) w := enters_of Tryz.func148 HV rfl
  refine ACalls.sortK (k := 2) encF (by decide) (fun _ => rfl) (ltOf cfF) (fun blk cap d w hH hblk hsz => ?_) (fun w => ?_) (a.map toF) (by rw [List.length_map]; omega) (by rw [rowsF ha]; exact hi) (fun l2 hp hs => ?_)
  · exact AnyQ.slices_SortFunc Tryz.sortTset 2 Tryz.isAgg144 Tryz.sizeOf144 encF (fun _ => rfl) (fun x v hv => by unfold encF at hv; simp at hv; rcases hv with rfl | rfl <;> rfl) cfF swoF 148 #[] blk 0 cap d w eg (fun m os dk _ x y => by have := closeT x y (sortWorldK encF 2 w blk 0 m dk os); simpa using this) hH hblk hsz
  · exact AnyF.slices_SortFunc_none Tryz.sortTset none 0 _ w
  obtain ⟨h1, h2⟩ := sortedF ha hp hs
  have e1 : l2.map (fun x => (encF x).map D.val) = (l2.map ofF).map eTm := by rw [List.map_map]; rfl
  rw [e1]
  exact h _ h1 h2
theorem ty1_c (x m : Tm) {b j : Nat} {e : TypeId} (hj : L[j]? = some (Res.cells b #[S m.1, .int .i64 m.2] e)) (hT : x.2 = m.2 → R (.bool true) L F) (hF : x.2 ≠ m.2 → R (.bool false) L F) : ACalls Tryz.prog W0 146 #[vTm x, .pointer (some ⟨b, 0, none⟩)] L F R := by
  refine Ge Tryz.func146 HU Tryz.ntmps146 HU ?_
  refine qs 2 ?_
  refine Ga (GJ HU HU (fun b2 => ?_))
  refine qs 8 ?_
  refine Ga (Gw (cs := [S m.1, .int .i64 m.2]) HU HU ?_ (i := j + 1) (hi := hj) (hv := HU))
  refine Ga (GC HU HU HU (fun c8 => ?_) (fun c8 => ?_))
  ·refine qs 4 ?_
   first | exact Gb (L' := L) (F' := F) Tryz.results146 rfl Gn (hT c8) | exact Gb (L' := L) (F' := F) Tryz.results146 rfl Gn (hF c8)
  refine qs 4 ?_
  first | exact Gb (L' := L) (F' := F) Tryz.results146 rfl Gn (hT c8) | exact Gb (L' := L) (F' := F) Tryz.results146 rfl Gn (hF c8)
theorem idxTt_c (a : List Tm) (hl : a.length ≤ 1000) (m : Tm) {b i j : Nat} {e : TypeId} {a0 : Option Addr} {k0 c0 : Nat} (hi : L[i]? = some (Res.own (.slice a0 k0 c0) 144 2 (a.map eTm))) (hj : L[j]? = some (Res.cells b #[S m.1, .int .i64 m.2] e))
    (hF : a.findIdx? (·.2 == m.2) = none → R (.int .i64 (-1)) L F) (hT : ∀ k : Nat, a.findIdx? (·.2 == m.2) = some k → R (.int .i64 (k : Int)) L F) : ACalls Tryz.prog W0 145 #[.slice a0 k0 c0, .func (.func 146) #[] #[.pointer (some ⟨b, 0, none⟩)]] L F R := by
  refine Ge Tryz.func145 HU Tryz.ntmps145 HU ?_
  refine qs 9 ?_
  refine Ga (AO.lenO (i := i) HU HU hi (fun hk7 => ?_))
  rw [List.length_map]
  refine qs 4 ?_
  refine AC.loopC (fun (q : Nat) => q ≤ a.length ∧ ∀ j (hj : j < a.length), j < q → a[j].2 ≠ m.2) (fun q => [(0, .slice a0 k0 c0), (1, .func (.func 146) #[] #[.pointer (some ⟨b, 0, none⟩)]), (7, .int .i64 a.length), (8, .int .i64 (q : Int))]) (fun q => a.length - q) 0 ⟨by omega, by omega⟩ srA ?_
  rintro q ⟨hq, hok⟩
  refine qs 2 ?_
  refine Ga (GB HU HU HU (fun c9 => ?_) (fun c9 => ?_))
  ·refine qs 19 ?_
   have hql : q < a.length := by omega
   refine Ga (Hc (i := i) (q := q) HU HU HU HU hi (by rw [List.length_map]; exact hql) (fun bo ho => ?_))
   subst ho
   refine Ga (AO.loadOA (i := i) (q := q) (vs := [S a[q].1, .int .i64 a[q].2]) HU HU HU hi (eTm_get hql) HU ?_)
   refine Ga (AO.callC (cs := [.pointer (some ⟨b, 0, none⟩)]) HU HU HU (ty1_c a[q] m hj (fun c16 => ?_) (fun c16 => ?_)))
   ·refine qs 15 ?_
    first | exact Gb (L' := L) (F' := F) Tryz.results145 rfl subF (hT q (idx_first hql c16 hok)) | exact Gb (L' := L) (F' := F) Tryz.results145 rfl subF (hF (idx_no (fun j hj => hok j hj HW)))
   refine qs 10 ?_
   refine Gl (q + 1) ⟨by omega, fun j hj hjq => ?_⟩ HW srA subF
   rcases Nat.lt_succ_iff_lt_or_eq.1 hjq with k9 | rfl
   · exact hok j hj k9
   exact c16
  refine qs 15 ?_
  first | exact Gb (L' := L) (F' := F) Tryz.results145 rfl subF (hT q (idx_first hql c16 hok)) | exact Gb (L' := L) (F' := F) Tryz.results145 rfl subF (hF (idx_no (fun j hj => hok j hj HW)))
theorem twiG_c (g : Glob W0) (T : List Ty) (N : List Nmd) (hno : ∀ n ∈ N, NmOk n) (hu : rightU T N) (x : Tm) (h0 : 0 ≤ x.2) (hi : x.2 < T.length) (l : List Tm) (hl : l.length ≤ 1000000) (Lf : List Value → List Res) {a a2 a3 a4 : Option Addr} {k c k2 c2 k3 c3 k4 c4 bm ba ia : Nat} (HA : ∀ w, (Lf w)[ia]? = some (Res.cells ba w.toArray 140)) (SA : ∀ w w', (Lf w).set ia (Res.cells ba w'.toArray 140) = Lf w') (mL : fL T a k c ∈ F) (mN : fN N a2 k2 c2 ∈ F) (mE : Fact.slc (.slice none 0 0) 5 [] ∈ F) (mT : fTm l a4 k4 c4 ∈ F)
    (hT : ∀ o a k c, wiG N T x l = .ok (o, true) → R (.bool true) (Lf (aCells a k c a2 k2 c2 a3 k3 c3 bm 0)) (fL o a k c :: F))
    (hN : ∀ e o a k c, (e ≠ 0 ∧ o = T ∧ wiG N T x l = .error e) ∨ (e = 0 ∧ wiG N T x l = .ok (o, false)) → R (.bool false) (Lf (aCells a k c a2 k2 c2 a3 k3 c3 bm e)) (fL o a k c :: F)) :
    ACalls Tryz.prog W0 136 #[.pointer (some ⟨ba, 0, none⟩), vTm x, .slice a4 k4 c4] (Lf (aCells a k c a2 k2 c2 a3 k3 c3 bm 0)) F R := by
  refine Ge Tryz.func136 HU Tryz.ntmps136 HU ?_
  refine qs 2 ?_
  refine Ga (GJ HU HU (fun b4 => ?_))
  refine qs 8 ?_
  refine Ga (Gd HU HU (tcontains_c l x hl memA (fun c10 => ?_) (fun c10 => ?_)))
  ·refine qs 10 ?_
   exact Gb (L' := Lf (aCells a k c a2 k2 c2 a3 k3 c3 bm 0)) (F' := fL T a k c :: F) Tryz.results136 rfl (Sub.drop.trans (Gg (mem1 memA (fun x hx => by repeat (first | exact hx | refine List.mem_cons_of_mem _ ?_))))) (hT T a k c (by unfold wiG; rw [if_pos c10]))
  refine qs 10 ?_
  refine Ga (Hu HU HU HU (fun c13 => ?_) (fun c13 => ?_))
  ·refine qs 10 ?_
   exact Gb (L' := Lf (aCells a k c a2 k2 c2 a3 k3 c3 bm 0)) (F' := fL T a k c :: F) Tryz.results136 rfl (Sub.drop.trans (Gg (mem1 memA (fun x hx => by repeat (first | exact hx | refine List.mem_cons_of_mem _ ?_))))) (hN 0 T a k c (.inr ⟨rfl, by unfold wiG; rw [if_neg c10, if_pos c13]⟩))
  refine qs 10 ?_
  refine Ga (Gd HU HU (tunder2_c g T N hno hu x.2 h0 hi (fun w => _ :: Lf w) (ia := ia + 1) HA (fun w w' => congrArg (_ :: ·) (SA w w')) (show fL T a k c ∈ _ from memA) (show fN N a2 k2 c2 ∈ _ from memA) memA (fun e he hud => ?_) (fun o q a17 k17 c17 hud => ?_)))
  ·refine qs 6 ?_
   refine Ga (Gu HU HU ?_)
   refine qs 1 ?_
   refine Ga (Gw (cs := aCells a k c a2 k2 c2 a3 k3 c3 bm e) HU HU ?_ (i := ia + 1) (hi := HA _) (hv := HU))
   refine Ga (GC HU HU HU (fun c22 => absurd c22 he) (fun _ => ?_))
   refine qs 10 ?_
   exact Gb (L' := Lf (aCells a k c a2 k2 c2 a3 k3 c3 bm e)) (F' := fL T a k c :: F) Tryz.results136 rfl (Sub.drop.trans (Gg (mem1 memA (fun x hx => by repeat (first | exact hx | refine List.mem_cons_of_mem _ ?_))))) (hN e T a k c (.inl ⟨he, rfl, by unfold wiG; rw [if_neg c10, if_neg c13, hud]⟩))
  refine qs 6 ?_
  refine Ga (Gu HU HU ?_)
  refine qs 1 ?_
  refine Ga (Gw (cs := aCells a17 k17 c17 a2 k2 c2 a3 k3 c3 bm 0) HU HU ?_ (i := ia + 1) (hi := HA _) (hv := HU))
  refine Ga (GC HU HU HU (fun _ => ?_) (fun c22 => absurd HU c22))
  refine qs 4 ?_
  refine Gh HU HU (Gd HU HU (tcontains_c l ([126], q) hl memA (fun c27 => ?_) (fun c27 => ?_)))
  ·refine qs 5 ?_
   exact Gb (L' := Lf (aCells a17 k17 c17 a2 k2 c2 a3 k3 c3 bm 0)) (F' := fL o a17 k17 c17 :: F) Tryz.results136 rfl subA (hT o a17 k17 c17 (by unfold wiG; rw [if_neg c10, if_neg c13, hud]; simp only; rw [decide_eq_true c27]))
  refine qs 5 ?_
  exact Gb (L' := Lf (aCells a17 k17 c17 a2 k2 c2 a3 k3 c3 bm 0)) (F' := fL o a17 k17 c17 :: F) Tryz.results136 rfl subA (hN 0 o a17 k17 c17 (.inr ⟨rfl, by unfold wiG; rw [if_neg c10, if_neg c13, hud]; simp only; rw [decide_eq_false c27]⟩))
end
end Go.Sy
namespace Go.Sy
open Go Go.Proofs Go.RowKit
attribute [local irreducible] AC AT AO AK AH ACalls Sub Res.cells Res.obj Res.nix Res.own Res.map Exit.then Exit.inBlock bodyPost Code.wp Code.wpIn WL Next Post Kont
section
variable {W0 : World} {L : List Res} {F : List Fact} {R : Value → List Res → List Fact → Prop}
set_option maxRecDepth 100000
set_option maxHeartbeats 16000000
theorem tadd_c (g : Glob W0) (T : List Ty) (N : List Nmd) (hno : ∀ n ∈ N, NmOk n) (l of : List Tm) (hl : l.length ≤ 20) (hol : of.length ≤ 20) (hlow : ∀ z ∈ l, 0 ≤ z.2 ∧ z.2 < T.length) (hmk : ∀ z ∈ l, markP z.1)
    (Lf : List Value → Option Addr × Nat × Nat → List Tm → List Res) {a2 a3 a4 a5 : Option Addr} {k2 c2 k3 c3 k4 c4 k5 c5 bm ba ia ib ir i3 b3 b7 : Nat} (hne : ib ≠ ir)
    (HA : ∀ w p o, (Lf w p o)[ia]? = some (Res.cells ba w.toArray 140)) (SA : ∀ w p o w', (Lf w p o).set ia (Res.cells ba w'.toArray 140) = Lf w' p o)
    (HB : ∀ w p o, (Lf w p o)[ib]? = some (Res.cells b7 #[.slice p.1 p.2.1 p.2.2] 118)) (HR : ∀ w p o, (Lf w p o)[ir]? = some (Res.own (.slice p.1 p.2.1 p.2.2) 144 2 (o.map eTm)))
    (SR : ∀ w p o p' o', ((Lf w p o).set ir (Res.own (.slice p'.1 p'.2.1 p'.2.2) 144 2 (o'.map eTm))).set ib (Res.cells b7 #[.slice p'.1 p'.2.1 p'.2.2] 118) = Lf w p' o')
    (SO : ∀ w p o o', (Lf w p o).set ir (Res.own (.slice p.1 p.2.1 p.2.2) 144 2 (o'.map eTm)) = Lf w p o')
    (H3 : ∀ w p o, (Lf w p o)[i3]? = some (Res.cells b3 #[.pointer (some ⟨ba, 0, none⟩)] 111))
    (r0 : Except Int (List Ty × List Tm)) {e0 : Int} {s0 : List Ty × List Tm} {o0 : List Tm} (hI0 : AddI T N r0 e0 s0 o0) (ho0 : o0.length ≤ 100) {a : Option Addr} {k c : Nat} {p0 : Option Addr × Nat × Nat}
    (mL : fL s0.1 a k c ∈ F) (mN : fN N a2 k2 c2 ∈ F) (mE : Fact.slc (.slice none 0 0) 5 [] ∈ F) (ml : fTm l a4 k4 c4 ∈ F) (mo : fTm of a5 k5 c5 ∈ F)
    (h : ∀ e s o a k c p, AddI T N (addX N of l r0) e s o → o.length ≤ o0.length + l.length → R (.tuple #[]) (Lf (aCells a k c a2 k2 c2 a3 k3 c3 bm e) p o) (fL s.1 a k c :: F)) :
    ACalls Tryz.prog W0 144 #[.slice a4 k4 c4, .slice a5 k5 c5, .pointer (some ⟨b3, 0, none⟩), .pointer (some ⟨b7, 0, none⟩)] (Lf (aCells a k c a2 k2 c2 a3 k3 c3 bm e0) p0 o0) F R := by
  have hml : 1000000 ≤ maxLen := by decide
  refine Ge Tryz.func144 HU Tryz.ntmps144 HU ?_
  refine qs 3 ?_
  refine Ga (Gv HU HU (fun hl10 => ?_) (enc := eTm) (lst := l) (hm := (show fTm l a4 k4 c4 ∈ _ from memA)))
  refine qs 4 ?_
  refine GN (fun (y : Nat × (List Ty × List Tm) × List Tm × Int × (Option Addr × Nat × Nat) × Option Addr × Nat × Nat) => y.1 ≤ l.length ∧ AddI T N (addX N of (l.take y.1) r0) y.2.2.2.1 y.2.1 y.2.2.1 ∧ y.2.2.1.length ≤ o0.length + y.1) (fun y => [(1, .slice a5 k5 c5), (2, .pointer (some ⟨b3, 0, none⟩)), (3, .pointer (some ⟨b7, 0, none⟩)), (9, .slice a4 k4 c4), (10, .int .i64 l.length), (11, .int .i64 (y.1 : Int))]) (fun y => Lf (aCells y.2.2.2.2.2.1 y.2.2.2.2.2.2.1 y.2.2.2.2.2.2.2 a2 k2 c2 a3 k3 c3 bm y.2.2.2.1) y.2.2.2.2.1 y.2.2.1) (fun y => fL y.2.1.1 y.2.2.2.2.2.1 y.2.2.2.2.2.2.1 y.2.2.2.2.2.2.2 :: F) (fun y => l.length - y.1) (0, s0, o0, e0, p0, a, k, c) ⟨Nat.zero_le _, by cases r0 <;> exact hI0, by simp⟩ srA (Gg (mem1 memA (fun x hx => by repeat (first | exact hx | refine List.mem_cons_of_mem _ ?_)))) ?_
  rintro ⟨q, s, os, e, p, a6, k6, c6⟩ ⟨hq, hI, hos⟩
  simp only at hq hI hos ⊢
  refine qs 2 ?_
  refine Ga (GB HU HU HU (fun c12 => ?_) (fun c12 => ?_))
  ·refine qs 10 ?_
   have hql : q < l.length := by omega
   have hzq := hlow _ (List.getElem_mem hql)
   refine Ga (Gj HU HU HU HU (enc := eTm) (lst := l) (show fTm l a4 k4 c4 ∈ _ from memA) hql (fun _ _ => ?_))
   refine Ga (GU HU HU ?_)
   refine Ga (Gq HU (fun b7 => ?_))
   refine qs 6 ?_
   refine Ga (Gw HU HU ?_ (i := i3 + 1) (hi := H3 _ _ _) (hv := HU))
   refine Ga (Gu HU HU ?_)
   refine qs 1 ?_
   refine Ga (Gw (cs := aCells a6 k6 c6 a2 k2 c2 a3 k3 c3 bm e) HU HU ?_ (i := ia + 1) (hi := HA _ _ _) (hv := HU))
   refine Ga (GK HU HU HU (fun c19 => ?_) (fun c19 => ?_))
   ·refine qs 18 ?_
    exact Gl (q + 1, s, os, e, p, a6, k6, c6) ⟨by simp only; omega, hI.bad hql c19, by simp only; omega⟩ (by simp only; omega) srA (Sub.drop.trans subF)
   refine qs 1 ?_
   subst c19
   refine Gh HU HU (Gw HU HU ?_ (i := i3 + 1) (hi := H3 _ _ _) (hv := HU))
   refine qs 2 ?_
   have hup : upU T s.1 N := by
    rcases hI.is with ⟨_, _, _, h⟩ | ⟨h, _⟩
    · exact h
    exact absurd rfl h
   have hpl := hup.2.length_le
   refine Gh HU HU (Gd HU HU (twiG_c g s.1 N hno hup.1 l[q] hzq.1 HW of HW (fun w => _ :: Lf w p os) (ia := ia + 1) (fun w => HA _ _ _) (fun w w' => congrArg (_ :: ·) (SA w p os w')) (show fL s.1 a6 k6 c6 ∈ _ from memA) (show fN N a2 k2 c2 ∈ _ from memA) memA (show fTm of a5 k5 c5 ∈ _ from memA) (fun T1 a24 k24 c24 hw => ?_) (fun e T1 a24 k24 c24 hw => ?_)))
   ·refine qs 9 ?_
    refine Ga (Gw HU HU ?_ (i := ib + 1) (hi := HB _ _ _) (hv := HU))
    refine Ga (Hq HU HU ?_)
    refine Ga (Gd HU HU (idxTt_c os HW l[q] (i := ir + 1) (j := 0) (HR _ _ _) HU (fun hix => ?_) (fun kx hix => ?_)))
    ·refine qs 6 ?_
     refine Ga (GB HU HU HU (fun _ => ?_) (fun c31 => absurd c31 (by decide)))
     refine qs 4 ?_
     refine Ga (Gw HU HU ?_ (i := ib + 1) (hi := HB _ _ _) (hv := HU))
     refine qs 1 ?_
     refine Ga (Gi HU HU HU HU HU (fun b34 => ?_))
     refine Ga (GZ (i := ir + 1) (enc := eTm) (lst := os) [l[q]] HU HU HU (HR _ _ _) (.val (.val .nil)) HU HU (fun _ => rfl) HW HW (fun a35 k35 c35 => ?_))
     refine Ga (Gs HU HU HU ?_ (i := ib + 1) (hi := (List.getElem?_set_ne (fun h => hne (Nat.succ.inj h.symm))).trans (HB _ _ _)) (ho := HU))
     refine AL.weak (SubR.refl _) (Hn (show _ = _ :: Lf _ (a35, k35, c35) (os ++ [l[q]]) from congrArg (_ :: ·) (SR _ _ _ (a35, k35, c35) _))) ?_
     refine qs 7 ?_
     have hA := addY_none hix
     exact Gl (q + 1, (T1, s.2 ++ [l[q]]), os ++ [l[q]], 0, (a35, k35, c35), a24, k24, c24) ⟨by simp only; omega, hI.yes hql hlow hmk hw hA.symm (fun z hz => by
      rcases List.mem_append.1 hz with hz | hz
      · exact hI.low z hz
      rw [List.mem_singleton.1 hz]; exact hzq), by simp only [List.length_append, List.length_singleton]; omega⟩ (by simp only; omega) srA (Sub.drop.trans (Gg (mem1 memA (fun x hx => by repeat (first | exact hx | refine List.mem_cons_of_mem _ ?_)))))
    refine qs 6 ?_
    refine Ga (GB HU HU HU (fun c31 => absurd c31 HW) (fun _ => ?_))
    refine qs 7 ?_
    refine Ga (Hu HU HU HU (fun c38 => ?_) (fun c38 => ?_))
    ·refine qs 4 ?_
     refine Ga (Gw HU HU ?_ (i := ib + 1) (hi := HB _ _ _) (hv := HU))
     refine qs 1 ?_
     obtain ⟨hkl, hk2⟩ := idx_some hix
     obtain ⟨pa, pk, pc⟩ := p
     refine Ga (Hc (i := ir + 1) (q := kx) HU HU HU HU (HR _ _ _) (by rw [List.length_map]; exact hkl) (fun bo ho => ?_))
     simp only at ho
     subst ho
     refine qs 1 ?_
     refine Ga (AO.storeOR (v := S l[q].1) (i := ir + 1) (q := kx) (j := 0) HU (by rw [c38]; rfl) HU HU (HR _ _ _) (eTm_get hkl) (by simp) ?_)
     rw [eTm_set hkl hk2]
     refine AL.weak (SubR.refl _) (Hn (show _ = _ :: Lf _ (some ⟨bo, 0, none⟩, pk, pc) (os.set kx l[q]) from congrArg (_ :: ·) (SO _ _ _ _))) ?_
     refine qs 7 ?_
     exact Gl (q + 1, (T1, s.2 ++ [l[q]]), os.set kx l[q], 0, (some ⟨bo, 0, none⟩, pk, pc), a24, k24, c24) ⟨by simp only; omega, hI.yes hql hlow hmk hw (addY_set hix c38).symm (fun z hz => by
      rcases List.mem_or_eq_of_mem_set hz with hz | hz
      · exact hI.low z hz
      rw [hz]; exact hzq), by simp only [List.length_set]; omega⟩ (by simp only; omega) srA (Sub.drop.trans (Gg (mem1 memA (fun x hx => by repeat (first | exact hx | refine List.mem_cons_of_mem _ ?_)))))
    refine qs 10 ?_
    exact Gl (q + 1, (T1, s.2 ++ [l[q]]), os, 0, p, a24, k24, c24) ⟨by simp only; omega, hI.yes hql hlow hmk hw (addY_same hix c38).symm hI.low, by simp only; omega⟩ (by simp only; omega) srA (Sub.drop.trans (Gg (mem1 memA (fun x hx => by repeat (first | exact hx | refine List.mem_cons_of_mem _ ?_)))))
   refine qs 13 ?_
   rcases hw with ⟨he, rfl, hw⟩ | ⟨rfl, hw⟩
   · exact Gl (q + 1, s, os, e, p, a24, k24, c24) ⟨by simp only; omega, hI.err hql he hw, by simp only; omega⟩ (by simp only; omega) srA (Sub.drop.trans (Gg (mem1 memA (fun x hx => by repeat (first | exact hx | refine List.mem_cons_of_mem _ ?_)))))
   exact Gl (q + 1, (T1, s.2), os, 0, p, a24, k24, c24) ⟨by simp only; omega, hI.no hql hlow hw, by simp only; omega⟩ (by simp only; omega) srA (Sub.drop.trans (Gg (mem1 memA (fun x hx => by repeat (first | exact hx | refine List.mem_cons_of_mem _ ?_)))))
  refine qs 8 ?_
  obtain rfl : q = l.length := by omega
  rw [List.take_length] at hI
  exact AK.end0 (L' := Lf (aCells a6 k6 c6 a2 k2 c2 a3 k3 c3 bm e) p os) (F' := fL s.1 a6 k6 c6 :: F) Tryz.results144 (Gk _ _) (h e s os a6 k6 c6 p hI hos)
end
end Go.Sy
namespace Go.Sy
open Go Go.Proofs Go.RowKit
theorem com_done {T : List Ty} {N : List Nmd} (ht : rightU T N) {x y : Ty} (fx : FaceP T.length x) (fy : FaceP T.length y) (x2 : 2 ≤ x.n) (y2 : 2 ≤ y.n) {e : Int} {s : List Ty × List Tm} {o os : List Tm} (hI : AddI T N (addX N (trmL x) (trmL y) (addX N (trmL y) (trmL x) (.ok (T, [])))) e s o) (hp : os.Perm o) (hs : os.Pairwise fun x y => x.2 ≤ y.2) :
    (e = 0 ∧ comG N T x y = .ok (s.1, os)) ∨ (e ≠ 0 ∧ comG N T x y = .error e) := by
  have hr := hI.is
  simp only [addX] at hr
  unfold comG
  rw [if_neg (by simpa using y2), if_neg (by simpa using x2)]
  cases h1 : addG N (trmL y) (trmL x) (T, []) with
  | error e1 =>
    rw [h1] at hr
    simp only at hr
    rcases hr with ⟨_, h, _⟩ | ⟨h0, h⟩
    · cases h
    injection h with h; subst h; exact .inr ⟨h0, rfl⟩
  | ok s1 =>
    obtain ⟨T1, cs⟩ := s1
    rw [h1] at hr
    simp only at hr ⊢
    rcases hr with ⟨h0, h, h2, _⟩ | ⟨h0, h⟩
    · obtain ⟨T2, ds⟩ := s
      obtain ⟨u1, A1, _⟩ := addG_ok (T := T) _ _ _ _ _ ⟨ht, List.prefix_rfl⟩ fx.low h1
      obtain ⟨u2, B1, _⟩ := addG_ok (T := T) _ _ _ _ _ u1 fy.low h
      rw [h]
      simp only
      refine .inl ⟨h0, ?_⟩
      rw [terms_sort (m := T.length) (zs := ds) (fun z hz _ => ?_) (lst := os) (by rw [← h2]; exact hp) hs]
      rcases B1 z hz with hz | ⟨hz, _⟩
      · rcases A1 z hz with hz | ⟨hz, _⟩
        · cases hz
        exact fx.low z hz
      exact fy.low z hz
    rw [h]
    exact .inr ⟨h0, rfl⟩
attribute [local irreducible] AC AT AO AK AH ACalls Sub Res.cells Res.obj Res.nix Res.own Res.map Exit.then Exit.inBlock bodyPost Code.wp Code.wpIn WL Next Post Kont
section
variable {W0 : World} {L : List Res} {F : List Fact} {R : Value → List Res → List Fact → Prop}
set_option maxRecDepth 100000
set_option maxHeartbeats 16000000
theorem tcommon_c (g : Glob W0) (T : List Ty) (N : List Nmd) (hno : ∀ n ∈ N, NmOk n) (hu : rightU T N) (x y : Ty) (fx : FaceP T.length x) (fy : FaceP T.length y) (lx : x.words.length ≤ 20) (ly : y.words.length ≤ 20) (Lq : List Value → List Res) {a a2 a3 a4 a5 a6 a7 : Option Addr} {k c k2 c2 k3 c3 k4 c4 k5 c5 k6 c6 k7 c7 bm ba ia : Nat}
    (HA : ∀ w, (Lq w)[ia]? = some (Res.cells ba w.toArray 140)) (SA : ∀ w w', (Lq w).set ia (Res.cells ba w'.toArray 140) = Lq w')
    (mL : fL T a k c ∈ F) (mN : fN N a2 k2 c2 ∈ F) (mE : Fact.slc (.slice none 0 0) 5 [] ∈ F) (m1 : fW x a4 k4 c4 ∈ F) (m2 : fK x a5 k5 c5 ∈ F) (m3 : fW y a6 k6 c6 ∈ F) (m4 : fK y a7 k7 c7 ∈ F)
    (hO : ∀ T1 ts a k c a4 k4 c4, comG N T x y = .ok (T1, ts) → ts.length ≤ (trmL x).length + (trmL y).length → R (.slice a4 k4 c4) (Lq (aCells a k c a2 k2 c2 a3 k3 c3 bm 0)) (fL T1 a k c :: fTm ts a4 k4 c4 :: F))
    (hE : ∀ e a k c a4 k4 c4, e ≠ 0 → comG N T x y = .error e → R (.slice a4 k4 c4) (Lq (aCells a k c a2 k2 c2 a3 k3 c3 bm e)) F) :
    ACalls Tryz.prog W0 90 #[.pointer (some ⟨ba, 0, none⟩), vTy x a4 k4 c4 a5 k5 c5, vTy y a6 k6 c6 a7 k7 c7] (Lq (aCells a k c a2 k2 c2 a3 k3 c3 bm 0)) F R := by
  have hT4 := hu.1.2.1
  have hlx : (trmL x).length ≤ 20 := by have := trmN_len x x.words.length; unfold trmL; omega
  have hly : (trmL y).length ≤ 20 := by have := trmN_len y y.words.length; unfold trmL; omega
  refine Ge Tryz.func90 HU Tryz.ntmps90 HU ?_
  refine qs 2 ?_
  refine Ga (GJ HU HU (fun b3 => (Ga (GJ HU HU (fun b4 => (Ga (GJ HU HU (fun b5 => ?_))))))))
  refine qs 8 ?_
  refine Ga (Gd HU HU (trestricts_c y (fun c11 => ?_) (fun c11 => ?_)))
  ·refine qs 8 ?_
   refine Ga (Gd HU HU (trestricts_c x (fun c17 => ?_) (fun c17 => ?_)))
   ·refine qs 10 ?_
    refine Ga (Gq HU (fun b7 => ?_))
    refine qs 4 ?_
    refine Gz (Ha (e := 144) (sz := 2)) ?_
    refine Ga (Hq HU HU ?_)
    refine qs 4 ?_
    refine GO (fun _ => false) [(b4, _, _), (b5, _, _)] bxA HU (fun hx hX => ?_)
    refine qt [0, 1, 3] ?_
    refine Gf (i := 2) HV HU HU (fun _ => ?_)
    refine Gd HU HU (tterms_c x lx (Nat.le_of_eq fx.len) (show fW x a4 k4 c4 ∈ _ from memA) (show fK x a5 k5 c5 ∈ _ from memA) (fun a24 k24 c24 => ?_))
    refine Gc bxA memB ?_
    refine Gf (i := 4) HV HU HU (fun _ => ?_)
    refine Gd HU HU (tterms_c y ly (Nat.le_of_eq fy.len) (show fW y a6 k6 c6 ∈ _ from memA) (show fK y a7 k7 c7 ∈ _ from memA) (fun a26 k26 c26 => ?_))
    refine Gc bxA memB ?_
    refine Gf (i := 5) HV HU HU (fun _ => ?_)
    refine AO.callC (cs := [.pointer (some ⟨b3, 0, none⟩), .pointer (some ⟨b7, 0, none⟩)]) rfl rfl rfl (tadd_c g T N hno (trmL x) (trmL y) hlx hly fx.low fx.marks (fun w p o => Res.own (.slice p.1 p.2.1 p.2.2) 144 2 (o.map eTm) :: Res.cells b7 #[.slice p.1 p.2.1 p.2.2] 118 :: _ :: _ :: Res.cells b3 #[.pointer (some ⟨ba, 0, none⟩)] 111 :: Lq w) (ia := ia + 5) (ib := 1) (ir := 0) (i3 := 4) (by decide) (fun w p o => HA w) (fun w p o w' => congrArg (fun z => _ :: _ :: _ :: _ :: _ :: z) (SA w w')) (fun _ _ _ => rfl) (fun _ _ _ => rfl) (fun _ _ _ _ _ => rfl) (fun _ _ _ _ => rfl) (fun _ _ _ => rfl) (.ok (T, [])) (e0 := 0) (s0 := (T, [])) (o0 := []) (p0 := (none, 0, 0)) ⟨.inl ⟨rfl, rfl, rfl, hu, List.prefix_rfl⟩, by simp⟩ (by simp) (show fL T a k c ∈ _ from memA) (show fN N a2 k2 c2 ∈ _ from memA) memA (show fTm (trmL x) a24 k24 c24 ∈ _ from memA) (show fTm (trmL y) a26 k26 c26 ∈ _ from memA) (fun e1 s1 o1 aA kA cA pA hI1 ho1 => ?_))
    refine Gc bxA memB ?_
    refine Gm HV ?_
    refine qs 2 ?_
    refine GO (fun _ => false) [(b5, _, _), (b4, _, _)] bxA HU (fun hx hX => ?_)
    refine qt [0, 1, 3] ?_
    refine Gf (i := 2) HV HU HU (fun _ => ?_)
    refine Gd HU HU (tterms_c y ly (Nat.le_of_eq fy.len) (show fW y a6 k6 c6 ∈ _ from memA) (show fK y a7 k7 c7 ∈ _ from memA) (fun a30 k30 c30 => ?_))
    refine Gc bxA memB ?_
    refine Gf (i := 4) HV HU HU (fun _ => ?_)
    refine Gd HU HU (tterms_c x lx (Nat.le_of_eq fx.len) (show fW x a4 k4 c4 ∈ _ from memA) (show fK x a5 k5 c5 ∈ _ from memA) (fun a32 k32 c32 => ?_))
    refine Gc bxA memB ?_
    refine Gf (i := 5) HV HU HU (fun _ => ?_)
    refine AO.callC (cs := [.pointer (some ⟨b3, 0, none⟩), .pointer (some ⟨b7, 0, none⟩)]) HU HU HU (tadd_c g T N hno (trmL y) (trmL x) hly hlx fy.low fy.marks (fun w p o => Res.own (.slice p.1 p.2.1 p.2.2) 144 2 (o.map eTm) :: Res.cells b7 #[.slice p.1 p.2.1 p.2.2] 118 :: _ :: _ :: Res.cells b3 #[.pointer (some ⟨ba, 0, none⟩)] 111 :: Lq w) (ia := ia + 5) (ib := 1) (ir := 0) (i3 := 4) (by decide) (fun w p o => HA w) (fun w p o w' => congrArg (fun z => _ :: _ :: _ :: _ :: _ :: z) (SA w w')) (fun _ _ _ => rfl) (fun _ _ _ => rfl) (fun _ _ _ _ _ => rfl) (fun _ _ _ _ => rfl) (fun _ _ _ => rfl) _ (e0 := e1) (s0 := s1) (o0 := o1) (p0 := pA) hI1 (by simp only [List.length_nil] at ho1; omega) (show fL s1.1 aA kA cA ∈ _ from memA) (show fN N a2 k2 c2 ∈ _ from memA) memA (show fTm (trmL y) a30 k30 c30 ∈ _ from memA) (show fTm (trmL x) a32 k32 c32 ∈ _ from memA) (fun e2 s2 o2 aB kB cB pB hI2 ho2 => ?_))
    refine Gc bxA memB ?_
    refine Gm HV ?_
    refine qs 4 ?_
    simp only [List.length_nil] at ho1
    refine Ga (Gd HU HU (sortT_c o2 (fun z hz => by have := hI2.low z hz; omega) HW (i := 0) HU (fun os hp hs => ?_)))
    refine Gz ((GH (i := 0) HU).trans Gn) ?_
    refine qs 9 ?_
    rcases com_done hu fx fy c17 c11 hI2 hp hs with ⟨rfl, hcom⟩ | ⟨he, hcom⟩
    · exact Gb (L' := Lq (aCells aB kB cB a2 k2 c2 a3 k3 c3 bm 0)) (F' := fL s2.1 aB kB cB :: fTm os _ _ _ :: F) Tryz.results90 rfl (by repeat (first | exact Gg (mem2 memA memA (fun x hx => by repeat (first | exact hx | refine List.mem_cons_of_mem _ ?_))) | refine GR Gn ?_)) (hO _ _ _ _ _ _ _ _ hcom (by rw [hp.length_eq]; omega))
    exact Gb (L' := Lq (aCells aB kB cB a2 k2 c2 a3 k3 c3 bm e2)) (F' := F) Tryz.results90 rfl subA (hE e2 _ _ _ _ _ _ he hcom)
   refine qs 8 ?_
   refine Ga (Gd HU HU (tterms_c y ly (Nat.le_of_eq fy.len) (show fW y a6 k6 c6 ∈ _ from memA) (show fK y a7 k7 c7 ∈ _ from memA) (fun a20 k20 c20 => ?_)))
   refine qs 6 ?_
   exact Gb (L' := Lq (aCells a k c a2 k2 c2 a3 k3 c3 bm 0)) (F' := fL T a k c :: fTm (trmL y) a20 k20 c20 :: F) Tryz.results90 rfl (by repeat (first | exact Gg (mem2 memA memA (fun x hx => by repeat (first | exact hx | refine List.mem_cons_of_mem _ ?_))) | refine GR Gn ?_)) (hO T _ a k c _ _ _ (by unfold comG; rw [if_neg (by simpa using c11), if_pos c17]) HW)
  refine qs 8 ?_
  refine Ga (Gd HU HU (tterms_c x lx (Nat.le_of_eq fx.len) (show fW x a4 k4 c4 ∈ _ from memA) (show fK x a5 k5 c5 ∈ _ from memA) (fun a14 k14 c14 => ?_)))
  refine qs 6 ?_
  exact Gb (L' := Lq (aCells a k c a2 k2 c2 a3 k3 c3 bm 0)) (F' := fL T a k c :: fTm (trmL x) a14 k14 c14 :: F) Tryz.results90 rfl (by repeat (first | exact Gg (mem2 memA memA (fun x hx => by repeat (first | exact hx | refine List.mem_cons_of_mem _ ?_))) | refine GR Gn ?_)) (hO T _ a k c _ _ _ (by unfold comG; rw [if_pos c11]) HW)
theorem tput_c (g : Glob W0) (T : List Ty) (N : List Nmd) (hu : rightU T N) (hno : ∀ n ∈ N, NmOk n) (t : Ty) (ht : TyOk2 t) (hf : fitsU N t) {a a2 a3 a4 : Option Addr} {k c k2 c2 k3 c3 k4 c4 : Nat} (mL : fL T a k c ∈ F) (mN : fN N a2 k2 c2 ∈ F) (m3 : fW t a3 k3 c3 ∈ F) (m4 : fK t a4 k4 c4 ∈ F)
    (hE : ∀ e l' i, e ≠ 0 → AddP T t l' i e → R (.tuple #[.agg #[.slice none 0 0, .slice none 0 0], .int .i64 0, .int .i64 e]) L F)
    (hO : ∀ l' i a k c, AddP T t l' i 0 → R (.tuple #[.agg #[.slice a k c, .slice a2 k2 c2], .int .i64 i, .int .i64 0]) L (fL l' a k c :: F)) :
    ACalls Tryz.prog W0 12 #[.agg #[.slice a k c, .slice a2 k2 c2], vTy t a3 k3 c3 a4 k4 c4] L F R := by
  have hok := Hp hu.1
  refine Ge Tryz.func12 HU Tryz.ntmps12 HU ?_
  refine qs 2 ?_
  refine Ga (GJ HU HU (fun b2 => (Ga (GJ HU HU (fun b3 => (Ga (Gq HU (fun b4 => ?_))))))))
  refine qs 8 ?_
  refine Ga (Gd HU HU (uright_c g T N hok hno mL mN (fun _ => ?_) (fun c11 => absurd hu c11)))
  refine qs 11 ?_
  refine Ga (Gd HU HU (add2_c g T hok t ht memA memA memA (fun c => absurd hu.1 c) (fun _ l' i e a18 k18 c18 hP => ?_)))
  refine qs 14 ?_
  refine Ga (GK HU HU HU (fun c24 => ?_) (fun c24 => ?_))
  ·refine qs 6 ?_
   refine Ga (GI HU HU HU ?_)
   refine qs 9 ?_
   exact GS (rs := [.cell 4 _, .tmp 5, .tmp 6]) (L' := L) (F' := F) Tryz.results12 (.agg (j := 0) rfl rfl rfl (.tmp rfl (.tmp rfl .nil))) subA (hE e l' i c24 hP)
  refine qs 8 ?_
  refine Ga (Gd HU HU (fits_c N t memA memA (fun _ => ?_) (fun c30 => absurd hf c30)))
  refine qs 25 ?_
  subst c24
  exact GS (rs := [.cell 4 _, .tmp 5, .tmp 6]) (L' := L) (F' := fL l' a18 k18 c18 :: F) Tryz.results12 (.agg (j := 0) rfl rfl rfl (.tmp rfl (.tmp rfl .nil))) (Sub.drop.trans (Sub.drop.trans (Sub.drop.trans (Hk (fun x hx => by repeat (first | exact hx | refine List.mem_cons_of_mem _ ?_)))))) (hO l' i a18 k18 c18 hP)
end
end Go.Sy
namespace Go.Sy
open Go Go.Proofs Go.RowKit
theorem orN_low {a b : Int} : 0 ≤ orN a b ∧ orN a b ≤ 3 := by unfold orN; split <;> split <;> omega
theorem mt_ok {T : List Ty} (hT : T.length ≤ 400) {a b : Ty} (fa : FaceP T.length a) (fb : FaceP T.length b) (oa : TyOk a) (ob : TyOk b) (ka : ∀ x ∈ a.kids, 0 ≤ x ∧ x < T.length) (kb : ∀ x ∈ b.kids, 0 ≤ x ∧ x < T.length) {ms ts : List Tm} (hs : sortP a b ms) (hl : ts.length ≤ (trmL a).length + (trmL b).length) (hlow : ∀ z ∈ ts, 0 ≤ z.2 ∧ z.2 < T.length) (hmk : ∀ z ∈ ts, markP z.1) : TyOk2 (mtT a b ms ts) := by
  have za : (mthL a).length + (trmL a).length = a.words.length := by
    have := congrArg List.length fa.zip
    rw [HH fa.len, List.length_append] at this; have := fa.len; omega
  have zb : (mthL b).length + (trmL b).length = b.words.length := by
    have := congrArg List.length fb.zip
    rw [HH fb.len, List.length_append] at this; have := fb.len; omega
  have hnl : (newL a b).length ≤ (mthL b).length := by unfold newL; exact List.length_filter_le _ _
  have hml : ms.length ≤ (mthL a).length + (mthL b).length := by rw [hs.1.length_eq, List.length_append]; omega
  have wa := oa.words
  have wb := ob.words
  have mem : ∀ z ∈ ms, (z.1 ∈ a.words ∧ z.2 ∈ a.kids) ∨ (z.1 ∈ b.words ∧ z.2 ∈ b.kids) := fun z hz => by
    rcases List.mem_append.1 (hs.1.mem_iff.1 hz) with h | h
    · exact .inl (List.of_mem_zip (List.mem_filter.1 h).1)
    exact .inr (List.of_mem_zip (List.mem_filter.1 (List.mem_filter.1 h).1).1)
  have ho := orN_low (a := a.n) (b := b.n)
  refine ⟨by simp [mtT], by simp only [mtT]; omega, by simp [mtT], by simp only [mtT, List.length_map, List.length_append]; omega, fun w hw => ?_, by simp only [mtT, List.length_map, List.length_append]; omega, fun x hx => ?_⟩
  · obtain ⟨z, hz, rfl⟩ := List.mem_map.1 hw
    rcases List.mem_append.1 hz with h | h
    · rcases mem z h with h | h
      · exact oa.word _ h.1
      exact ob.word _ h.1
    rcases hmk z h with e | e <;> (rw [e]; decide)
  obtain ⟨z, hz, rfl⟩ := List.mem_map.1 hx
  rcases List.mem_append.1 hz with h | h
  · rcases mem z h with h | h
    · have := ka _ h.2; omega
    have := kb _ h.2; omega
  have := hlow z h; omega
attribute [local irreducible] AC AT AO AK AH ACalls Sub Res.cells Res.obj Res.nix Res.own Res.map Exit.then Exit.inBlock bodyPost Code.wp Code.wpIn WL Next Post Kont
section
variable {W0 : World} {L : List Res} {F : List Fact} {R : Value → List Res → List Fact → Prop}
set_option maxRecDepth 100000
set_option maxHeartbeats 16000000
theorem tmeet_c (g : Glob W0) (T : List Ty) (N : List Nmd) (hok : ∀ t ∈ T, TyOk t) (hno : ∀ n ∈ N, NmOk n) (i kk : Int) {a a2 : Option Addr} {k c k2 c2 : Nat} (mL : fL T a k c ∈ F) (mN : fN N a2 k2 c2 ∈ F) (mE : Fact.slc (.slice none 0 0) 5 [] ∈ F) (m4 : Fact.slc (.slice none 0 0) 4 [] ∈ F) (m1 : Fact.slc (.slice none 0 0) 1 [] ∈ F)
    (h : ∀ X M m e ax kx cx am km cm, meetP T N i kk X M m e → R (.tuple #[.agg #[.slice ax kx cx, .slice am km cm], .int .i64 m, .int .i64 e]) L (fL X ax kx cx :: fN M am km cm :: F)) :
    ACalls Tryz.prog W0 37 #[.agg #[.slice a k c, .slice a2 k2 c2], .int .i64 i, .int .i64 kk] L F R := by
  have hml : 1000000 ≤ maxLen := by decide
  refine Ge Tryz.func37 HU Tryz.ntmps37 HU ?_
  refine qs 2 ?_
  refine Ga (GJ HU HU (fun b3 => (Ga (Gq HU (fun b6 => ?_)))))
  refine qs 9 ?_
  refine Ga (Gi HU HU HU HU HU (fun b25 => ?_))
  refine Gz (GR (GP (i := 0) (enc := eI) (sz := 1) [i, kk] HU (.val (.val .nil)) (fun _ => rfl) HU (by simp only [List.length_cons, List.length_nil, maxLen]; omega)) Gn) ?_
  refine Ga (Gd HU HU (task_c g T N hok hno [] [i, kk] (show fL T a k c ∈ _ from memA) (show fN N a2 k2 c2 ∈ _ from memA) (show fI [] none 0 0 ∈ _ from memA) (show fI [i, kk] _ _ _ ∈ _ from memA) (fun e he hb => ?_) (fun hg ba bm r => ?_)))
  ·refine qs 11 ?_
   refine Ga (GK HU HU HU (fun _ => ?_) (fun c26 => absurd c26 he))
   refine qs 5 ?_
   refine Ga (GI HU HU HU ?_)
   refine qs 8 ?_
   exact GS (rs := [.cell 6 _, .tmp 7, .tmp 8]) (L' := L) (F' := fL [] none 0 0 :: fN [] none 0 0 :: F) Tryz.results37 (.agg (j := 0) rfl rfl rfl (.tmp rfl (.tmp rfl .nil))) (by repeat (first | exact Gg (mem2 memA memA (fun x hx => by repeat (first | exact hx | refine List.mem_cons_of_mem _ ?_))) | refine GR Gn ?_)) (h [] [] 0 e _ _ _ _ _ _ (.inl ⟨he, rfl, rfl, rfl, .inl hb⟩))
  refine qs 11 ?_
  have hi := hg.2 i (.head _)
  have hc := hg.2 kk (.tail _ (.head _))
  obtain ⟨hin, hie⟩ := GQ hi.1 hi.2
  obtain ⟨hcn, hce⟩ := GQ hc.1 hc.2
  refine Ga (GK HU HU HU (fun c26 => absurd HU c26) (fun _ => ?_))
  refine qs 6 ?_
  refine AC.cut (fun (x : Nat × Nat × (Option Addr × Nat × Nat) × (Option Addr × Nat × Nat) × (Option Addr × Nat × Nat) × (Option Addr × Nat × Nat)) _ => [(6, .pointer (some ⟨b6, 0, none⟩)), (9, .pointer (some ⟨ba, 0, none⟩)), (11, .pointer (some ⟨x.1, 0, none⟩)), (12, .pointer (some ⟨x.2.1, 0, none⟩))]) (fun x L => Res.cells x.2.1 #[.int .i64 T[kk.toNat].kind, S T[kk.toNat].name, .int .i64 T[kk.toNat].n, .slice x.2.2.2.2.1.1 x.2.2.2.2.1.2.1 x.2.2.2.2.1.2.2, .slice x.2.2.2.2.2.1 x.2.2.2.2.2.2.1 x.2.2.2.2.2.2.2] 29 :: Res.cells x.1 #[.int .i64 T[i.toNat].kind, S T[i.toNat].name, .int .i64 T[i.toNat].n, .slice x.2.2.1.1 x.2.2.1.2.1 x.2.2.1.2.2, .slice x.2.2.2.1.1 x.2.2.2.1.2.1 x.2.2.2.1.2.2] 29 :: L) (fun x F => fW T[i.toNat] x.2.2.1.1 x.2.2.1.2.1 x.2.2.1.2.2 :: fK T[i.toNat] x.2.2.2.1.1 x.2.2.2.1.2.1 x.2.2.2.1.2.2 :: fW T[kk.toNat] x.2.2.2.2.1.1 x.2.2.2.2.1.2.1 x.2.2.2.2.1.2.2 :: fK T[kk.toNat] x.2.2.2.2.2.1 x.2.2.2.2.2.2.1 x.2.2.2.2.2.2.2 :: F) ?_ (fun key => ?_)
  ·(rintro ⟨b11, b12, ⟨w1, x1, y1⟩, ⟨w2, x2, y2⟩, ⟨w3, x3, y3⟩, ⟨w4, x4, y4⟩⟩; simp only)
   refine qs 6 ?_
   refine Ga (GK HU HU HU (fun c45 => ?_) (fun c45 => ?_))
   ·refine qs 10 ?_
    refine Ga (GI HU HU HU ?_)
    refine qs 7 ?_
    exact GS (rs := [.cell 6 _, .tmp 7, .tmp 8]) (L' := L) (F' := fL [] none 0 0 :: fN [] none 0 0 :: F) Tryz.results37 (.agg (j := 5) rfl rfl rfl (.tmp rfl (.tmp rfl .nil))) (by repeat (first | exact Gg (mem2 memA memA (fun x hx => by repeat (first | exact hx | refine List.mem_cons_of_mem _ ?_))) | refine GR Gn ?_)) (h [] [] 0 1 _ _ _ _ _ _ (.inl ⟨by decide, rfl, rfl, rfl, .inr ⟨hg, .inl (fun h7 => c45 (by rw [← hie]; exact h7.1))⟩⟩))
   refine qs 3 ?_
   refine Gh HU HU (GK HU HU HU (fun c49 => ?_) (fun c49 => ?_))
   ·refine qs 6 ?_
    refine Ga (GI HU HU HU ?_)
    refine qs 7 ?_
    exact GS (rs := [.cell 6 _, .tmp 7, .tmp 8]) (L' := L) (F' := fL [] none 0 0 :: fN [] none 0 0 :: F) Tryz.results37 (.agg (j := 5) rfl rfl rfl (.tmp rfl (.tmp rfl .nil))) (by repeat (first | exact Gg (mem2 memA memA (fun x hx => by repeat (first | exact hx | refine List.mem_cons_of_mem _ ?_))) | refine GR Gn ?_)) (h [] [] 0 1 _ _ _ _ _ _ (.inl ⟨by decide, rfl, rfl, rfl, .inr ⟨hg, .inl (fun h7 => c49 (by rw [← hce]; exact h7.2))⟩⟩))
   refine qs 10 ?_
   have hf1 : (tyAt T i).kind = 7 := by rw [hie]; exact c45
   have hf2 : (tyAt T kk).kind = 7 := by rw [hce]; exact c49
   have fx := face_of hg.1.1.1 hi.1 hi.2 hf1
   have fy := face_of hg.1.1.1 hc.1 hc.2 hf2
   have kx := kids_there hg.1.1.1 hi.1 hi.2
   have ky := kids_there hg.1.1.1 hc.1 hc.2
   rw [hie] at fx kx
   rw [hce] at fy ky
   have ox := hok _ (List.getElem_mem hin)
   have oy := hok _ (List.getElem_mem hcn)
   refine Ga (Gd HU HU (tboth_c T[i.toNat] T[kk.toNat] fx fy ox.words oy.words (show fW T[i.toNat] _ _ _ ∈ _ from memA) (show fK T[i.toNat] _ _ _ ∈ _ from memA) (show fW T[kk.toNat] _ _ _ ∈ _ from memA) (show fK T[kk.toNat] _ _ _ ∈ _ from memA) (fun ms a55 k55 c55 hcl hsr => ?_) (fun hcl => ?_)))
   ·refine qs 23 ?_
    refine Ga (AO.or4 HU HU fx.n0 fx.n3 fy.n0 fy.n3 HU ?_)
    refine Ga (GI HU HU HU (Ga (Gq HU (fun b15 => ?_))))
    refine qs 8 ?_
    refine Ga (Gd HU HU (tcommon_c g T N hno hg.1.1 T[i.toNat] T[kk.toNat] fx fy ox.words oy.words (fun w => _ :: _ :: _ :: Res.cells ba w.toArray 140 :: _) (bm := bm) (ia := 3) (fun _ => rfl) (fun _ _ => rfl) (show fL T _ k c ∈ _ from memA) (show fN N a2 k2 c2 ∈ _ from memA) memA (show fW T[i.toNat] _ _ _ ∈ _ from memA) (show fK T[i.toNat] _ _ _ ∈ _ from memA) (show fW T[kk.toNat] _ _ _ ∈ _ from memA) (show fK T[kk.toNat] _ _ _ ∈ _ from memA) (fun T1 ts aT kT cT a70 k70 c70 hcom hlt => ?_) (fun e aT kT cT a70 k70 c70 he hcom => ?_)))
    ·refine qs 7 ?_
     refine Ga (Gu HU HU ?_)
     refine qs 1 ?_
     refine Ga (Gw (cs := aCells aT kT cT a2 k2 c2 none 0 0 bm 0) HU HU ?_ (i := 3) (hi := HU) (hv := HU))
     refine Ga (GK HU HU HU (fun c75 => absurd HU c75) (fun _ => ?_))
     refine qs 8 ?_
     obtain ⟨hu1, hlow, hmk, _⟩ := com_up hg.1.1 fx fy hcom
     have hok2 := mt_ok hg.1.1.1.2.1 fx fy ox oy kx ky hsr hlt hlow hmk
     have hmw := hok2.words
     simp only [mtT, List.length_map, List.length_append] at hmw
     refine Ga (AO.move HU HU ?_)
     refine Gz ((Ha (e := 9) (sz := 1)).trans (Ha (e := 3) (sz := 1))) ?_
     refine Ga (Gv HU HU (fun hl82 => ?_) (enc := eTm) (lst := ms) (hm := (show fTm ms a55 k55 c55 ∈ _ from memA)))
     refine qs 4 ?_
     refine GN (fun (x : Nat × (Option Addr × Nat × Nat) × (Option Addr × Nat × Nat)) => x.1 ≤ ms.length) (fun x => [(6, .pointer (some ⟨b6, 0, none⟩)), (9, .pointer (some ⟨ba, 0, none⟩)), (15, .pointer (some ⟨b15, 0, none⟩)), (16, .slice a70 k70 c70), (81, .slice a55 k55 c55), (82, .int .i64 ms.length), (83, .int .i64 (x.1 : Int))]) (fun x => Res.own (.slice x.2.2.1 x.2.2.2.1 x.2.2.2.2) 3 1 (((ms.take x.1).map (·.2)).map eI) :: Res.own (.slice x.2.1.1 x.2.1.2.1 x.2.1.2.2) 9 1 (((ms.take x.1).map (·.1)).map eS) :: Res.cells b15 #[.int .i64 7, S [], .int .i64 (orN T[i.toNat].n T[kk.toNat].n), .slice x.2.1.1 x.2.1.2.1 x.2.1.2.2, .slice x.2.2.1 x.2.2.2.1 x.2.2.2.2] 29 :: _) (fun _ => _) (fun x => ms.length - x.1) (0, (none, 0, 0), (none, 0, 0)) (by simp) srA (Gk _ _) ?_
     rintro ⟨q, ⟨aW, kW, cW⟩, ⟨aK, kK, cK⟩⟩ hq
     simp only at hq ⊢
     refine qs 2 ?_
     refine Ga (GB HU HU HU (fun c84 => ?_) (fun c84 => ?_))
     ·refine qs 10 ?_
      have hql : q < ms.length := by omega
      have e1 : (ms.take q).map (·.1) ++ [ms[q].1] = (ms.take (q + 1)).map (·.1) := by rw [List.take_succ_eq_append_getElem hql, List.map_append]; rfl
      have e2 : (ms.take q).map (·.2) ++ [ms[q].2] = (ms.take (q + 1)).map (·.2) := by rw [List.take_succ_eq_append_getElem hql, List.map_append]; rfl
      have htl : (ms.take q).length ≤ 40 := by rw [List.length_take]; omega
      refine Ga (Gj HU HU HU HU (enc := eTm) (lst := ms) (show fTm ms a55 k55 c55 ∈ _ from memA) hql (fun _ _ => ?_))
      refine Ga (GU HU HU ?_)
      refine Ga (Gq HU (fun b18 => ?_))
      refine Ga (GA HU HU HU HU ?_)
      refine Gz (Hn (L' := Res.cells b18 #[S ms[q].1, .int .i64 ms[q].2] 142 :: _) HU) ?_
      refine qs 2 ?_
      refine GO (fun i => Nat.beq i 13 || Nat.beq i 15) [(b15, _, _), (b18, _, _)] bxA HU (fun hx hX => ?_)
      refine qt [0, 1, 2, 3, 6, 7, 8] ?_
      refine Hj (i := 4) (j := 9) HV HU HU HU HU (fun _ => ?_) (fun _ => ?_)
      ·refine Gi HU HU HU HU HU (fun b91 => ?_)
       refine Gz ((GP (i := 0) (k := 1) (enc := eS) (sz := 1) [ms[q].1] HU (.val .nil) (fun _ => rfl) HU HW).trans Gn) ?_
       refine Gc bxA memB ?_
       refine Hj (i := 5) (j := 9) HV HU HU HU HU (fun _ => ?_) (fun _ => ?_)
       ·refine Gx (i := 2) (enc := eS) (lst := (ms.take q).map (·.1)) (lst2 := [ms[q].1]) HU HU HU HU memA (fun x d hd v hv => Hx hd hv) (fun _ => rfl) (by simp only [List.length_map, List.length_cons, List.length_nil]; omega) (by simp only [List.length_map, List.length_cons, List.length_nil]; omega) (fun a92 k92 z92 => ?_)
        simp only [List.set_cons_zero, List.set_cons_succ]
        refine Gc bxA memB ?_
        refine qt [12] ?_
        refine Gf (i := 9) HV HU HU (fun _ => ?_)
        refine Gw (cs := [S ms[q].1, .int .i64 ms[q].2]) HU HU ?_
        refine Gc bxA memB ?_
        refine Gf (i := 10) HV HU HU (fun _ => ?_)
        refine Gi HU HU HU HU HU (fun b97 => ?_)
        refine Gz ((GP (i := 0) (k := 1) (enc := eI) (sz := 1) [ms[q].2] HU (.val .nil) (fun _ => rfl) HU HW).trans Gn) ?_
        refine Gc bxA memB ?_
        refine Gf (i := 11) HV HU HU (fun _ => ?_)
        refine Gx (i := 1) (enc := eI) (lst := (ms.take q).map (·.2)) (lst2 := [ms[q].2]) HU HU HU HU memA (fun x d hd v hv => GY hd hv) (fun _ => rfl) (by simp only [List.length_map, List.length_cons, List.length_nil]; omega) (by simp only [List.length_map, List.length_cons, List.length_nil]; omega) (fun a98 k98 z98 => ?_)
        simp only [List.set_cons_zero, List.set_cons_succ]
        refine Gc bxA memB ?_
        refine Gf (i := 13) HV HU HU (fun _ => ?_)
        refine Gs HU HU HU ?_
        refine Gr HU ?_
        refine qt [14] ?_
        refine Gf (i := 15) HV HU HU (fun _ => ?_)
        refine Gs HU HU HU ?_
        refine Gr HU ?_
        refine Gm HV ?_
        refine qs 6 ?_
        rw [e1, e2]
        exact Gl (q + 1, (a92, k92, z92), (a98, k98, z98)) (by simp only; omega) (by simp only; omega) srA (Sub.drop.trans subF)
       refine Gw (cs := [S ms[q].1, .int .i64 ms[q].2]) HU HU ?_
       refine Gc bxA memB ?_
       refine Hj (i := 5) (j := 10) HV HU HU HU HU (fun _ => ?_) (fun _ => ?_)
       ·refine Gx (i := 2) (enc := eS) (lst := (ms.take q).map (·.1)) (lst2 := [ms[q].1]) HU HU HU HU memA (fun x d hd v hv => Hx hd hv) (fun _ => rfl) (by simp only [List.length_map, List.length_cons, List.length_nil]; omega) (by simp only [List.length_map, List.length_cons, List.length_nil]; omega) (fun a92 k92 z92 => ?_)
        simp only [List.set_cons_zero, List.set_cons_succ]
        refine Gc bxA memB ?_
        refine qt [12] ?_
        refine Gf (i := 10) HV HU HU (fun _ => ?_)
        refine Gi HU HU HU HU HU (fun b97 => ?_)
        refine Gz ((GP (i := 0) (k := 1) (enc := eI) (sz := 1) [ms[q].2] HU (.val .nil) (fun _ => rfl) HU HW).trans Gn) ?_
        refine Gc bxA memB ?_
        refine Gf (i := 11) HV HU HU (fun _ => ?_)
        refine Gx (i := 1) (enc := eI) (lst := (ms.take q).map (·.2)) (lst2 := [ms[q].2]) HU HU HU HU memA (fun x d hd v hv => GY hd hv) (fun _ => rfl) (by simp only [List.length_map, List.length_cons, List.length_nil]; omega) (by simp only [List.length_map, List.length_cons, List.length_nil]; omega) (fun a98 k98 z98 => ?_)
        simp only [List.set_cons_zero, List.set_cons_succ]
        refine Gc bxA memB ?_
        refine Gf (i := 13) HV HU HU (fun _ => ?_)
        refine Gs HU HU HU ?_
        refine Gr HU ?_
        refine qt [14] ?_
        refine Gf (i := 15) HV HU HU (fun _ => ?_)
        refine Gs HU HU HU ?_
        refine Gr HU ?_
        refine Gm HV ?_
        refine qs 6 ?_
        rw [e1, e2]
        exact Gl (q + 1, (a92, k92, z92), (a98, k98, z98)) (by simp only; omega) (by simp only; omega) srA (Sub.drop.trans subF)
       refine Gi HU HU HU HU HU (fun b97 => ?_)
       refine Gz ((GP (i := 0) (k := 1) (enc := eI) (sz := 1) [ms[q].2] HU (.val .nil) (fun _ => rfl) HU HW).trans Gn) ?_
       refine Gc bxA memB ?_
       refine Gf (i := 5) HV HU HU (fun _ => ?_)
       refine Gx (i := 2) (enc := eS) (lst := (ms.take q).map (·.1)) (lst2 := [ms[q].1]) HU HU HU HU memA (fun x d hd v hv => Hx hd hv) (fun _ => rfl) (by simp only [List.length_map, List.length_cons, List.length_nil]; omega) (by simp only [List.length_map, List.length_cons, List.length_nil]; omega) (fun a92 k92 z92 => ?_)
       simp only [List.set_cons_zero, List.set_cons_succ]
       refine Gc bxA memB ?_
       refine qt [12] ?_
       refine Gf (i := 11) HV HU HU (fun _ => ?_)
       refine Gx (i := 1) (enc := eI) (lst := (ms.take q).map (·.2)) (lst2 := [ms[q].2]) HU HU HU HU memA (fun x d hd v hv => GY hd hv) (fun _ => rfl) (by simp only [List.length_map, List.length_cons, List.length_nil]; omega) (by simp only [List.length_map, List.length_cons, List.length_nil]; omega) (fun a98 k98 z98 => ?_)
       simp only [List.set_cons_zero, List.set_cons_succ]
       refine Gc bxA memB ?_
       refine Gf (i := 13) HV HU HU (fun _ => ?_)
       refine Gs HU HU HU ?_
       refine Gr HU ?_
       refine qt [14] ?_
       refine Gf (i := 15) HV HU HU (fun _ => ?_)
       refine Gs HU HU HU ?_
       refine Gr HU ?_
       refine Gm HV ?_
       refine qs 6 ?_
       rw [e1, e2]
       exact Gl (q + 1, (a92, k92, z92), (a98, k98, z98)) (by simp only; omega) (by simp only; omega) srA (Sub.drop.trans subF)
      refine Gw (cs := [S ms[q].1, .int .i64 ms[q].2]) HU HU ?_
      refine Gc bxA memB ?_
      refine Hj (i := 4) (j := 10) HV HU HU HU HU (fun _ => ?_) (fun _ => ?_)
      ·refine Gi HU HU HU HU HU (fun b91 => ?_)
       refine Gz ((GP (i := 0) (k := 1) (enc := eS) (sz := 1) [ms[q].1] HU (.val .nil) (fun _ => rfl) HU HW).trans Gn) ?_
       refine Gc bxA memB ?_
       refine Hj (i := 5) (j := 10) HV HU HU HU HU (fun _ => ?_) (fun _ => ?_)
       ·refine Gx (i := 2) (enc := eS) (lst := (ms.take q).map (·.1)) (lst2 := [ms[q].1]) HU HU HU HU memA (fun x d hd v hv => Hx hd hv) (fun _ => rfl) (by simp only [List.length_map, List.length_cons, List.length_nil]; omega) (by simp only [List.length_map, List.length_cons, List.length_nil]; omega) (fun a92 k92 z92 => ?_)
        simp only [List.set_cons_zero, List.set_cons_succ]
        refine Gc bxA memB ?_
        refine qt [12] ?_
        refine Gf (i := 10) HV HU HU (fun _ => ?_)
        refine Gi HU HU HU HU HU (fun b97 => ?_)
        refine Gz ((GP (i := 0) (k := 1) (enc := eI) (sz := 1) [ms[q].2] HU (.val .nil) (fun _ => rfl) HU HW).trans Gn) ?_
        refine Gc bxA memB ?_
        refine Gf (i := 11) HV HU HU (fun _ => ?_)
        refine Gx (i := 1) (enc := eI) (lst := (ms.take q).map (·.2)) (lst2 := [ms[q].2]) HU HU HU HU memA (fun x d hd v hv => GY hd hv) (fun _ => rfl) (by simp only [List.length_map, List.length_cons, List.length_nil]; omega) (by simp only [List.length_map, List.length_cons, List.length_nil]; omega) (fun a98 k98 z98 => ?_)
        simp only [List.set_cons_zero, List.set_cons_succ]
        refine Gc bxA memB ?_
        refine Gf (i := 13) HV HU HU (fun _ => ?_)
        refine Gs HU HU HU ?_
        refine Gr HU ?_
        refine qt [14] ?_
        refine Gf (i := 15) HV HU HU (fun _ => ?_)
        refine Gs HU HU HU ?_
        refine Gr HU ?_
        refine Gm HV ?_
        refine qs 6 ?_
        rw [e1, e2]
        exact Gl (q + 1, (a92, k92, z92), (a98, k98, z98)) (by simp only; omega) (by simp only; omega) srA (Sub.drop.trans subF)
       refine Gi HU HU HU HU HU (fun b97 => ?_)
       refine Gz ((GP (i := 0) (k := 1) (enc := eI) (sz := 1) [ms[q].2] HU (.val .nil) (fun _ => rfl) HU HW).trans Gn) ?_
       refine Gc bxA memB ?_
       refine Gf (i := 5) HV HU HU (fun _ => ?_)
       refine Gx (i := 2) (enc := eS) (lst := (ms.take q).map (·.1)) (lst2 := [ms[q].1]) HU HU HU HU memA (fun x d hd v hv => Hx hd hv) (fun _ => rfl) (by simp only [List.length_map, List.length_cons, List.length_nil]; omega) (by simp only [List.length_map, List.length_cons, List.length_nil]; omega) (fun a92 k92 z92 => ?_)
       simp only [List.set_cons_zero, List.set_cons_succ]
       refine Gc bxA memB ?_
       refine qt [12] ?_
       refine Gf (i := 11) HV HU HU (fun _ => ?_)
       refine Gx (i := 1) (enc := eI) (lst := (ms.take q).map (·.2)) (lst2 := [ms[q].2]) HU HU HU HU memA (fun x d hd v hv => GY hd hv) (fun _ => rfl) (by simp only [List.length_map, List.length_cons, List.length_nil]; omega) (by simp only [List.length_map, List.length_cons, List.length_nil]; omega) (fun a98 k98 z98 => ?_)
       simp only [List.set_cons_zero, List.set_cons_succ]
       refine Gc bxA memB ?_
       refine Gf (i := 13) HV HU HU (fun _ => ?_)
       refine Gs HU HU HU ?_
       refine Gr HU ?_
       refine qt [14] ?_
       refine Gf (i := 15) HV HU HU (fun _ => ?_)
       refine Gs HU HU HU ?_
       refine Gr HU ?_
       refine Gm HV ?_
       refine qs 6 ?_
       rw [e1, e2]
       exact Gl (q + 1, (a92, k92, z92), (a98, k98, z98)) (by simp only; omega) (by simp only; omega) srA (Sub.drop.trans subF)
      refine Gi HU HU HU HU HU (fun b97 => ?_)
      refine Gz ((GP (i := 0) (k := 1) (enc := eI) (sz := 1) [ms[q].2] HU (.val .nil) (fun _ => rfl) HU HW).trans Gn) ?_
      refine Gc bxA memB ?_
      refine Gf (i := 4) HV HU HU (fun _ => ?_)
      refine Gi HU HU HU HU HU (fun b91 => ?_)
      refine Gz ((GP (i := 0) (k := 1) (enc := eS) (sz := 1) [ms[q].1] HU (.val .nil) (fun _ => rfl) HU HW).trans Gn) ?_
      refine Gc bxA memB ?_
      refine Gf (i := 5) HV HU HU (fun _ => ?_)
      refine Gx (i := 2) (enc := eS) (lst := (ms.take q).map (·.1)) (lst2 := [ms[q].1]) HU HU HU HU memA (fun x d hd v hv => Hx hd hv) (fun _ => rfl) (by simp only [List.length_map, List.length_cons, List.length_nil]; omega) (by simp only [List.length_map, List.length_cons, List.length_nil]; omega) (fun a92 k92 z92 => ?_)
      simp only [List.set_cons_zero, List.set_cons_succ]
      refine Gc bxA memB ?_
      refine qt [12] ?_
      refine Gf (i := 11) HV HU HU (fun _ => ?_)
      refine Gx (i := 1) (enc := eI) (lst := (ms.take q).map (·.2)) (lst2 := [ms[q].2]) HU HU HU HU memA (fun x d hd v hv => GY hd hv) (fun _ => rfl) (by simp only [List.length_map, List.length_cons, List.length_nil]; omega) (by simp only [List.length_map, List.length_cons, List.length_nil]; omega) (fun a98 k98 z98 => ?_)
      simp only [List.set_cons_zero, List.set_cons_succ]
      refine Gc bxA memB ?_
      refine Gf (i := 13) HV HU HU (fun _ => ?_)
      refine Gs HU HU HU ?_
      refine Gr HU ?_
      refine qt [14] ?_
      refine Gf (i := 15) HV HU HU (fun _ => ?_)
      refine Gs HU HU HU ?_
      refine Gr HU ?_
      refine Gm HV ?_
      refine qs 6 ?_
      rw [e1, e2]
      exact Gl (q + 1, (a92, k92, z92), (a98, k98, z98)) (by simp only; omega) (by simp only; omega) srA (Sub.drop.trans subF)
     refine qs 13 ?_
     obtain rfl : q = ms.length := by omega
     rw [List.take_length]
     refine Ga (Gv HU HU (fun hl103 => ?_) (enc := eTm) (lst := ts) (hm := (show fTm ts a70 k70 c70 ∈ _ from memA)))
     refine qs 4 ?_
     refine GN (fun (x : Nat × (Option Addr × Nat × Nat) × (Option Addr × Nat × Nat)) => x.1 ≤ ts.length) (fun x => [(6, .pointer (some ⟨b6, 0, none⟩)), (9, .pointer (some ⟨ba, 0, none⟩)), (15, .pointer (some ⟨b15, 0, none⟩)), (102, .slice a70 k70 c70), (103, .int .i64 ts.length), (104, .int .i64 (x.1 : Int))]) (fun x => Res.own (.slice x.2.2.1 x.2.2.2.1 x.2.2.2.2) 3 1 (((ms ++ ts.take x.1).map (·.2)).map eI) :: Res.own (.slice x.2.1.1 x.2.1.2.1 x.2.1.2.2) 9 1 (((ms ++ ts.take x.1).map (·.1)).map eS) :: Res.cells b15 #[.int .i64 7, S [], .int .i64 (orN T[i.toNat].n T[kk.toNat].n), .slice x.2.1.1 x.2.1.2.1 x.2.1.2.2, .slice x.2.2.1 x.2.2.2.1 x.2.2.2.2] 29 :: _) (fun _ => _) (fun x => ts.length - x.1) (0, (aW, kW, cW), (aK, kK, cK)) (by simp) srA ((Sub.eqIn (A := []) (by simp)).trans (Sub.eqIn (A := [_]) (by simp))) ?_
     rintro ⟨u, ⟨aX, kX, cX⟩, ⟨aY, kY, cY⟩⟩ hu2
     simp only at hu2 ⊢
     refine qs 2 ?_
     refine Ga (GB HU HU HU (fun c105 => ?_) (fun c105 => ?_))
     ·refine qs 10 ?_
      have hul : u < ts.length := by omega
      have e3 : (ms ++ ts.take u).map (·.1) ++ [ts[u].1] = (ms ++ ts.take (u + 1)).map (·.1) := by rw [List.take_succ_eq_append_getElem hul, ← List.append_assoc, List.map_append (l₁ := ms ++ ts.take u)]; rfl
      have e4 : (ms ++ ts.take u).map (·.2) ++ [ts[u].2] = (ms ++ ts.take (u + 1)).map (·.2) := by rw [List.take_succ_eq_append_getElem hul, ← List.append_assoc, List.map_append (l₁ := ms ++ ts.take u)]; rfl
      have htl : (ms ++ ts.take u).length ≤ 40 := by rw [List.length_append, List.length_take]; omega
      refine Ga (Gj HU HU HU HU (enc := eTm) (lst := ts) (show fTm ts a70 k70 c70 ∈ _ from memA) hul (fun _ _ => ?_))
      refine Ga (GU HU HU ?_)
      refine Ga (Gq HU (fun b20 => ?_))
      refine Ga (GA HU HU HU HU ?_)
      refine Gz (Hn (L' := Res.cells b20 #[S ts[u].1, .int .i64 ts[u].2] 144 :: _) HU) ?_
      refine qs 2 ?_
      refine GO (fun i => Nat.beq i 13 || Nat.beq i 15) [(b15, _, _), (b20, _, _)] bxA HU (fun hx hX => ?_)
      refine qt [0, 1, 2, 3, 6, 7, 8] ?_
      refine Hj (i := 4) (j := 9) HV HU HU HU HU (fun _ => ?_) (fun _ => ?_)
      ·refine Gi HU HU HU HU HU (fun b112 => ?_)
       refine Gz ((GP (i := 0) (k := 1) (enc := eS) (sz := 1) [ts[u].1] HU (.val .nil) (fun _ => rfl) HU HW).trans Gn) ?_
       refine Gc bxA memB ?_
       refine Hj (i := 5) (j := 9) HV HU HU HU HU (fun _ => ?_) (fun _ => ?_)
       ·refine Gx (i := 2) (enc := eS) (lst := (ms ++ ts.take u).map (·.1)) (lst2 := [ts[u].1]) HU HU HU HU memA (fun x d hd v hv => Hx hd hv) (fun _ => rfl) (by simp only [List.length_map, List.length_cons, List.length_nil]; omega) (by simp only [List.length_map, List.length_cons, List.length_nil]; omega) (fun a113 k113 z113 => ?_)
        simp only [List.set_cons_zero, List.set_cons_succ]
        refine Gc bxA memB ?_
        refine qt [12] ?_
        refine Gf (i := 9) HV HU HU (fun _ => ?_)
        refine Gw (cs := [S ts[u].1, .int .i64 ts[u].2]) HU HU ?_
        refine Gc bxA memB ?_
        refine Gf (i := 10) HV HU HU (fun _ => ?_)
        refine Gi HU HU HU HU HU (fun b118 => ?_)
        refine Gz ((GP (i := 0) (k := 1) (enc := eI) (sz := 1) [ts[u].2] HU (.val .nil) (fun _ => rfl) HU HW).trans Gn) ?_
        refine Gc bxA memB ?_
        refine Gf (i := 11) HV HU HU (fun _ => ?_)
        refine Gx (i := 1) (enc := eI) (lst := (ms ++ ts.take u).map (·.2)) (lst2 := [ts[u].2]) HU HU HU HU memA (fun x d hd v hv => GY hd hv) (fun _ => rfl) (by simp only [List.length_map, List.length_cons, List.length_nil]; omega) (by simp only [List.length_map, List.length_cons, List.length_nil]; omega) (fun a119 k119 z119 => ?_)
        simp only [List.set_cons_zero, List.set_cons_succ]
        refine Gc bxA memB ?_
        refine Gf (i := 13) HV HU HU (fun _ => ?_)
        refine Gs HU HU HU ?_
        refine Gr HU ?_
        refine qt [14] ?_
        refine Gf (i := 15) HV HU HU (fun _ => ?_)
        refine Gs HU HU HU ?_
        refine Gr HU ?_
        refine Gm HV ?_
        refine qs 6 ?_
        rw [e3, e4]
        exact Gl (u + 1, (a113, k113, z113), (a119, k119, z119)) (by simp only; omega) (by simp only; omega) srA (Sub.drop.trans subF)
       refine Gw (cs := [S ts[u].1, .int .i64 ts[u].2]) HU HU ?_
       refine Gc bxA memB ?_
       refine Hj (i := 5) (j := 10) HV HU HU HU HU (fun _ => ?_) (fun _ => ?_)
       ·refine Gx (i := 2) (enc := eS) (lst := (ms ++ ts.take u).map (·.1)) (lst2 := [ts[u].1]) HU HU HU HU memA (fun x d hd v hv => Hx hd hv) (fun _ => rfl) (by simp only [List.length_map, List.length_cons, List.length_nil]; omega) (by simp only [List.length_map, List.length_cons, List.length_nil]; omega) (fun a113 k113 z113 => ?_)
        simp only [List.set_cons_zero, List.set_cons_succ]
        refine Gc bxA memB ?_
        refine qt [12] ?_
        refine Gf (i := 10) HV HU HU (fun _ => ?_)
        refine Gi HU HU HU HU HU (fun b118 => ?_)
        refine Gz ((GP (i := 0) (k := 1) (enc := eI) (sz := 1) [ts[u].2] HU (.val .nil) (fun _ => rfl) HU HW).trans Gn) ?_
        refine Gc bxA memB ?_
        refine Gf (i := 11) HV HU HU (fun _ => ?_)
        refine Gx (i := 1) (enc := eI) (lst := (ms ++ ts.take u).map (·.2)) (lst2 := [ts[u].2]) HU HU HU HU memA (fun x d hd v hv => GY hd hv) (fun _ => rfl) (by simp only [List.length_map, List.length_cons, List.length_nil]; omega) (by simp only [List.length_map, List.length_cons, List.length_nil]; omega) (fun a119 k119 z119 => ?_)
        simp only [List.set_cons_zero, List.set_cons_succ]
        refine Gc bxA memB ?_
        refine Gf (i := 13) HV HU HU (fun _ => ?_)
        refine Gs HU HU HU ?_
        refine Gr HU ?_
        refine qt [14] ?_
        refine Gf (i := 15) HV HU HU (fun _ => ?_)
        refine Gs HU HU HU ?_
        refine Gr HU ?_
        refine Gm HV ?_
        refine qs 6 ?_
        rw [e3, e4]
        exact Gl (u + 1, (a113, k113, z113), (a119, k119, z119)) (by simp only; omega) (by simp only; omega) srA (Sub.drop.trans subF)
       refine Gi HU HU HU HU HU (fun b118 => ?_)
       refine Gz ((GP (i := 0) (k := 1) (enc := eI) (sz := 1) [ts[u].2] HU (.val .nil) (fun _ => rfl) HU HW).trans Gn) ?_
       refine Gc bxA memB ?_
       refine Gf (i := 5) HV HU HU (fun _ => ?_)
       refine Gx (i := 2) (enc := eS) (lst := (ms ++ ts.take u).map (·.1)) (lst2 := [ts[u].1]) HU HU HU HU memA (fun x d hd v hv => Hx hd hv) (fun _ => rfl) (by simp only [List.length_map, List.length_cons, List.length_nil]; omega) (by simp only [List.length_map, List.length_cons, List.length_nil]; omega) (fun a113 k113 z113 => ?_)
       simp only [List.set_cons_zero, List.set_cons_succ]
       refine Gc bxA memB ?_
       refine qt [12] ?_
       refine Gf (i := 11) HV HU HU (fun _ => ?_)
       refine Gx (i := 1) (enc := eI) (lst := (ms ++ ts.take u).map (·.2)) (lst2 := [ts[u].2]) HU HU HU HU memA (fun x d hd v hv => GY hd hv) (fun _ => rfl) (by simp only [List.length_map, List.length_cons, List.length_nil]; omega) (by simp only [List.length_map, List.length_cons, List.length_nil]; omega) (fun a119 k119 z119 => ?_)
       simp only [List.set_cons_zero, List.set_cons_succ]
       refine Gc bxA memB ?_
       refine Gf (i := 13) HV HU HU (fun _ => ?_)
       refine Gs HU HU HU ?_
       refine Gr HU ?_
       refine qt [14] ?_
       refine Gf (i := 15) HV HU HU (fun _ => ?_)
       refine Gs HU HU HU ?_
       refine Gr HU ?_
       refine Gm HV ?_
       refine qs 6 ?_
       rw [e3, e4]
       exact Gl (u + 1, (a113, k113, z113), (a119, k119, z119)) (by simp only; omega) (by simp only; omega) srA (Sub.drop.trans subF)
      refine Gw (cs := [S ts[u].1, .int .i64 ts[u].2]) HU HU ?_
      refine Gc bxA memB ?_
      refine Hj (i := 4) (j := 10) HV HU HU HU HU (fun _ => ?_) (fun _ => ?_)
      ·refine Gi HU HU HU HU HU (fun b112 => ?_)
       refine Gz ((GP (i := 0) (k := 1) (enc := eS) (sz := 1) [ts[u].1] HU (.val .nil) (fun _ => rfl) HU HW).trans Gn) ?_
       refine Gc bxA memB ?_
       refine Hj (i := 5) (j := 10) HV HU HU HU HU (fun _ => ?_) (fun _ => ?_)
       ·refine Gx (i := 2) (enc := eS) (lst := (ms ++ ts.take u).map (·.1)) (lst2 := [ts[u].1]) HU HU HU HU memA (fun x d hd v hv => Hx hd hv) (fun _ => rfl) (by simp only [List.length_map, List.length_cons, List.length_nil]; omega) (by simp only [List.length_map, List.length_cons, List.length_nil]; omega) (fun a113 k113 z113 => ?_)
        simp only [List.set_cons_zero, List.set_cons_succ]
        refine Gc bxA memB ?_
        refine qt [12] ?_
        refine Gf (i := 10) HV HU HU (fun _ => ?_)
        refine Gi HU HU HU HU HU (fun b118 => ?_)
        refine Gz ((GP (i := 0) (k := 1) (enc := eI) (sz := 1) [ts[u].2] HU (.val .nil) (fun _ => rfl) HU HW).trans Gn) ?_
        refine Gc bxA memB ?_
        refine Gf (i := 11) HV HU HU (fun _ => ?_)
        refine Gx (i := 1) (enc := eI) (lst := (ms ++ ts.take u).map (·.2)) (lst2 := [ts[u].2]) HU HU HU HU memA (fun x d hd v hv => GY hd hv) (fun _ => rfl) (by simp only [List.length_map, List.length_cons, List.length_nil]; omega) (by simp only [List.length_map, List.length_cons, List.length_nil]; omega) (fun a119 k119 z119 => ?_)
        simp only [List.set_cons_zero, List.set_cons_succ]
        refine Gc bxA memB ?_
        refine Gf (i := 13) HV HU HU (fun _ => ?_)
        refine Gs HU HU HU ?_
        refine Gr HU ?_
        refine qt [14] ?_
        refine Gf (i := 15) HV HU HU (fun _ => ?_)
        refine Gs HU HU HU ?_
        refine Gr HU ?_
        refine Gm HV ?_
        refine qs 6 ?_
        rw [e3, e4]
        exact Gl (u + 1, (a113, k113, z113), (a119, k119, z119)) (by simp only; omega) (by simp only; omega) srA (Sub.drop.trans subF)
       refine Gi HU HU HU HU HU (fun b118 => ?_)
       refine Gz ((GP (i := 0) (k := 1) (enc := eI) (sz := 1) [ts[u].2] HU (.val .nil) (fun _ => rfl) HU HW).trans Gn) ?_
       refine Gc bxA memB ?_
       refine Gf (i := 5) HV HU HU (fun _ => ?_)
       refine Gx (i := 2) (enc := eS) (lst := (ms ++ ts.take u).map (·.1)) (lst2 := [ts[u].1]) HU HU HU HU memA (fun x d hd v hv => Hx hd hv) (fun _ => rfl) (by simp only [List.length_map, List.length_cons, List.length_nil]; omega) (by simp only [List.length_map, List.length_cons, List.length_nil]; omega) (fun a113 k113 z113 => ?_)
       simp only [List.set_cons_zero, List.set_cons_succ]
       refine Gc bxA memB ?_
       refine qt [12] ?_
       refine Gf (i := 11) HV HU HU (fun _ => ?_)
       refine Gx (i := 1) (enc := eI) (lst := (ms ++ ts.take u).map (·.2)) (lst2 := [ts[u].2]) HU HU HU HU memA (fun x d hd v hv => GY hd hv) (fun _ => rfl) (by simp only [List.length_map, List.length_cons, List.length_nil]; omega) (by simp only [List.length_map, List.length_cons, List.length_nil]; omega) (fun a119 k119 z119 => ?_)
       simp only [List.set_cons_zero, List.set_cons_succ]
       refine Gc bxA memB ?_
       refine Gf (i := 13) HV HU HU (fun _ => ?_)
       refine Gs HU HU HU ?_
       refine Gr HU ?_
       refine qt [14] ?_
       refine Gf (i := 15) HV HU HU (fun _ => ?_)
       refine Gs HU HU HU ?_
       refine Gr HU ?_
       refine Gm HV ?_
       refine qs 6 ?_
       rw [e3, e4]
       exact Gl (u + 1, (a113, k113, z113), (a119, k119, z119)) (by simp only; omega) (by simp only; omega) srA (Sub.drop.trans subF)
      refine Gi HU HU HU HU HU (fun b118 => ?_)
      refine Gz ((GP (i := 0) (k := 1) (enc := eI) (sz := 1) [ts[u].2] HU (.val .nil) (fun _ => rfl) HU HW).trans Gn) ?_
      refine Gc bxA memB ?_
      refine Gf (i := 4) HV HU HU (fun _ => ?_)
      refine Gi HU HU HU HU HU (fun b112 => ?_)
      refine Gz ((GP (i := 0) (k := 1) (enc := eS) (sz := 1) [ts[u].1] HU (.val .nil) (fun _ => rfl) HU HW).trans Gn) ?_
      refine Gc bxA memB ?_
      refine Gf (i := 5) HV HU HU (fun _ => ?_)
      refine Gx (i := 2) (enc := eS) (lst := (ms ++ ts.take u).map (·.1)) (lst2 := [ts[u].1]) HU HU HU HU memA (fun x d hd v hv => Hx hd hv) (fun _ => rfl) (by simp only [List.length_map, List.length_cons, List.length_nil]; omega) (by simp only [List.length_map, List.length_cons, List.length_nil]; omega) (fun a113 k113 z113 => ?_)
      simp only [List.set_cons_zero, List.set_cons_succ]
      refine Gc bxA memB ?_
      refine qt [12] ?_
      refine Gf (i := 11) HV HU HU (fun _ => ?_)
      refine Gx (i := 1) (enc := eI) (lst := (ms ++ ts.take u).map (·.2)) (lst2 := [ts[u].2]) HU HU HU HU memA (fun x d hd v hv => GY hd hv) (fun _ => rfl) (by simp only [List.length_map, List.length_cons, List.length_nil]; omega) (by simp only [List.length_map, List.length_cons, List.length_nil]; omega) (fun a119 k119 z119 => ?_)
      simp only [List.set_cons_zero, List.set_cons_succ]
      refine Gc bxA memB ?_
      refine Gf (i := 13) HV HU HU (fun _ => ?_)
      refine Gs HU HU HU ?_
      refine Gr HU ?_
      refine qt [14] ?_
      refine Gf (i := 15) HV HU HU (fun _ => ?_)
      refine Gs HU HU HU ?_
      refine Gr HU ?_
      refine Gm HV ?_
      refine qs 6 ?_
      rw [e3, e4]
      exact Gl (u + 1, (a113, k113, z113), (a119, k119, z119)) (by simp only; omega) (by simp only; omega) srA (Sub.drop.trans subF)
     refine qs 8 ?_
     obtain rfl : u = ts.length := by omega
     rw [List.take_length]
     refine HF (SubR.refl _) (GH (i := 0) HU) ?_
     refine HF (SubR.refl _) (GH (i := 1) HU) ?_
     simp only [List.set_cons_zero, List.set_cons_succ]
     refine HF (SubR.refl _) (Sub.drop.trans Gn) ?_
     refine qs 2 ?_
     refine GO (fun _ => false) [(ba, _, _), (b15, _, _)] bxA HU (fun hx hX => ?_)
     refine qt [0, 1, 2, 3, 4] ?_
     refine Gf (i := 5) HV HU HU (fun _ => ?_)
     refine Gd HU HU (tput_c g T1 N hu1.1 hno (mtT T[i.toNat] T[kk.toNat] ms ts) hok2 (fun h8 => absurd h8 (show ¬ ((7 : Int) = 8) by decide)) (show fL T1 aT kT cT ∈ _ from memA) (show fN N a2 k2 c2 ∈ _ from memA) (show fW (mtT T[i.toNat] T[kk.toNat] ms ts) _ _ _ ∈ _ from memA) (show fK (mtT T[i.toNat] T[kk.toNat] ms ts) _ _ _ ∈ _ from memA) (fun e l' j he hA => ?_) (fun l' j ax kx cx hA => ?_))
     all_goals refine Gc bxA memB ?_
     ·refine qt [6, 7, 8] ?_
      refine Gf (i := 9) HV HU HU (fun _ => ?_)
      refine GA HU HU HU HU ?_
      refine Gc bxA memB ?_
      refine qt [10, 11] ?_
      refine Gm HV ?_
      refine qs 2 ?_
      exact GS (rs := [.cell 6 _, .tmp 7, .tmp 8]) (L' := L) (F' := fL [] none 0 0 :: fN [] none 0 0 :: F) Tryz.results37 (.agg (j := 6) rfl rfl rfl (.tmp rfl (.tmp rfl .nil))) (by repeat (first | exact Gg (mem2 memA memA (fun x hx => by repeat (first | exact hx | refine List.mem_cons_of_mem _ ?_))) | refine GR Gn ?_)) (h [] [] 0 e _ _ _ _ _ _ (.inl ⟨he, rfl, rfl, rfl, .inr ⟨hg, .inr ⟨⟨hf1, hf2⟩, .inr (.inr ⟨T1, ts, ms, l', j, by rw [hie, hce]; exact hcom, by rw [hie, hce]; exact hsr, by rw [hie, hce]; exact hA⟩)⟩⟩⟩))
     refine qt [6, 7, 8] ?_
     refine Gf (i := 9) HV HU HU (fun _ => ?_)
     refine GA HU HU HU HU ?_
     refine Gc bxA memB ?_
     refine qt [10, 11] ?_
     refine Gm HV ?_
     refine qs 2 ?_
     exact GS (rs := [.cell 6 _, .tmp 7, .tmp 8]) (L' := L) (F' := fL l' ax kx cx :: fN N a2 k2 c2 :: F) Tryz.results37 (.agg (j := 6) rfl rfl rfl (.tmp rfl (.tmp rfl .nil))) (by repeat (first | exact Gg (mem2 memA memA (fun x hx => by repeat (first | exact hx | refine List.mem_cons_of_mem _ ?_))) | refine GR Gn ?_)) (h l' N j 0 _ _ _ _ _ _ (.inr ⟨rfl, rfl, hg, ⟨hf1, hf2⟩, by rw [hie, hce]; exact hcl, T1, ts, ms, by rw [hie, hce]; exact hcom, by rw [hie, hce]; exact hsr, by rw [hie, hce]; exact hA⟩))
    refine qs 7 ?_
    refine Ga (Gu HU HU ?_)
    refine qs 1 ?_
    refine Ga (Gw (cs := aCells aT kT cT a2 k2 c2 none 0 0 bm e) HU HU ?_ (i := 3) (hi := HU) (hv := HU))
    refine Ga (GK HU HU HU (fun _ => ?_) (fun c75 => absurd c75 he))
    refine qs 4 ?_
    refine GO (fun _ => false) [(ba, _, _)] bxA HU (fun hx hX => ?_)
    refine qt [0, 1, 2, 3, 4] ?_
    refine Gf (i := 5) HV HU HU (fun _ => ?_)
    refine GA HU HU HU HU ?_
    refine Gc bxA memB ?_
    refine qt [6, 7] ?_
    refine Gm HV ?_
    refine qs 3 ?_
    exact GS (rs := [.cell 6 _, .tmp 7, .tmp 8]) (L' := L) (F' := fL [] none 0 0 :: fN [] none 0 0 :: F) Tryz.results37 (.agg (j := 6) rfl rfl rfl (.tmp rfl (.tmp rfl .nil))) (by repeat (first | exact Gg (mem2 memA memA (fun x hx => by repeat (first | exact hx | refine List.mem_cons_of_mem _ ?_))) | refine GR Gn ?_)) (h [] [] 0 e _ _ _ _ _ _ (.inl ⟨he, rfl, rfl, rfl, .inr ⟨hg, .inr ⟨⟨hf1, hf2⟩, .inr (.inl (by rw [hie, hce]; exact hcom))⟩⟩⟩))
   refine qs 17 ?_
   refine Ga (GI HU HU HU ?_)
   refine qs 7 ?_
   exact GS (rs := [.cell 6 _, .tmp 7, .tmp 8]) (L' := L) (F' := fL [] none 0 0 :: fN [] none 0 0 :: F) Tryz.results37 (.agg (j := 5) rfl rfl rfl (.tmp rfl (.tmp rfl .nil))) (by repeat (first | exact Gg (mem2 memA memA (fun x hx => by repeat (first | exact hx | refine List.mem_cons_of_mem _ ?_))) | refine GR Gn ?_)) (h [] [] 0 9 _ _ _ _ _ _ (.inl ⟨by decide, rfl, rfl, rfl, .inr ⟨hg, .inr ⟨⟨hf1, hf2⟩, .inl (by rw [hie, hce]; exact hcl)⟩⟩⟩))
  refine GO (fun _ => false) [(b3, _, _)] bxA HU (fun hx hX => ?_)
  obtain ⟨pa, oa, ea, ata⟩ := GG (hX (fL T a k c) memA) hin
  subst ea
  obtain ⟨w1, x1, y1, w2, x2, y2, hv1, hw1, hw2⟩ := ty_cells ata
  obtain ⟨pb, ob, eb, atb⟩ := GG (hX (fL T _ k c) memA) hcn
  cases eb
  have hkT := (Gy (hX (fL T _ k c) memA)).1
  obtain ⟨w3, x3, y3, w4, x4, y4, hv2, hw3, hw4⟩ := ty_cells atb
  refine Hv hw1 memA (Hv hw2 memA (Hv hw3 memA (Hv hw4 memA ?_)))
  refine qt [0, 1, 2] ?_
  refine GF (i := 3) HU (GM (k := i.toNat) HU HU HW HW) HV HU HU ?_
  refine GV (i := 4) HU (HJ HU HU hv1) HV HV HU HU HU ?_
  refine qt [5, 6, 7] ?_
  refine GF (i := 8) HU (GM (k := kk.toNat) HU HU HW HW) HV HU HU ?_
  refine GV (i := 9) HU (HJ HU HU hv2) HV HV HU HU HU ?_
  refine Hj (i := 10) (j := 11) HV HU HU HU HU (fun _ => ?_) (fun _ => ?_)
  ·refine Gq HU (fun b11 => ?_)
   refine Gc bxA memB ?_
   refine Gf (i := 11) HV HU HU (fun _ => ?_)
   refine Gq HU (fun b12 => ?_)
   refine Gc bxA memB ?_
   refine Gf (i := 12) HV HU HU (fun _ => ?_)
   refine GA HU HU HU HU ?_
   refine Gc bxA memB ?_
   refine Gf (i := 13) HV HU HU (fun _ => ?_)
   refine GA HU HU HU HU ?_
   refine Gc bxA memB ?_
   refine Gm HV ?_
   first | exact HF srA (Gg (mem2 memA memA (mem2 memA memA (fun x hx => by repeat (first | exact hx | refine List.mem_cons_of_mem _ ?_))))) (key (b11, b12, (w1, x1, y1), (w2, x2, y2), (w3, x3, y3), (w4, x4, y4))) | exact HF srA (Sub.swap2.trans (Gg (mem2 memA memA (mem2 memA memA (fun x hx => by repeat (first | exact hx | refine List.mem_cons_of_mem _ ?_)))))) (key (b11, b12, (w1, x1, y1), (w2, x2, y2), (w3, x3, y3), (w4, x4, y4)))
  refine Gq HU (fun b12 => ?_)
  refine Gc bxA memB ?_
  refine Gf (i := 10) HV HU HU (fun _ => ?_)
  refine Gq HU (fun b11 => ?_)
  refine Gc bxA memB ?_
  refine Gf (i := 12) HV HU HU (fun _ => ?_)
  refine GA HU HU HU HU ?_
  refine Gc bxA memB ?_
  refine Gf (i := 13) HV HU HU (fun _ => ?_)
  refine GA HU HU HU HU ?_
  refine Gc bxA memB ?_
  refine Gm HV ?_
  first | exact HF srA (Gg (mem2 memA memA (mem2 memA memA (fun x hx => by repeat (first | exact hx | refine List.mem_cons_of_mem _ ?_))))) (key (b11, b12, (w1, x1, y1), (w2, x2, y2), (w3, x3, y3), (w4, x4, y4))) | exact HF srA (Sub.swap2.trans (Gg (mem2 memA memA (mem2 memA memA (fun x hx => by repeat (first | exact hx | refine List.mem_cons_of_mem _ ?_)))))) (key (b11, b12, (w1, x1, y1), (w2, x2, y2), (w3, x3, y3), (w4, x4, y4)))
end
end Go.Sy
namespace Go.Sy
open Go Go.Proofs Go.RowKit
attribute [local irreducible] AC AT AO AK AH ACalls Sub Res.cells Res.obj Res.nix Res.own Res.map Exit.then Exit.inBlock bodyPost Code.wp Code.wpIn WL Next Post Kont
section
variable {W0 : World} {L : List Res} {F : List Fact} {R : Value → List Res → List Fact → Prop}
set_option maxRecDepth 100000
set_option maxHeartbeats 16000000
end
end Go.Sy
namespace Go.Sy
open Go Go.Proofs Go.RowKit
attribute [local irreducible] AC AT AO AK AH ACalls Sub Res.cells Res.obj Res.nix Res.own Res.map Exit.then Exit.inBlock bodyPost Code.wp Code.wpIn WL Next Post Kont
section
variable {W0 : World}
set_option maxRecDepth 100000
set_option maxHeartbeats 16000000
end
end Go.Sy
namespace Go.Sy
open Go Go.Proofs Go.RowKit
attribute [local irreducible] AC AT AO AK AH ACalls Sub Res.cells Res.obj Res.nix Res.own Res.map Exit.then Exit.inBlock bodyPost Code.wp Code.wpIn WL Next Post Kont
section
variable {W0 : World} {L : List Res} {F : List Fact} {R : Value → List Res → List Fact → Prop}
set_option maxRecDepth 100000
set_option maxHeartbeats 16000000
end
end Go.Sy
namespace Go.Sy
open Go Go.Proofs Go.RowKit
attribute [local irreducible] AC AT AO AK AH ACalls Sub Res.cells Res.obj Res.nix Res.own Res.map Exit.then Exit.inBlock bodyPost Code.wp Code.wpIn WL Next Post Kont
section
variable {W0 : World} {L : List Res} {F : List Fact} {R : Value → List Res → List Fact → Prop}
set_option maxRecDepth 100000
set_option maxHeartbeats 16000000
theorem there14_c (T : List Ty) (i : Int) {a a2 : Option Addr} {k c k2 c2 : Nat} (mL : fL T a k c ∈ F) (hT : 0 ≤ i ∧ i < T.length → R (.bool true) L F) (hF : ¬(0 ≤ i ∧ i < T.length) → R (.bool false) L F) : ACalls Tryz.prog W0 34 #[.agg #[.slice a k c, .slice a2 k2 c2], .int .i64 i] L F R := by
  refine Ge Tryz.func34 HU Tryz.ntmps34 HU ?_
  refine qs 2 ?_
  refine Ga (GJ HU HU (fun b2 => ?_))
  refine qs 6 ?_
  refine Ga (Hh HU HU HU (fun c6 => ?_) (fun c6 => ?_))
  ·refine qs 4 ?_
   refine Gh HU HU (Gv HU HU (fun hl11 => ?_) (enc := eTy) (lst := T) (hm := (show fL T a k c ∈ _ from memA)))
   refine Gh HU HU (GB HU HU HU (fun c12 => ?_) (fun c12 => ?_))
   ·refine qs 5 ?_
    exact Gb (L' := L) (F' := F) Tryz.results34 rfl subA (hT HW)
   refine qs 5 ?_
   exact Gb (L' := L) (F' := F) Tryz.results34 rfl subA (hF HW)
  refine qs 11 ?_
  exact Gb (L' := L) (F' := F) Tryz.results34 rfl subA (hF HW)
theorem tfew14_c (l : List Ty) (N : List Nmd) {a a2 : Option Addr} {k c k2 c2 : Nat} (m1 : fL l a k c ∈ F) (m2 : fN N a2 k2 c2 ∈ F) (h : ∀ a k c a2 k2 c2, R (.agg #[.slice a k c, .slice a2 k2 c2]) L (fL (fewS l 70) a k c :: fN (fewN N 20) a2 k2 c2 :: F)) : ACalls Tryz.prog W0 29 #[.agg #[.slice a k c, .slice a2 k2 c2]] L F R := by
  refine Ge Tryz.func29 HU Tryz.ntmps29 HU ?_
  refine qs 2 ?_
  refine Ga (GJ HU HU (fun b1 => (Ga (Gq HU (fun b2 => ?_)))))
  refine qs 5 ?_
  refine Ga (Gq HU (fun b3 => ?_))
  refine qs 10 ?_
  refine Ga (Gv HU HU (fun hl13 => ?_) (enc := eTy) (lst := l) (hm := memA))
  refine Ga (AO.min HU HU HU ?_)
  refine Ga (AO.sliceH (j' := min l.length 70) HU HU HU HW (enc := eTy) (lst := l) memA HW (fun a15 k15 c15 => ?_))
  refine Ga (Gv HU HU (fun hl16 => ?_) (enc := eTy) (lst := l.take (min l.length 70)) (hm := memA))
  refine qs 4 ?_
  have hfew : fewS l 70 = (l.take (min l.length 70)).map oneS := rfl
  have hwl : (l.take (min l.length 70)).length ≤ 70 := by simp only [List.length_take]; omega
  generalize l.take (min l.length 70) = l' at hwl hfew ⊢
  refine GN (fun (i : Nat × Option Addr × Nat × Nat) => i.1 ≤ l'.length) (fun i => [(1, .pointer (some ⟨b1, 0, none⟩)), (2, .pointer (some ⟨b2, 0, none⟩)), (3, .pointer (some ⟨b3, 0, none⟩)), (15, .slice a15 k15 c15), (16, .int .i64 l'.length), (17, .int .i64 (i.1 : Int))]) (fun i => Res.own (.slice i.2.1 i.2.2.1 i.2.2.2) 29 5 (((l'.take i.1).map oneS).map eTy) :: Res.cells b3 #[.slice i.2.1 i.2.2.1 i.2.2.2, .slice none 0 0] _ :: _) (fun _ => fL l' a15 k15 c15 :: F) (fun i => l'.length - i.1) (0, none, 0, 0) (by simp) srA Ha ?_
  rintro ⟨q, a3, k3, c3⟩ hq
  simp only at hq ⊢
  refine qs 2 ?_
  refine Ga (GB HU HU HU (fun c18 => ?_) (fun c18 => ?_))
  ·refine qs 10 ?_
   have hql : q < l'.length := by omega
   refine Ga (Gj HU HU HU HU (enc := eTy) (lst := l') memA hql (fun _ _ => ?_))
   refine Ga (GU HU HU ?_)
   intro a18 k18 z18 d18 e18 f18
   refine Ga (Gq HU (fun b5 => ?_))
   refine qs 4 ?_
   refine GO (fun i => Nat.beq i 22 || Nat.beq i 24 || Nat.beq i 26) [(b5, _, _)] bxA HU (fun hx hX => ?_)
   have hk1 := (Gy (hX (fW l'[q] a18 k18 z18) memA)).1
   have hk2 := (Gy (hX (fK l'[q] d18 e18 f18) memA)).1
   have hc1 := (Gy (hX (fW l'[q] a18 k18 z18) memA)).2
   have hc2 := (Gy (hX (fK l'[q] d18 e18 f18) memA)).2
   subst hk1 hk2
   refine AH.weak (Sub.part (enc := eS) (lst := l'[q].words) 0 (min l'[q].words.length 18) z18 (show fW l'[q] _ _ z18 ∈ _ from memA) HW HW HW HW) ?_
   refine AH.weak (Sub.part (enc := eI) (lst := l'[q].kids) 0 (min l'[q].kids.length 18) f18 (show fK l'[q] _ _ f18 ∈ _ from memA) HW HW HW HW) ?_
   refine qt [0, 1, 2, 3, 4, 5] ?_
   refine GF (i := 6) HU (Y.sliceSH (j' := min l'[q].name.length 50) HU HU HW HW) HV HU HU ?_
   refine qt [7, 8, 9, 10, 11, 12] ?_
   refine GF (i := 13) HU (Y.sliceH (j' := min l'[q].words.length 18) HU HU HW HW) HV HU HU ?_
   refine qt [14, 15, 16, 17, 18, 19] ?_
   refine GF (i := 20) HU (Y.sliceH (j' := min l'[q].kids.length 18) HU HU HW HW) HV HU HU ?_
   refine qt [21] ?_
   refine Gf (i := 22) HV HU HU (fun _ => ?_)
   refine Gs HU HU HU ?_
   refine Gr HU ?_
   refine qt [23] ?_
   refine Gf (i := 24) HV HU HU (fun _ => ?_)
   refine Gs HU HU HU ?_
   refine Gr HU ?_
   refine qt [25] ?_
   refine Gf (i := 26) HV HU HU (fun _ => ?_)
   refine Gs HU HU HU ?_
   refine Gr HU ?_
   refine Gm HV ?_
   refine qs 5 ?_
   refine Ga (Gi HU HU HU HU HU (fun b48 => ?_))
   have htl : ((l'.take q).map oneS).length = q := by rw [List.length_map, List.length_take]; omega
   refine Ga (GZ (i := 1) (enc := eTy) (lst := (l'.take q).map oneS) [oneS l'[q]] HU HU HU HU (.val (.val (.val (.slc (.slc .nil memA) memA)))) HU HU (fun _ => rfl) (by rw [htl]; simp only [maxLen]; omega) (by rw [htl]; omega) (fun a49 k49 c49 => ?_))
   rw [fewS_step hql]
   refine qs 9 ?_
   refine Gl (q + 1, a49, k49, c49) (by simp only; omega) (by simp only; omega) srA (Sub.drop.trans subF)
  refine qs 13 ?_
  have hall : l'.take q = l' := List.take_of_length_le HW
  rw [hall]
  refine Gz ((GH (i := 0) HU).trans Gn) ?_
  refine Ga (Gw HU HU ?_)
  refine qs 2 ?_
  refine Ga (Gv HU HU (fun hl56 => ?_) (enc := eNm) (lst := N) (hm := memA))
  refine Ga (AO.min HU HU HU ?_)
  refine Ga (AO.sliceH (j' := min N.length 20) HU HU HU HW (enc := eNm) (lst := N) memA HW (fun a58 k58 c58 => ?_))
  refine Ga (Gv HU HU (fun hl59 => ?_) (enc := eNm) (lst := N.take (min N.length 20)) (hm := memA))
  refine qs 4 ?_
  have hfewN : fewN N 20 = (N.take (min N.length 20)).map oneN := rfl
  have hwN : (N.take (min N.length 20)).length ≤ 20 := by simp only [List.length_take]; omega
  generalize N.take (min N.length 20) = N' at hwN hfewN ⊢
  refine GN (fun (i : Nat × Option Addr × Nat × Nat) => i.1 ≤ N'.length) (fun i => [(2, .pointer (some ⟨b2, 0, none⟩)), (3, .pointer (some ⟨b3, 0, none⟩)), (58, .slice a58 k58 c58), (59, .int .i64 N'.length), (60, .int .i64 (i.1 : Int))]) (fun i => Res.own (.slice i.2.1 i.2.2.1 i.2.2.2) 78 4 (((N'.take i.1).map oneN).map eNm) :: Res.cells b3 #[.slice a3 k3 c3, .slice i.2.1 i.2.2.1 i.2.2.2] _ :: _) (fun _ => fN N' a58 k58 c58 :: fL (l'.map oneS) a3 k3 c3 :: F) (fun i => N'.length - i.1) (0, none, 0, 0) (by simp) srA (Sub.ownNil.trans (Gg (mem2 memA memA (fun x hx => by repeat (first | exact hx | refine List.mem_cons_of_mem _ ?_))))) ?_
  rintro ⟨w, a4, k4, c4⟩ hw
  simp only at hw ⊢
  refine qs 2 ?_
  refine Ga (GB HU HU HU (fun c61 => ?_) (fun c61 => ?_))
  ·refine qs 10 ?_
   have hwl' : w < N'.length := by omega
   refine Ga (Gj HU HU HU HU (enc := eNm) (lst := N') memA hwl' (fun _ _ => ?_))
   refine Ga (GU HU HU ?_)
   intro a63 k63 z63 d63 e63 f63
   refine Ga (Gq HU (fun b7 => ?_))
   refine qs 4 ?_
   refine GO (fun i => Nat.beq i 22 || Nat.beq i 24 || Nat.beq i 26) [(b7, _, _)] bxA HU (fun hx hX => ?_)
   have hk1 := (Gy (hX (fBd N'[w] a63 k63 z63) memA)).1
   have hk2 := (Gy (hX (fMs N'[w].methods d63 e63 f63) memA)).1
   have hc1 := (Gy (hX (fBd N'[w] a63 k63 z63) memA)).2
   have hc2 := (Gy (hX (fMs N'[w].methods d63 e63 f63) memA)).2
   subst hk1 hk2
   refine AH.weak (Sub.part (enc := eI) (lst := N'[w].bounds) 0 (min N'[w].bounds.length 18) z63 (show fBd N'[w] _ _ z63 ∈ _ from memA) HW HW HW HW) ?_
   refine AH.weak (Sub.part (enc := eMt) (lst := N'[w].methods) 0 (min N'[w].methods.length 18) f63 (show fMs N'[w].methods _ _ f63 ∈ _ from memA) HW HW HW HW) ?_
   refine qt [0, 1, 2, 3, 4, 5] ?_
   refine GF (i := 6) HU (Y.sliceSH (j' := min N'[w].name.length 50) HU HU HW HW) HV HU HU ?_
   refine qt [7, 8, 9, 10, 11, 12] ?_
   refine GF (i := 13) HU (Y.sliceH (j' := min N'[w].bounds.length 18) HU HU HW HW) HV HU HU ?_
   refine qt [14, 15, 16, 17, 18, 19] ?_
   refine GF (i := 20) HU (Y.sliceH (j' := min N'[w].methods.length 18) HU HU HW HW) HV HU HU ?_
   refine qt [21] ?_
   refine Gf (i := 22) HV HU HU (fun _ => ?_)
   refine Gs HU HU HU ?_
   refine Gr HU ?_
   refine qt [23] ?_
   refine Gf (i := 24) HV HU HU (fun _ => ?_)
   refine Gs HU HU HU ?_
   refine Gr HU ?_
   refine qt [25] ?_
   refine Gf (i := 26) HV HU HU (fun _ => ?_)
   refine Gs HU HU HU ?_
   refine Gr HU ?_
   refine Gm HV ?_
   refine qs 5 ?_
   refine Ga (Gi HU HU HU HU HU (fun b91 => ?_))
   have htl : ((N'.take w).map oneN).length = w := by rw [List.length_map, List.length_take]; omega
   refine Ga (GZ (i := 1) (enc := eNm) (lst := (N'.take w).map oneN) [oneN N'[w]] HU HU HU HU (.val (.slc (.val (.slc .nil memA)) memA)) HU HU (fun _ => rfl) (by rw [htl]; simp only [maxLen]; omega) (by rw [htl]; omega) (fun a92 k92 c92 => ?_))
   rw [fewN_step hwl']
   refine qs 9 ?_
   refine Gl (w + 1, a92, k92, c92) (by simp only; omega) (by simp only; omega) srA (Sub.drop.trans subF)
  refine qs 11 ?_
  have hallN : N'.take w = N' := List.take_of_length_le HW
  rw [hallN]
  refine Gz ((GH (i := 0) HU).trans Gn) ?_
  refine Ga (AO.loadBA HU HU ?_)
  refine qs 4 ?_
  rw [hfew, hfewN] at h
  exact GS (rs := [.cell 2 _]) (L' := L) (F' := fL (l'.map oneS) a3 k3 c3 :: fN (N'.map oneN) a4 k4 c4 :: F) Tryz.results29 (.agg (j := 1) rfl rfl rfl .nil) (Sub.drop.trans (Sub.drop.trans (Sub.drop.trans (Gg (mem2 memA memA (fun x hx => by repeat (first | exact hx | refine List.mem_cons_of_mem _ ?_))))))) (h _ _ _ _ _ _)
theorem talive14_c (g : Glob W0) (h : R (.bool true) L F) : ACalls Tryz.prog W0 33 #[] L F R := by
  refine Hr ((HG (sz := 3)).trans ((HG (sz := 1)).trans ((HG (sz := 5)).trans (HG (sz := 4))))) ?_
  refine Ge Tryz.func33 HU Tryz.ntmps33 HU ?_
  refine qs 7 ?_
  refine Ga (Gd HU HU (rstartO_c (fun a7 k7 c7 => ?_)))
  refine Ga (GI HU HU HU ?_)
  refine Ga (Gi HU HU HU HU HU (fun b9 => ?_))
  refine Gz (GR (GP (i := 0) (enc := eS) (sz := 1) [[126]] HU (.val .nil) (fun _ => rfl) HU (by decide)) Gn) ?_
  refine Ga (Gi HU HU HU HU HU (fun b10 => ?_))
  refine Gz (GR (GP (i := 0) (enc := eI) (sz := 1) [2] HU (.val .nil) (fun _ => rfl) HU (by decide)) Gn) ?_
  refine Ga (GI HU HU HU ?_)
  refine Ga (Gi HU HU HU HU HU (fun b12 => ?_))
  refine Gz (GR (GP (i := 0) (enc := eS) (sz := 1) [[61]] HU (.val .nil) (fun _ => rfl) HU (by decide)) Gn) ?_
  refine Ga (Gi HU HU HU HU HU (fun b13 => ?_))
  refine Gz (GR (GP (i := 0) (enc := eI) (sz := 1) [2] HU (.val .nil) (fun _ => rfl) HU (by decide)) Gn) ?_
  refine Ga (GI HU HU HU ?_)
  refine Ga (Gi HU HU HU HU HU (fun b15 => ?_))
  refine Ga (GZ (i := 0) (enc := eTy) (lst := startL) [nmT0, tLo, tEq] HU HU HU HU (.val (.val (.val (.slc (.slc (.val (.val (.val (.slc (.slc (.val (.val (.val (.slc (.slc .nil memA) memA)))) memA) memA)))) memA) memA)))) HU HU (fun _ => rfl) (by decide) (by decide) (fun a16 k16 c16 => ?_))
  refine Gz ((GH (i := 0) HU).trans Gn) ?_
  refine qs 6 ?_
  refine Ga (GI HU HU HU ?_)
  refine Ga (Gi HU HU HU HU HU (fun b19 => ?_))
  refine Gz (GR (GP (i := 0) (enc := eNm) (sz := 4) [nmD] HU (.val (.slc (.val (.slc .nil memA)) memA)) (fun _ => rfl) HU (by decide)) Gn) ?_
  refine Ga (GI HU HU HU (Ga (Gq HU (fun b2 => ?_))))
  refine qs 6 ?_
  refine Ga (Gd HU HU (tHas_c g aliveT [nmD] (Hp aliveT_right) nmD_ok [] 22 23 (show fL aliveT _ _ _ ∈ _ from memA) (show fN [nmD] _ _ _ ∈ _ from memA) (show fI [] none 0 0 ∈ _ from memA) memA memA memA memA (fun is e hs => ?_)))
  obtain ⟨rfl, rfl⟩ := alive_yes hs
  refine qs 10 ?_
  refine Ga (Gd HU HU (tHas_c g aliveT [nmD] (Hp aliveT_right) nmD_ok [] 22 24 (show fL aliveT _ _ _ ∈ _ from memA) (show fN [nmD] _ _ _ ∈ _ from memA) (show fI [] none 0 0 ∈ _ from memA) memA memA memA memA (fun is e hs => ?_)))
  obtain ⟨rfl, rfl⟩ := alive_no hs
  refine qs 10 ?_
  refine Ga (GC HU HU HU (fun _ => ?_) (fun c32 => absurd HU c32))
  refine qs 2 ?_
  refine Gh HU HU (GC HU HU HU (fun _ => ?_) (fun c35 => absurd HU c35))
  refine qs 2 ?_
  refine Gh HU HU (AO.move HU HU ?_)
  refine qs 3 ?_
  refine Gh HU HU (AO.not HU HU ?_)
  refine qs 5 ?_
  exact Gb (L' := L) (F' := F) Tryz.results33 rfl subA h
end
end Go.Sy
namespace Go.Sy
open Go Go.Proofs Go.RowKit
section
variable {T : List Ty} {N : List Nmd} {B : List Int} {i c : Int} {is : Bool} {e e' : Int}
theorem goodA_of (hg : rightU T N ∧ bndP T B) (hi : 0 ≤ i ∧ i < T.length) (hc : 0 ≤ c ∧ c < T.length) : goodA T N B [i, c] := ⟨hg, fun p hp => by
  simp only [List.mem_cons, List.not_mem_nil, or_false] at hp
  rcases hp with rfl | rfl
  · exact hi
  exact hc⟩
theorem has_good (h : hasTP T N B i c is e) (hg : goodA T N B [i, c]) (h7 : (tyAt T c).kind = 7) : tellB (isR N B T i c) is e := by
  rcases h with ⟨_, h, _⟩ | ⟨_, ⟨h, _⟩ | ⟨_, h⟩⟩
  · exact (badA_good h hg).elim
  · exact absurd h7 h
  exact h
end
attribute [local irreducible] AC AT AO AK AH ACalls Sub Res.cells Res.obj Res.nix Res.own Res.map Exit.then Exit.inBlock bodyPost Code.wp Code.wpIn WL Next Post Kont
section
variable {W0 : World} {L : List Res} {F : List Fact} {R : Value → List Res → List Fact → Prop}
set_option maxRecDepth 100000
set_option maxHeartbeats 16000000
end
end Go.Sy
namespace Go.Sy
open Go Go.Proofs Go.RowKit
theorem meet_M {T X : List Ty} {N M : List Nmd} {a b m : Int} (h : meetP T N a b X M m 0) : M = N := by
  rcases h with ⟨h0, _⟩ | ⟨_, h, _⟩
  · exact absurd rfl h0
  exact h
theorem meet_zero {T X : List Ty} {N M : List Nmd} {a b m e : Int} (h : meetP T N a b X M m e) (he : e ≠ 0) : m = 0 := by
  rcases h with ⟨_, _, _, h, _⟩ | ⟨h0, _⟩
  · exact h
  exact absurd h0 he
theorem has_is {T : List Ty} {N : List Nmd} {i c : Int} {is : Bool} (h : hasTP T N [] i c is 0) (hg : goodA T N [] [i, c]) (h7 : (tyAt T c).kind = 7) : isR N [] T i c = .ok is := by
  rcases has_good h hg h7 with ⟨rfl, _, h⟩ | ⟨rfl, ⟨h, _⟩ | ⟨_, h⟩⟩
  · exact h
  · exact absurd rfl h
  exact h
attribute [local irreducible] AC AT AO AK AH ACalls Sub Res.cells Res.obj Res.nix Res.own Res.map Exit.then Exit.inBlock bodyPost Code.wp Code.wpIn WL Next Post Kont
section
variable {W0 : World} {L : List Res} {F : List Fact} {R : Value → List Res → List Fact → Prop}
set_option maxRecDepth 100000
set_option maxHeartbeats 16000000
theorem tsetBoth_c (g : Glob W0) (T0 : List Ty) (N0 : List Nmd) (a b i : Int) (hT : ∀ t ∈ T0, TyUp t) (hN : ∀ n ∈ N0, NmUp n) {a1 a2 : Option Addr} {k1 c1 k2 c2 : Nat}
    (n1 : fL T0 a1 k1 c1 ∈ F) (n2 : fN N0 a2 k2 c2 ∈ F) (h : R (.bool true) L F) :
    ACalls Tryz.prog W0 7 #[.agg #[.slice a1 k1 c1, .slice a2 k2 c2], .int .i64 a, .int .i64 b, .int .i64 i] L F R := by
  refine Hr ((HG (sz := 3)).trans ((HG (sz := 5)).trans ((HG (sz := 4)).trans (HG (sz := 1))))) ?_
  have hok := fewS_ok (m := 70) hT
  have hno := fewN_ok (m := 20) hN
  refine Ge Tryz.func7 HU Tryz.ntmps7 HU ?_
  refine qs 2 ?_
  refine Ga (GJ HU HU (fun b4 => ?_))
  refine qs 6 ?_
  refine Ga (Gd HU HU (tfew14_c T0 N0 (show fL T0 a1 k1 c1 ∈ _ from memA) (show fN N0 a2 k2 c2 ∈ _ from memA) (fun aT kT cT aN kN cN => ?_)))
  generalize fewS T0 70 = T at hok ⊢
  generalize fewN N0 20 = N at hno ⊢
  refine qs 8 ?_
  refine Ga (Gd HU HU (tmeet_c g T N hok hno a b (show fL T aT kT cT ∈ _ from memA) (show fN N aN kN cN ∈ _ from memA) memA memA memA (fun X M m e aX kX cX aM kM cM hm => ?_)))
  refine qs 4 ?_
  refine Ga (Gq HU (fun b9 => ?_))
  refine qs 9 ?_
  refine Ga (GK HU HU HU (fun c35 => ?_) (fun c35 => ?_))
  ·refine qs 5 ?_
   refine Ga (Gd HU HU (talive14_c g ?_))
   refine qs 2 ?_
   obtain rfl := meet_zero hm c35
   refine Gh HU HU (GC HU HU HU (fun _ => ?_) (fun c39 => absurd HU c39))
   refine qs 6 ?_
   exact Gb (L' := L) (F' := F) Tryz.results7 rfl subA h
  refine qs 10 ?_
  subst c35
  have hM := (meet_M hm).symm
  subst hM
  obtain ⟨hX, hpx, hmr, hg, ⟨ka, kb⟩, km, hlaw⟩ := meet_law hm
  have ha := hg.2 a (.head _)
  have hb := hg.2 b (.tail _ (.head _))
  have hga : goodA T N [] [a, a] := ⟨hg.1, fun p hp => by
   simp only [List.mem_cons, List.not_mem_nil, or_false, or_self] at hp
   rw [hp]; exact ha⟩
  have hpl := hpx.length_le
  refine Ga (Gd HU HU (tmeet_c g T N hok hno a a (show fL T aT kT cT ∈ _ from memA) (show fN N aN kN cN ∈ _ from memA) memA memA memA (fun Y M2 s e2 aY kY cY aM2 kM2 cM2 hm2 => ?_)))
  obtain ⟨q1, q2, q3, q4⟩ := meet_self hga ka hm2
  replace q2 := q2.symm
  replace q3 := q3.symm
  replace q4 := q4.symm
  subst q1 q2 q3 q4
  refine qs 4 ?_
  refine Ga (Gq HU (fun b12 => ?_))
  refine qs 9 ?_
  refine Ga (Gd HU HU (tmeet_c g T N hok hno a 20 (show fL T aT kT cT ∈ _ from memA) (show fN N aN kN cN ∈ _ from memA) memA memA memA (fun Z M3 s e3 aZ kZ cZ aM3 kM3 cM3 hm3 => ?_)))
  obtain ⟨q1, q2, q3, q4⟩ := meet_any hg.1.1 ha ka hm3
  replace q2 := q2.symm
  replace q3 := q3.symm
  replace q4 := q4.symm
  subst q1 q2 q3 q4
  refine qs 4 ?_
  refine Ga (Gq HU (fun b15 => ?_))
  refine qs 9 ?_
  refine Ga (GK HU HU HU (fun c57 => absurd HU c57) (fun _ => ?_))
  refine qs 2 ?_
  refine Gh HU HU (GK HU HU HU (fun c60 => absurd HU c60) (fun _ => ?_))
  refine qs 4 ?_
  refine Gh HU HU (GK HU HU HU (fun c65 => absurd HU c65) (fun _ => ?_))
  refine qs 4 ?_
  refine Gh HU HU (GK HU HU HU (fun c70 => absurd HU c70) (fun _ => ?_))
  refine qs 3 ?_
  refine Gh HU HU (Gd HU HU (uright_c g X N (Hp hX.1) hno (show fL X aX kX cX ∈ _ from memA) (show fN N aM kM cM ∈ _ from memA) (fun _ => ?_) (fun c74 => absurd hX c74)))
  refine qs 5 ?_
  refine Gh rfl rfl (Gd rfl rfl (rulike_c T T N N (show fL T aZ kZ cZ ∈ _ from memA) (show fN N aM3 kM3 cM3 ∈ _ from memA) (show fL T aT kT cT ∈ _ from memA) (show fN N aN kN cN ∈ _ from memA) (fun _ _ => ?_) (fun c80 => absurd ⟨rfl, rfl⟩ c80)))
  refine qs 5 ?_
  refine Gh HU HU (Gv HU HU (fun hl86 => ?_) (enc := eTy) (lst := T) (hm := (show fL T aY kY cY ∈ _ from memA)))
  refine qs 2 ?_
  refine Gh HU HU (Gv HU HU (fun hl89 => ?_) (enc := eTy) (lst := T) (hm := (show fL T aT kT cT ∈ _ from memA)))
  refine Gh HU HU (GB HU HU HU (fun c90 => absurd c90 HW) (fun _ => ?_))
  refine qs 2 ?_
  refine Gh HU HU (Gd HU HU (talive14_c g ?_))
  refine qs 12 ?_
  refine Ga (Gd HU HU (there14_c T i (show fL T aT kT cT ∈ _ from memA) (fun c98 => ?_) (fun c98 => ?_)))
  ·refine qs 5 ?_
   obtain ⟨hin, hie⟩ := GQ c98.1 c98.2
   refine Gh HU HU (Gj (k := i.toNat) HU HU HU HW (enc := eTy) (lst := T) (show fL T aT kT cT ∈ _ from memA) hin (fun _ _ => ?_))
   refine Gh HU HU (HE HU HU (fun _ => ?_))
   refine Gh HU HU (GE HU HU ?_)
   intros
   refine Gh HU HU (GC HU HU HU (fun c107 => ?_) (fun c107 => ?_))
   ·refine qs 11 ?_
    exact Gb (L' := L) (F' := F) Tryz.results7 rfl subA h
   refine qs 11 ?_
   refine Ga (Gd HU HU (tHas_c g T N hok hno [] i a (show fL T aT kT cT ∈ _ from memA) (show fN N aN kN cN ∈ _ from memA) (show fI [] none 0 0 ∈ _ from memA) memA memA memA memA (fun p1 e4 h1 => ?_)))
   refine qs 12 ?_
   refine Ga (Gd HU HU (tHas_c g T N hok hno [] i b (show fL T aT kT cT ∈ _ from memA) (show fN N aN kN cN ∈ _ from memA) (show fI [] none 0 0 ∈ _ from memA) memA memA memA memA (fun p2 e5 h2 => ?_)))
   refine qs 12 ?_
   refine Ga (Gd HU HU (tHas_c g X N (Hp hX.1) hno [] i m (show fL X aX kX cX ∈ _ from memA) (show fN N aM kM cM ∈ _ from memA) (show fI [] none 0 0 ∈ _ from memA) memA memA memA memA (fun p3 e6 h3 => ?_)))
   refine qs 11 ?_
   refine Ga (GK HU HU HU (fun c131 => ?_) (fun c131 => ?_))
   ·refine qs 18 ?_
    exact Gb (L' := L) (F' := F) Tryz.results7 rfl subA h
   refine qs 2 ?_
   refine Gh HU HU (GK HU HU HU (fun c134 => ?_) (fun c134 => ?_))
   ·refine qs 15 ?_
    exact Gb (L' := L) (F' := F) Tryz.results7 rfl subA h
   refine qs 3 ?_
   refine Gh HU HU (GK HU HU HU (fun c138 => ?_) (fun c138 => ?_))
   ·refine qs 11 ?_
    exact Gb (L' := L) (F' := F) Tryz.results7 rfl subA h
   refine qs 10 ?_
   subst c131 c134 c138
   have r1 := has_is h1 (goodA_of hg.1 c98 ha) ka
   have r2 := has_is h2 (goodA_of hg.1 c98 hb) kb
   have r3 := has_is h3 (goodA_of ⟨hX, bnd_none X⟩ ⟨c98.1, by omega⟩ hmr) km
   have hpq := hlaw i p1 p2 p3 c98.1 c98.2 (by rw [hie]; exact c107) r1 r2 r3
   subst hpq
   clear h1 h2 h3 r1 r2 r3
   rcases Bool.eq_false_or_eq_true p1 with rfl | rfl
   all_goals refine Ga (AO.move rfl rfl ?_)
   ·refine qs 2 ?_
    refine Ga (AO.eqlBs HU HU HU (fun _ => ?_) (fun c145 => absurd (by first | rfl | (cases p2 <;> rfl)) c145))
    refine qs 4 ?_
    exact Gb (L' := L) (F' := F) Tryz.results7 rfl subA h
   refine qs 2 ?_
   refine Ga (AO.eqlBs HU HU HU (fun _ => ?_) (fun c145 => absurd (by first | rfl | (cases p2 <;> rfl)) c145))
   refine qs 4 ?_
   exact Gb (L' := L) (F' := F) Tryz.results7 rfl subA h
  refine qs 20 ?_
  exact Gb (L' := L) (F' := F) Tryz.results7 rfl subA h
end
end Go.Sy
