/- Joined of my own texts: FwW, SubA, FwX, SubD, SubF, TyK, SubG, SubS, UnP, FwZ, UnA. -/
import Derived.Test.YtinolpaapcpijaaGreatDoorK13
import Derived.Laws.MakeOwn
import Derived.Shelf.SlSortCmp.NoneTotal
namespace Go.Sy
open Go Go.RowKit
section
variable {P : Program} {W0 : World} {n : Nat} {Q : Po} {ρ : Rho} {L : List Res} {F : List Fact} {K : Act → World → Prop}
variable {d : Tmp} {ty t : TypeId} {pos : String} {af : Array Edge} {g : Option (Nat × Bool)}
variable {x y : Operand} {e sz bytes : Nat} {rows : List (List D)} {a : Option Addr} {k c : Nat}
theorem has_lt' {α : Type} {l : List α} {i : Nat} {r : α} (h : l[i]? = some r) : i < l.length := by
  rcases Nat.lt_or_ge i l.length with k | k
  · exact k
  · simp [List.getElem?_eq_none k] at h
theorem AO.ofY {op : Op} {v : Value} (hy : Yd P n ρ (fun _ => True) ⟨some d, op, ty, pos, af, g⟩ v) (hd : Nat.blt d n = true) (h : AT W0 n K ((d, v) :: ρ) L F) : AO P W0 n K ⟨some d, op, ty, pos, af, g⟩ Q ρ L F :=
  AO.val hd (fun a w s => hy.run a w s.slots trivial) h
theorem Y.max {T : World → Prop} {dd : Option Tmp} {i j : Int} {ts : Array TypeId} {kd : IntKind} (hx : ev ρ x = some (.int kd i)) (hy : ev ρ y = some (.int kd j)) : Yd P n ρ T ⟨dd, .call ⟨.builtin .max, #[x, y], ts⟩, ty, pos, af, g⟩ (.int kd (Max.max i j)) := ⟨fun s w st _ => by
  have : (if i < j then j else i) = Max.max i j := by omega
  simp [execOp, resolve, invoke, builtin, ev_eval st hx, ev_eval st hy, Builtin.max_, Builtin.max2, this]⟩
theorem AO.makeSlice1 {k1 k2 : IntKind} {j : Int} {m e : Nat} {z : Value} [ht : SlT P t e 1 bytes] [hz : ZeT P e z] (hx : ev ρ x = some (.int k1 j)) (hy : ev ρ y = some (.int k2 j)) (hd : Nat.blt d n = true) (hj : j = (m : Int)) (hb : bytes * m ≤ 281474976710656) (hm : m ≤ 1000000) (hz1 : z.cells = #[z])
    (h : ∀ b, AT W0 n K ((d, .slice (some ⟨b, 0, none⟩) m m) :: ρ) (Res.cells b (List.replicate m z).toArray e :: L) F) : AO P W0 n K ⟨some d, .makeSlice t x y, ty, pos, af, g⟩ Q ρ L F := by
  intro a w s
  subst hj
  obtain ⟨ti, z', hti, h1, h2, h3, h4⟩ := ht.info
  have hzz : z' = z := by
    have := hz.zero w
    simp [zeroValue, typeInfo, hti, h3] at this; exact this
  subst hzz
  have hb2 : (bytes : Int) * (m : Int) ≤ 281474976710656 := by
    have h : ((bytes * m : Nat) : Int) ≤ 281474976710656 := by omega
    rwa [Int.natCast_mul] at h
  have hr := run_make (P := P) w t e ti z' ht.und hti h3 k1 k2 (m : Int) (m : Int) (by omega) (by omega) (by rw [h2]; exact hb2) (by omega)
  have hc : madeCells z'.cells ((m : Int).toNat * ti.size) = (List.replicate m z').toArray := by
    rw [h1, hz1]
    unfold madeCells
    apply Array.ext'
    apply List.ext_getElem?
    intro q
    rcases Nat.lt_or_ge q m with hq | hq
    · simp [hq, Nat.mod_one]
    · rw [List.getElem?_eq_none (by simpa using hq), List.getElem?_eq_none (by simpa using hq)]
  rw [hc] at hr
  have hrun : (execOp a.eval ⟨some d, .makeSlice t x y, ty, pos, af, g⟩).run P w = .ok (.value (.slice (some ⟨w.heap.size, 0, none⟩) m m)) (w.alloc (.cells (List.replicate m z').toArray e)) := by
    simp only [execOp, ev_eval s.slots hx, ev_eval s.slots hy, Sem.run_bind, hr, Result.andThen]
    simp
  refine ⟨not_defer hrun (fun _ e => by cases e), ?_⟩
  simp only [hrun, owR]
  exact h _ _ _ ⟨s.slots.put (Nat.le_of_ble_eq_true hd) _, s.sat.alloc _ _⟩
theorem Sat.ownRow {w : World} {i b q : Nat} {r : List D} (s : Sat W0 L F w) (hi : L[i]? = some (Res.own (.slice (some ⟨b, 0, none⟩) k c) e sz rows)) (hr : rows[q]? = some r) :
    ∃ cur : Array Value, w.heap[b]? = some (.cells cur e (0, 0)) ∧ ∀ (j : Nat) (v : Value), r[j]? = some (.val v) → cur[q * sz + j]? = some v := by
  obtain ⟨hb, hh, m, sx⟩ := s
  obtain ⟨h0, hp⟩ : ownP (.slice (some ⟨b, 0, none⟩) k c) e sz rows hh (m i) := sx.res i _ hi
  rcases hp with ⟨hv, _⟩ | ⟨gg, cap, cur, hv, hm, hcap, hmax, hcs, hx⟩
  · simp at hv
  · injection hv with h1
    injection h1 with h1
    injection h1 with h1
    subst h1
    have hbl := sx.own i b _ (has_lt hi) (by rw [hm]; exact one_self _ _)
    refine ⟨cur, hbl.2.1, fun j v hj => ?_⟩
    obtain ⟨u, hu, hcu⟩ := hx q _ j _ hr hj
    cases hcu
    exact hu
theorem AO.loadOA {i b q o kk : Nat} {vs : List Value} [ht : AgT P t kk] (hx : ev ρ x = some (.pointer (some ⟨b, o, none⟩))) (hd : Nat.blt d n = true) (ho : o = 0 + q * sz) (hi : L[i]? = some (Res.own (.slice (some ⟨b, 0, none⟩) k c) e sz rows)) (hr : rows[q]? = some (vs.map D.val)) (hk : vs.length = kk)
    (h : AT W0 n K ((d, .agg vs.toArray) :: ρ) L F) : AO P W0 n K ⟨some d, .load t x, ty, pos, af, g⟩ Q ρ L F := by
  intro a0 w s
  subst ho
  obtain ⟨cur, hb, hc⟩ := s.sat.ownRow hi hr
  have hl : (loadCells ⟨b, 0 + q * sz, none⟩ kk).run P w = .ok vs.toArray w := by
    have := run_loadCells_list (P := P) w ⟨b, 0 + q * sz, none⟩ vs (fun j v hj => by
      have h1 := hc j v (by rw [List.getElem?_map, hj]; rfl)
      obtain ⟨l⟩ := cur
      rw [Addr.add_lit, block_cell hb]
      simpa [Nat.zero_add] using h1)
    rwa [hk] at this
  simp only [Nat.zero_add] at hl
  have hrun : (execOp a0.eval ⟨some d, .load t x, ty, pos, af, g⟩).run P w = .ok (.value (.agg vs.toArray)) w := by
    simp [execOp, ev_eval s.slots hx, Instr.loadAt, Instr.sureAddr, loadVar, ht.agg, ht.size, hl]
  refine ⟨not_defer hrun (fun _ e => by cases e), ?_⟩
  simp only [hrun, owR]
  exact h _ _ ⟨s.slots.put (Nat.le_of_ble_eq_true hd) _, s.sat⟩
theorem place_inj {q q' j j' sz : Nat} (h1 : j < sz) (h2 : j' < sz) (h : q * sz + j = q' * sz + j') : q = q' ∧ j = j' := by
  have e1 : (q * sz + j) / sz = q := by rw [Nat.mul_comm, Nat.mul_add_div (by omega), Nat.div_eq_of_lt h1]; rfl
  have e2 : (q' * sz + j') / sz = q' := by rw [Nat.mul_comm, Nat.mul_add_div (by omega), Nat.div_eq_of_lt h2]; rfl
  have : q = q' := by rw [← e1, ← e2, h]
  subst this
  exact ⟨rfl, by omega⟩
theorem AO.storeOR {i b q j o : Nat} {v : Value} {r : List D} [ht : ScT P t] (hx : ev ρ x = some (.pointer (some ⟨b, o, none⟩))) (hy : ev ρ y = some v) (h1 : oneC v = true) (ho : o = 0 + q * sz + j) (hi : L[i]? = some (Res.own (.slice (some ⟨b, 0, none⟩) k c) e sz rows)) (hq : rows[q]? = some r) (hj : j < r.length)
    (h : AT W0 n K ρ (L.set i (Res.own (.slice (some ⟨b, 0, none⟩) k c) e sz (rows.set q (r.set j (.val v))))) F) : AO P W0 n K ⟨none, .store t x y, ty, pos, af, g⟩ Q ρ L F := by
  intro a0 w s
  subst ho
  obtain ⟨hb, hh, m, sx⟩ := id s.sat
  have hl := has_lt hi
  have hql : q < rows.length := has_lt' hq
  obtain ⟨h0, hp⟩ : ownP (.slice (some ⟨b, 0, none⟩) k c) e sz rows hh (m i) := sx.res i _ hi
  rcases hp with ⟨hv, _⟩ | ⟨gg, cap, cur, hv, hm, hcap, hmax, hcs, hxx⟩
  · simp at hv
  · injection hv with e1 e2 e3
    injection e1 with e1
    injection e1 with e1
    subst e1 e2 e3
    have hbl := sx.own i b _ hl (by rw [hm]; exact one_self _ _)
    obtain ⟨cs, hcs'⟩ : ∃ cs : List Value, cur = cs.toArray := ⟨cur.toList, by simp⟩
    subst hcs'
    have hlen : cs.length = c * sz := by simpa using hcs
    have hrl := h0 q r hq
    have hin : q * sz + j < cs.length := by
      have := Nat.mul_le_mul_right sz (show q + 1 ≤ c by omega)
      rw [Nat.add_mul, Nat.one_mul] at this; omega
    obtain ⟨w', e0, f1, f2, f3, f4, f5, f6⟩ := run_storeCells (P := P) [v] cs (0 + q * sz + j) 0 w hbl.2.1 (by simp; omega) (by simpa using h1)
    have hr : (execOp a0.eval ⟨none, .store t x y, ty, pos, af, g⟩).run P w = .ok .skip w' := by
      have hc := oneC_cells h1
      simp only [Nat.zero_add] at e0
      simp [execOp, ev_eval s.slots hx, ev_eval s.slots hy, Instr.storeAt, Instr.sureAddr, storeVar, ht.size, hc, e0, Result.andThen]
    refine ⟨not_defer hr (fun _ e => by cases e), ?_⟩
    simp only [hr, owR]
    have st : Step w w' (m i) := ⟨f4, f5, f6, by omega, fun k _ hk => f2 k (fun e' => by subst e'; rw [hm, one_self] at hk; simp at hk)⟩
    have f1' : w'.heap[b]? = some (.cells (cs.set (q * sz + j) v).toArray e (0, 0)) := by simpa [putL] using f1
    refine h _ _ ⟨s.slots, Sat.below_of hb st (fun b' O hm' => (sx.own i b' O hl hm').1), hh, _, sx.upd hb.size hl st _ (one b (.cells (cs.set (q * sz + j) v).toArray e (0, 0))) ⟨?_, .inr ⟨b, c, (cs.set (q * sz + j) v).toArray, by simp, rfl, by simpa using hcap, hmax, by simpa using hcs, ?_⟩⟩ ?_⟩
    · intro q' r' hj'
      by_cases e' : q = q'
      · subst e'
        rw [List.getElem?_set_self hql] at hj'
        injection hj' with hj'; subst hj'
        simpa using hrl
      · rw [List.getElem?_set_ne e'] at hj'; exact h0 q' r' hj'
    · intro q' r' u dd hj' hu
      by_cases e' : q = q'
      · subst e'
        rw [List.getElem?_set_self hql] at hj'
        injection hj' with hj'; subst hj'
        by_cases eu : j = u
        · subst eu
          rw [List.getElem?_set_self hj] at hu
          injection hu with hu; subst hu
          exact ⟨v, by simp only [List.getElem?_toArray]; exact List.getElem?_set_self hin, .val _⟩
        · rw [List.getElem?_set_ne eu] at hu
          obtain ⟨z, hz1, hz2⟩ := hxx q r u dd hq hu
          refine ⟨z, ?_, hz2⟩
          simp only [List.getElem?_toArray] at hz1 ⊢
          rw [List.getElem?_set_ne (by omega)]; exact hz1
      · rw [List.getElem?_set_ne e'] at hj'
        obtain ⟨z, hz1, hz2⟩ := hxx q' r' u dd hj' hu
        refine ⟨z, ?_, hz2⟩
        have hu2 := has_lt' hu
        have hr2 := h0 q' r' hj'
        simp only [List.getElem?_toArray] at hz1 ⊢
        rw [List.getElem?_set_ne (fun e2 => e' (place_inj (by omega) (by omega) e2).1)]; exact hz1
    · intro b' O hm'
      obtain ⟨rfl, rfl⟩ := one_some hm'
      exact ⟨.inl (by rw [hm, one_self]; simp), f1'⟩
end
theorem cells_I {F : List Fact} : ∀ (l : List Int), Cells F (l.map (Value.int .i64)) (l.map fun i => [D.val (.int .i64 i)]).flatten
  | [] => .nil
  | _ :: l => .val (cells_I l)
theorem cells_B {F : List Fact} : ∀ (l : List Bool), Cells F (l.map Value.bool) (l.map fun i => [D.val (.bool i)]).flatten
  | [] => .nil
  | _ :: l => .val (cells_B l)
end Go.Sy
namespace Go.Sy
open Go Go.Proofs Go.RowKit
abbrev eBl (b : Bool) : List D := [.val (.bool b)]
abbrev fI (l : List Int) (a : Option Addr) (k c : Nat) : Fact := .slc (.slice a k c) 1 (l.map eI)
abbrev fB (l : List Bool) (a : Option Addr) (k c : Nat) : Fact := .slc (.slice a k c) 1 (l.map eBl)
theorem blt_of {a b : Nat} (h : a < b) : Nat.blt a b = true := by show Nat.ble (a + 1) b = true; rw [Nat.ble_eq]; exact h
theorem setA {α : Type} {f : α → Value} {A R : List α} {x v : α} {q : Nat} (hA : A.length = q) : ((A ++ x :: R).map f).set (0 + q * 1) (f v) = (A ++ v :: R).map f := by
  subst hA
  rw [Nat.zero_add, Nat.mul_one, ← List.map_set, List.set_append_right _ _ (Nat.le_refl _)]; simp
theorem getA {α : Type} {f : α → Value} {A R : List α} {x : α} {q : Nat} (hA : A.length = q) : ((A ++ x :: R).map f)[0 + q * 1]? = some (f x) := by
  subst hA; simp
theorem getB {α : Type} {f : α → Value} {A R : List α} {q : Nat} (z : α) (hq : q < A.length) : ((A ++ R).map f)[0 + q * 1]? = some (f (A.getD q z)) := by
  rw [Nat.zero_add, Nat.mul_one, List.getElem?_map, List.getElem?_append_left hq, List.getElem?_eq_getElem hq, List.getD_eq_getElem?_getD, List.getElem?_eq_getElem hq]; rfl
theorem rep_step {α : Type} (z : α) {i q : Nat} (h : q < i + 1) : List.replicate (i + 1 - q) z = z :: List.replicate (i - q) z := by
  have e : i + 1 - q = (i - q) + 1 := by omega
  rw [e, List.replicate_succ]
theorem asks_pos {l : List Ty} {q : Nat} (hq : q < l.length) {k : Int} (hk : 0 ≤ k ∧ k < q) : k.toNat < (asksL (l.take q)).length := by rw [asks_len l q (by omega)]; omega
theorem max_ask (A : List Int) {t : Ty} {v : Nat} (hv : v < t.kids.length) : max (askK A (ask0 t) (t.kids.take v)) (A.getD t.kids[v].toNat 0) = askK A (ask0 t) (t.kids.take (v + 1)) := (askK_snoc A _ _ hv).symm
theorem ask_next {l : List Ty} {i q : Nat} (hq : q < l.length) : (asksL (l.take q) ++ askK (asksL (l.take q)) (ask0 l[q]) l[q].kids :: List.replicate (i - q) 0) = asksL (l.take (q + 1)) ++ List.replicate (i + 1 - (q + 1)) 0 := by
  have e : i + 1 - (q + 1) = i - q := by omega
  rw [e, asks_step hq]; simp [ask1]
attribute [local irreducible] AC AT AO AK AH ACalls Sub Res.cells Res.nix Res.own Res.map Exit.then Exit.inBlock bodyPost Code.wp Code.wpIn WL Next Post Kont
section
variable {W0 : World} {L : List Res} {F : List Fact} {R : Value → List Res → List Fact → Prop}
set_option maxRecDepth 100000
set_option maxHeartbeats 4000000
theorem asks_c (l : List Ty) (hr : rightP l) (i : Nat) (hi : i < l.length) {a : Option Addr} {k c : Nat} (mL : fL l a k c ∈ F) (h : ∀ a k c, R (.slice a k c) L (fI (asksL (l.take (i + 1))) a k c :: F)) : ACalls Tryz.prog W0 172 #[.slice a k c, .int .i64 (i : Int)] L F R := by
  have h400 := hr.2.1
  refine ACalls.body Tryz.func172 rfl Tryz.ntmps172 rfl ?_
  refine AC.seq (AC.region (AL.go (AO.assign rfl rfl (AL.nil (AK.seqN (AC.seq ?_))))))
  refine AC.region (AL.go (AO.move rfl rfl (AL.go (AO.add rfl rfl rfl (by omega) (by omega) ?_))))
  refine AL.go (AO.makeSlice1 (m := i + 1) rfl rfl rfl (by omega) (by omega) (by omega) rfl (fun b12 => ?_))
  refine AL.go (AO.assign rfl rfl (AL.nil (AK.seqN (AC.seq (AC.seq (AC.region ?_))))))
  refine AL.go (AO.move rfl rfl (AL.go (AO.move rfl rfl (AL.go (AO.add rfl rfl rfl (by omega) (by omega) ?_)))))
  refine AL.go (AO.sliceH (j' := i + 1) rfl rfl rfl (by omega) (enc := eTy) (lst := l) memA (by omega) (fun a16 k16 c16 => ?_))
  have htl : (l.take (i + 1)).length = i + 1 := by rw [List.length_take]; omega
  refine AL.go (AO.len rfl rfl (fun hl17 => ?_) (hm := by repeat (first | exact mem0 | assumption | refine memS ?_)))
  refine AL.go (AO.move rfl rfl (AL.nil (AK.seqN (AC.block ?_))))
  refine AC.loop (fun (q : Nat) => q ≤ i + 1) (fun q => [(5, .slice (some ⟨b12, 0, none⟩) (i + 1) (i + 1)), (16, .slice a16 k16 c16), (17, .int .i64 (l.take (i + 1)).length), (18, .int .i64 (q : Int))]) (fun q => Res.cells b12 ((asksL (l.take q) ++ List.replicate (i + 1 - q) 0).map (Value.int .i64)).toArray 3 :: L) (fun _ => _) (fun q => i + 1 - q) 0 (Nat.zero_le _) srA (Sub.ofEq (by simp [asksL])) ?_
  rintro q hq
  refine AC.seq (AC.region ?_)
  refine AL.go (AO.lss rfl rfl rfl (fun c19 => ?_) (fun c19 => ?_))
  ·refine AL.nil (AK.seqN (AC.seq (AC.condT rfl (AC.skip (AK.seqN ?_)))))
   refine AC.seq (AC.block (AC.seq (AC.region (AL.go (AO.move rfl rfl ?_)))))
   have hqi : q < i + 1 := by omega
   have hql : q < l.length := by omega
   have hqt : q < (l.take (i + 1)).length := by omega
   have hget : (l.take (i + 1))[q] = l[q] := List.getElem_take
   have hAl := asks_len l q (by omega)
   have hrt := rt_of_right hr hql
   rw [rep_step 0 hqi]
   refine AL.go (AO.indexAddr rfl rfl rfl rfl (enc := eTy) (lst := l.take (i + 1)) memA hqt (fun _ _ => ?_))
   rw [hget]
   refine AL.go (AO.loadFA rfl rfl ?_)
   intro a22 k22 z22 d22 e22 f22
   refine AL.go (AO.alloc rfl (fun b7 => ?_))
   refine AL.go (AO.assign rfl rfl ?_)
   refine AL.go (AO.storeBA rfl rfl rfl rfl ?_)
   refine AL.nil (AK.seqN (AC.seq (AC.seq (AC.region (AL.go (AO.field rfl rfl ?_))))))
   refine AL.go (AO.loadB rfl rfl ?_)
   refine AL.go (AO.eql rfl rfl rfl (fun c25 => ?_) (fun c25 => ?_))
   ·refine AL.nil (AK.seqN (AC.condT rfl (AC.region (AL.go (AO.move rfl rfl (AL.go (AO.move rfl rfl ?_)))))))
    refine AL.go (AO.field rfl rfl ?_)
    refine AL.go (AO.loadB rfl rfl ?_)
    have hp := hrt.param c25
    refine AL.go (AO.add rfl rfl rfl (by omega) (by omega) ?_)
    refine AL.go (AO.ofY (Y.indexAddr (k := q) rfl rfl rfl (by omega)) rfl ?_)
    refine AL.go (AO.storeB (v := .int .i64 (l[q].n + 1)) (cs := (asksL (l.take q) ++ 0 :: List.replicate (i - q) 0).map (Value.int .i64)) rfl rfl rfl ?_ (ho := blt_of (by simp; omega)))
    rw [setA hAl]
    refine AL.nil (AK.seqN (AC.seq (AC.region (AL.go (AO.field rfl rfl ?_)))))
    refine AL.go (AO.loadB rfl rfl ?_)
    refine AL.go (AO.len rfl rfl (fun hl34 => ?_) (enc := eI) (lst := l[q].kids) (hm := memA))
    refine AL.go (AO.move rfl rfl (AL.nil (AK.seqN (AC.block ?_))))
    rw [show l[q].n + 1 = ask0 l[q] from (if_pos c25).symm]
    refine AC.loop (fun (v : Nat) => v ≤ l[q].kids.length) (fun v => [(5, .slice (some ⟨b12, 0, none⟩) (i + 1) (i + 1)), (16, .slice a16 k16 c16), (17, .int .i64 (l.take (i + 1)).length), (18, .int .i64 (q : Int)), (6, .int .i64 (q : Int)), (7, .pointer (some ⟨b7, 0, none⟩)), (33, .slice d22 e22 f22), (34, .int .i64 l[q].kids.length), (35, .int .i64 (v : Int))]) (fun v => _ :: Res.cells b12 ((asksL (l.take q) ++ askK (asksL (l.take q)) (ask0 l[q]) (l[q].kids.take v) :: List.replicate (i - q) 0).map (Value.int .i64)).toArray 3 :: L) (fun _ => _) (fun v => l[q].kids.length - v) 0 (Nat.zero_le _) srA (Sub.refl _ _) ?_
    rintro v hv
    refine AC.seq (AC.region ?_)
    refine AL.go (AO.lss rfl rfl rfl (fun c36 => ?_) (fun c36 => ?_))
    ·refine AL.nil (AK.seqN (AC.seq (AC.condT rfl (AC.skip (AK.seqN ?_)))))
     refine AC.seq (AC.block (AC.seq (AC.region ?_)))
     have hvl : v < l[q].kids.length := by omega
     have hb := hrt.kids _ (List.getElem_mem hvl)
     refine AL.go (AO.indexAddr rfl rfl rfl rfl (show fK l[q] _ _ _ ∈ _ from memA) hvl (fun _ _ => ?_))
     refine AL.go (AO.loadF rfl rfl ?_)
     intros
     refine AL.go (AO.assign rfl rfl (AL.nil (AK.seqN ?_)))
     refine AC.draw (fun i => Nat.beq i 12) [(b12, _, _)] bxA rfl (fun hx hX => ?_)
     refine AH.takeW (i := 0) rfl (Y.move rfl) (by kernel_rfl) rfl rfl ?_
     refine AH.takeW (i := 1) rfl (Y.move rfl) (by kernel_rfl) rfl rfl ?_
     refine AH.takeW (i := 2) rfl (Y.move rfl) (by kernel_rfl) rfl rfl ?_
     refine AH.takeW (i := 3) rfl (Y.move rfl) (by kernel_rfl) rfl rfl ?_
     refine AH.takeW (i := 4) rfl (Y.indexAddr rfl rfl rfl (by omega)) (by kernel_rfl) rfl rfl ?_
     refine AH.takeS (i := 5) rfl (Y.loadB rfl (List.Mem.head _) (getA hAl)) (by kernel_rfl) (by kernel_rfl) rfl rfl rfl ?_
     refine AH.takeW (i := 6) rfl (Y.move rfl) (by kernel_rfl) rfl rfl ?_
     refine AH.takeW (i := 7) rfl (Y.move rfl) (by kernel_rfl) rfl rfl ?_
     refine AH.takeW (i := 8) rfl (Y.indexAddr (k := l[q].kids[v].toNat) rfl rfl (by omega) (by omega)) (by kernel_rfl) rfl rfl ?_
     refine AH.takeS (i := 9) rfl (Y.loadB rfl (List.Mem.head _) (getB 0 (asks_pos hql hb))) (by kernel_rfl) (by kernel_rfl) rfl rfl rfl ?_
     refine AH.takeW (i := 10) rfl (Y.max rfl rfl) (by kernel_rfl) rfl rfl ?_
     refine AH.takeW (i := 11) rfl (Y.indexAddr rfl rfl rfl (by omega)) (by kernel_rfl) rfl rfl ?_
     refine AH.one (i := 12) (by kernel_rfl) rfl rfl (fun _ => ?_)
     rw [max_ask _ hvl]
     refine AO.storeB (v := .int .i64 (askK (asksL (l.take q)) (ask0 l[q]) (l[q].kids.take (v + 1)))) (cs := (asksL (l.take q) ++ askK (asksL (l.take q)) (ask0 l[q]) (l[q].kids.take v) :: List.replicate (i - q) 0).map (Value.int .i64)) rfl rfl rfl ?_ (ho := blt_of (by simp; omega))
     rw [setA hAl]
     refine AT.spoilt rfl ?_
     refine AH.done (by kernel_rfl) ?_
     refine AK.blkN (AK.seqN (AC.region (AL.go (AO.add rfl rfl rfl (by omega) (by omega) (AL.go (AO.move rfl rfl (AL.nil ?_)))))))
     refine AK.next (v + 1) (by omega) (by omega) srA subF
    ·refine AL.nil (AK.seqN (AC.seq (AC.condF rfl (AC.exit (AK.seqX ?_)))))
     refine AK.seqX (AK.blkX (AK.blkN (AK.seqN (AC.region (AL.go (AO.add rfl rfl rfl (by omega) (by omega) ?_))))))
     refine AL.go (AO.move rfl rfl (AL.nil ?_))
     refine AK.next (q + 1) (by omega) (by omega) srA (Sub.drop.trans ?_)
     have hkt : l[q].kids.take v = l[q].kids := List.take_of_length_le (by omega)
     rw [hkt, ask_next hql]
     exact subF
   ·refine AL.nil (AK.seqN (AC.condF rfl (AC.skip (AK.seqN (AC.seq ?_)))))
    refine AC.region (AL.go (AO.field rfl rfl ?_))
    refine AL.go (AO.loadB rfl rfl ?_)
    refine AL.go (AO.len rfl rfl (fun hl34 => ?_) (enc := eI) (lst := l[q].kids) (hm := memA))
    refine AL.go (AO.move rfl rfl (AL.nil (AK.seqN (AC.block ?_))))
    rw [show (0 : Int) :: List.replicate (i - q) 0 = ask0 l[q] :: List.replicate (i - q) 0 by rw [show ask0 l[q] = 0 from if_neg c25]]
    refine AC.loop (fun (v : Nat) => v ≤ l[q].kids.length) (fun v => [(5, .slice (some ⟨b12, 0, none⟩) (i + 1) (i + 1)), (16, .slice a16 k16 c16), (17, .int .i64 (l.take (i + 1)).length), (18, .int .i64 (q : Int)), (6, .int .i64 (q : Int)), (7, .pointer (some ⟨b7, 0, none⟩)), (33, .slice d22 e22 f22), (34, .int .i64 l[q].kids.length), (35, .int .i64 (v : Int))]) (fun v => _ :: Res.cells b12 ((asksL (l.take q) ++ askK (asksL (l.take q)) (ask0 l[q]) (l[q].kids.take v) :: List.replicate (i - q) 0).map (Value.int .i64)).toArray 3 :: L) (fun _ => _) (fun v => l[q].kids.length - v) 0 (Nat.zero_le _) srA (Sub.refl _ _) ?_
    rintro v hv
    refine AC.seq (AC.region ?_)
    refine AL.go (AO.lss rfl rfl rfl (fun c36 => ?_) (fun c36 => ?_))
    ·refine AL.nil (AK.seqN (AC.seq (AC.condT rfl (AC.skip (AK.seqN ?_)))))
     refine AC.seq (AC.block (AC.seq (AC.region ?_)))
     have hvl : v < l[q].kids.length := by omega
     have hb := hrt.kids _ (List.getElem_mem hvl)
     refine AL.go (AO.indexAddr rfl rfl rfl rfl (show fK l[q] _ _ _ ∈ _ from memA) hvl (fun _ _ => ?_))
     refine AL.go (AO.loadF rfl rfl ?_)
     intros
     refine AL.go (AO.assign rfl rfl (AL.nil (AK.seqN ?_)))
     refine AC.draw (fun i => Nat.beq i 12) [(b12, _, _)] bxA rfl (fun hx hX => ?_)
     refine AH.takeW (i := 0) rfl (Y.move rfl) (by kernel_rfl) rfl rfl ?_
     refine AH.takeW (i := 1) rfl (Y.move rfl) (by kernel_rfl) rfl rfl ?_
     refine AH.takeW (i := 2) rfl (Y.move rfl) (by kernel_rfl) rfl rfl ?_
     refine AH.takeW (i := 3) rfl (Y.move rfl) (by kernel_rfl) rfl rfl ?_
     refine AH.takeW (i := 4) rfl (Y.indexAddr rfl rfl rfl (by omega)) (by kernel_rfl) rfl rfl ?_
     refine AH.takeS (i := 5) rfl (Y.loadB rfl (List.Mem.head _) (getA hAl)) (by kernel_rfl) (by kernel_rfl) rfl rfl rfl ?_
     refine AH.takeW (i := 6) rfl (Y.move rfl) (by kernel_rfl) rfl rfl ?_
     refine AH.takeW (i := 7) rfl (Y.move rfl) (by kernel_rfl) rfl rfl ?_
     refine AH.takeW (i := 8) rfl (Y.indexAddr (k := l[q].kids[v].toNat) rfl rfl (by omega) (by omega)) (by kernel_rfl) rfl rfl ?_
     refine AH.takeS (i := 9) rfl (Y.loadB rfl (List.Mem.head _) (getB 0 (asks_pos hql hb))) (by kernel_rfl) (by kernel_rfl) rfl rfl rfl ?_
     refine AH.takeW (i := 10) rfl (Y.max rfl rfl) (by kernel_rfl) rfl rfl ?_
     refine AH.takeW (i := 11) rfl (Y.indexAddr rfl rfl rfl (by omega)) (by kernel_rfl) rfl rfl ?_
     refine AH.one (i := 12) (by kernel_rfl) rfl rfl (fun _ => ?_)
     rw [max_ask _ hvl]
     refine AO.storeB (v := .int .i64 (askK (asksL (l.take q)) (ask0 l[q]) (l[q].kids.take (v + 1)))) (cs := (asksL (l.take q) ++ askK (asksL (l.take q)) (ask0 l[q]) (l[q].kids.take v) :: List.replicate (i - q) 0).map (Value.int .i64)) rfl rfl rfl ?_ (ho := blt_of (by simp; omega))
     rw [setA hAl]
     refine AT.spoilt rfl ?_
     refine AH.done (by kernel_rfl) ?_
     refine AK.blkN (AK.seqN (AC.region (AL.go (AO.add rfl rfl rfl (by omega) (by omega) (AL.go (AO.move rfl rfl (AL.nil ?_)))))))
     refine AK.next (v + 1) (by omega) (by omega) srA subF
    ·refine AL.nil (AK.seqN (AC.seq (AC.condF rfl (AC.exit (AK.seqX ?_)))))
     refine AK.seqX (AK.blkX (AK.blkN (AK.seqN (AC.region (AL.go (AO.add rfl rfl rfl (by omega) (by omega) ?_))))))
     refine AL.go (AO.move rfl rfl (AL.nil ?_))
     refine AK.next (q + 1) (by omega) (by omega) srA (Sub.drop.trans ?_)
     have hkt : l[q].kids.take v = l[q].kids := List.take_of_length_le (by omega)
     rw [hkt, ask_next hql]
     exact subF
  ·refine AL.nil (AK.seqN (AC.seq (AC.condF rfl (AC.exit (AK.seqX ?_)))))
   refine AK.seqX (AK.blkX (AK.seqN (AC.seq (AC.region ?_))))
   refine AL.go (AO.move rfl rfl ?_)
   have hq9 : q = i + 1 := by omega
   subst hq9
   rw [Nat.sub_self, List.replicate_zero, List.append_nil]
   have hAl := asks_len l (i + 1) (by omega)
   refine AT.sub ((Sub.lit (i := 0) (enc := eI) (sz := 1) (k := i + 1) (asksL (l.take (i + 1))) rfl (cells_I _) (fun _ => rfl) hAl (by simp only [maxLen]; omega)).trans Sub.drop) ?_
   refine AL.go (AO.assign rfl rfl (AL.nil (AK.seqN (AC.ret ?_))))
   exact AK.ret (L' := L) (F' := fI (asksL (l.take (i + 1))) _ _ _ :: F) Tryz.results172 rfl (Sub.headF (fun x hx => by repeat (first | exact hx | refine List.mem_cons_of_mem _ ?_))) (h _ _ _)
end
end Go.Sy
namespace Go.Sy
open Go Go.Proofs Go.RowKit
theorem setM {α : Type} {f : α → Value} {M : List α} {v : α} {q : Nat} : (M.map f).set (0 + q * 1) (f v) = (M.set q v).map f := by
  rw [Nat.zero_add, Nat.mul_one, ← List.map_set]
theorem getM {α : Type} {f : α → Value} {M : List α} {q : Nat} (z : α) (hq : q < M.length) : (M.map f)[0 + q * 1]? = some (f (M.getD q z)) := by
  have := getB (f := f) (A := M) (R := []) z hq
  rwa [List.append_nil] at this
theorem part_no {l : List Ty} {i j : Nat} (h : (partsN l i j).getD (i - j) false = false) : partsN l i j = partsN l i (j + 1) := by
  rw [partsN, partStep, if_neg (by rw [h]; simp)]
theorem part_yes {l : List Ty} {i j : Nat} (hi : i < l.length) (h : (partsN l i j).getD (i - j) false = true) : markK (partsN l i j) (l[i - j]'(by omega)).kids = partsN l i (j + 1) := by
  rw [partsN, partStep, if_pos h, row_kid hi (Nat.sub_le i j)]
attribute [local irreducible] AC AT AO AK AH ACalls Sub Res.cells Res.nix Res.own Res.map Exit.then Exit.inBlock bodyPost Code.wp Code.wpIn WL Next Post Kont
section
variable {W0 : World} {L : List Res} {F : List Fact} {R : Value → List Res → List Fact → Prop}
set_option maxRecDepth 100000
set_option maxHeartbeats 4000000
theorem parts_c (l : List Ty) (hr : rightP l) (i : Nat) (hi : i < l.length) {a : Option Addr} {k c : Nat} (mL : fL l a k c ∈ F) (h : ∀ a k c, R (.slice a k c) L (fB (partsL l i) a k c :: F)) : ACalls Tryz.prog W0 174 #[.slice a k c, .int .i64 (i : Int)] L F R := by
  have h400 := hr.2.1
  refine ACalls.body Tryz.func174 rfl Tryz.ntmps174 rfl ?_
  refine AC.seq (AC.region (AL.go (AO.assign rfl rfl (AL.nil (AK.seqN (AC.seq ?_))))))
  refine AC.region (AL.go (AO.move rfl rfl (AL.go (AO.add rfl rfl rfl (by omega) (by omega) ?_))))
  refine AL.go (AO.makeSlice1 (m := i + 1) rfl rfl rfl (by omega) (by omega) (by omega) rfl (fun b11 => ?_))
  refine AT.sub (Sub.ofEq (L' := Res.cells b11 ((List.replicate (i + 1) false).map Value.bool).toArray 4 :: L) (by simp)) ?_
  refine AL.go (AO.assign rfl rfl (AL.nil (AK.seqN (AC.seq (AC.region (AL.go (AO.move rfl rfl ?_)))))))
  refine AL.go (AO.move rfl rfl ?_)
  refine AL.go (AO.ofY (Y.indexAddr (k := i) rfl rfl rfl (by omega)) rfl ?_)
  refine AL.go (AO.storeB (v := .bool true) (cs := (List.replicate (i + 1) false).map Value.bool) rfl rfl rfl ?_ (ho := blt_of (by simp)))
  rw [setM]
  refine AL.nil (AK.seqN (AC.seq (AC.seq (AC.region (AL.go (AO.move rfl rfl ?_))))))
  refine AL.go (AO.assign rfl rfl (AL.nil (AK.seqN (AC.block ?_))))
  refine AC.loop (fun (j : Nat) => j ≤ i + 1) (fun j => [(0, .slice a k c), (5, .slice (some ⟨b11, 0, none⟩) (i + 1) (i + 1)), (6, .int .i64 ((i : Int) - (j : Int)))]) (fun j => Res.cells b11 ((partsN l i j).map Value.bool).toArray 4 :: L) (fun _ => F) (fun j => i + 1 - j) 0 (Nat.zero_le _) (by have e0 : (i : Int) - ((0 : Nat) : Int) = (i : Int) := Int.sub_zero _; simp only [e0]; exact srA) (Sub.refl _ _) ?_
  rintro j hj
  have hMl := partsN_len l i j
  refine AC.seq (AC.seq (AC.region (AL.go (AO.move rfl rfl ?_))))
  refine AL.go (AO.geq rfl rfl rfl (fun c17 => ?_) (fun c17 => ?_))
  ·refine AL.nil (AK.seqN (AC.condT rfl (AC.skip (AK.seqN (AC.seq ?_)))))
   refine AC.block (AC.seq (AC.seq (AC.region (AL.go (AO.move rfl rfl (AL.go (AO.move rfl rfl ?_)))))))
   refine AL.go (AO.ofY (Y.indexAddr (k := i - j) rfl rfl (by omega) (by omega)) rfl ?_)
   refine AL.go (AO.loadB (v := .bool ((partsN l i j).getD (i - j) false)) rfl rfl ?_ (hv := getM false (by omega)))
   refine AL.go (AO.not rfl rfl (AL.nil (AK.seqN ?_)))
   refine AC.cond rfl (fun c24 => ?_) (fun c24 => ?_)
   ·refine AC.exit (AK.seqX (AK.blkX (AK.seqN (AC.region (AL.go (AO.move rfl rfl ?_))))))
    refine AL.go (AO.sub rfl rfl rfl (by omega) (by omega) (AL.go (AO.assign rfl rfl (AL.nil ?_))))
    rw [show (i : Int) - (j : Int) - 1 = (i : Int) - ((j + 1 : Nat) : Int) by omega]
    refine AK.next (j + 1) (by omega) (by omega) srA ?_
    rw [part_no (by simpa using c24)]
    exact subF
   ·refine AC.skip (AK.seqN (AC.seq (AC.region (AL.go (AO.move rfl rfl (AL.go (AO.move rfl rfl ?_)))))))
    have hij : i - j < l.length := by omega
    refine AL.go (AO.indexAddr (k := i - j) rfl rfl rfl (by omega) (enc := eTy) (lst := l) memA hij (fun _ _ => ?_))
    refine AL.go (AO.fieldAt rfl rfl (fun _ => ?_))
    refine AL.go (AO.loadF rfl rfl ?_)
    intro a29 k29 z29
    refine AL.go (AO.len rfl rfl (fun hl30 => ?_) (enc := eI) (lst := l[i - j].kids) (hm := memA))
    refine AL.go (AO.move rfl rfl (AL.nil (AK.seqN (AC.block ?_))))
    refine AC.loop (fun (v : Nat) => v ≤ l[i - j].kids.length) (fun v => [(0, .slice a k c), (5, .slice (some ⟨b11, 0, none⟩) (i + 1) (i + 1)), (6, .int .i64 ((i : Int) - (j : Int))), (29, .slice a29 k29 z29), (30, .int .i64 l[i - j].kids.length), (31, .int .i64 (v : Int))]) (fun v => Res.cells b11 ((markK (partsN l i j) (l[i - j].kids.take v)).map Value.bool).toArray 4 :: L) (fun _ => _) (fun v => l[i - j].kids.length - v) 0 (Nat.zero_le _) srA (Sub.refl _ _) ?_
    rintro v hv
    refine AC.seq (AC.region ?_)
    refine AL.go (AO.lss rfl rfl rfl (fun c32 => ?_) (fun c32 => ?_))
    ·refine AL.nil (AK.seqN (AC.seq (AC.condT rfl (AC.skip (AK.seqN ?_)))))
     refine AC.seq (AC.block (AC.seq (AC.region ?_)))
     have hvl : v < l[i - j].kids.length := by omega
     have hb := (rt_of_right hr hij).kids _ (List.getElem_mem hvl)
     refine AL.go (AO.indexAddr rfl rfl rfl rfl (show fK l[i - j] _ _ _ ∈ _ from memA) hvl (fun _ _ => ?_))
     refine AL.go (AO.loadF rfl rfl ?_)
     intros
     refine AL.go (AO.assign rfl rfl (AL.nil (AK.seqN (AC.region (AL.go (AO.move rfl rfl (AL.go (AO.move rfl rfl ?_))))))))
     refine AL.go (AO.ofY (Y.indexAddr (k := l[i - j].kids[v].toNat) rfl rfl (by omega) (by omega)) rfl ?_)
     refine AL.go (AO.storeB (v := .bool true) (cs := (markK (partsN l i j) (l[i - j].kids.take v)).map Value.bool) rfl rfl rfl ?_ (ho := blt_of (by rw [List.length_map, markK_len]; omega)))
     rw [setM, ← markK_snoc _ _ hvl]
     refine AL.nil (AK.blkN (AK.seqN (AC.region (AL.go (AO.add rfl rfl rfl (by omega) (by omega) (AL.go (AO.move rfl rfl ?_)))))))
     refine AL.nil ?_
     refine AK.next (v + 1) (by omega) (by omega) srA subF
    ·refine AL.nil (AK.seqN (AC.seq (AC.condF rfl (AC.exit (AK.seqX ?_)))))
     refine AK.seqX (AK.blkX (AK.blkN (AK.seqN (AC.region (AL.go (AO.move rfl rfl ?_))))))
     refine AL.go (AO.sub rfl rfl rfl (by omega) (by omega) (AL.go (AO.assign rfl rfl (AL.nil ?_))))
     rw [show (i : Int) - (j : Int) - 1 = (i : Int) - ((j + 1 : Nat) : Int) by omega]
     refine AK.next (j + 1) (by omega) (by omega) srA ?_
     have hkt : l[i - j].kids.take v = l[i - j].kids := List.take_of_length_le (by omega)
     rw [hkt, part_yes hi (by simpa using c24)]
     exact subF
  ·refine AL.nil (AK.seqN (AC.condF rfl (AC.exit (AK.seqX (AK.seqX ?_)))))
   refine AK.blkX (AK.seqN (AC.seq (AC.region ?_)))
   refine AL.go (AO.move rfl rfl ?_)
   have hj9 : j = i + 1 := by omega
   subst hj9
   refine AT.sub ((Sub.lit (i := 0) (enc := eBl) (sz := 1) (k := i + 1) (partsL l i) rfl (cells_B _) (fun _ => rfl) hMl (by simp only [maxLen]; omega)).trans Sub.drop) ?_
   refine AL.go (AO.assign rfl rfl (AL.nil (AK.seqN (AC.ret ?_))))
   exact AK.ret (L' := L) (F' := fB (partsL l i) _ _ _ :: F) Tryz.results174 rfl (Sub.headF (fun x hx => by repeat (first | exact hx | refine List.mem_cons_of_mem _ ?_))) (h _ _ _)
end
end Go.Sy
namespace Go.Sy
open Go Go.RowKit Go.Sort Go.Proofs
theorem get_putCells {F : Array Value} {c : Array Value} {t : Nat} (ht : t < F.size) (hc : t < c.size) : (putCells id 0 F c)[t]? = some F[t]! := by
  unfold putCells
  rw [Array.getElem?_mapIdx, Array.getElem?_eq_getElem hc, Option.map_some, if_pos ⟨Nat.zero_le _, by omega⟩]
  rfl
theorem size_putCells' (F c : Array Value) : (putCells id 0 F c).size = c.size := by unfold putCells; simp
section
variable {P : Program} {W0 : World} {L : List Res} {F : List Fact} {R : Value → List Res → List Fact → Prop}
theorem ACalls.sortK {α : Type} [Inhabited α] (enc : α → List Value) {k : Nat} (hk0 : 0 < k) (hk : ∀ x, (enc x).length = k) (lt : α → α → Bool) {f : FuncId} {fv : Value}
    (hcon : ∀ (blk cap : Nat) (d : Array α) (w : World), HoldsK enc k w blk 0 d → blk < w.heap.size → d.size < 4611686018427387904 →
      Calls P f #[.slice (some ⟨blk, 0, none⟩) d.size cap, fv] w fun e w' => e = .returned (.tuple #[]) ∧ ∃ d' n os, PermIn 0 d.size d d' ∧ SortedIn lt 0 d.size d' ∧ w' = sortWorldK enc k w blk 0 n d' os)
    (hnil : ∀ (w : World), Calls P f #[.slice none 0 0, fv] w fun e w' => e = .returned (.tuple #[]) ∧ w' = w)
    (lst : List α) (hls : lst.length < 4611686018427387904) {i : Nat} {v : Value} {e : TypeId} (hi : L[i]? = some (Res.own v e k (lst.map fun x => (enc x).map D.val)))
    (h : ∀ l2 : List α, l2.Perm lst → l2.Pairwise (fun x y => lt y x = false) → R (.tuple #[]) (L.set i (Res.own v e k (l2.map fun x => (enc x).map D.val))) F) :
    ACalls P W0 f #[v, fv] L F R := by
  intro w s
  obtain ⟨hb, hh, m, sx⟩ := id s
  have hl := has_lt hi
  obtain ⟨h0, hp⟩ : ownP v e k (lst.map fun x => (enc x).map D.val) hh (m i) := sx.res i _ hi
  rcases hp with ⟨rfl, hr, hm0⟩ | ⟨b, cap, cur, rfl, hm, hcap, hmax, hcs, hxx⟩
  · have hl0 : lst = [] := by simpa using hr
    subst hl0
    refine (hnil w).mono fun e' w' ⟨he, hw⟩ => ?_
    subst he hw
    refine ⟨_, _, _, rfl, h [] (List.Perm.refl _) List.Pairwise.nil, ?_⟩
    have : L.set i (Res.own (.slice none 0 0) e k (([] : List α).map fun x => (enc x).map D.val)) = L := by
      have h2 := (List.getElem?_eq_some_iff.1 hi).2
      rw [← h2]; exact List.set_getElem_self _
    rw [this]; exact s
  · have hll : (lst.map fun x => (enc x).map D.val).length = lst.length := List.length_map _
    rw [hll] at hcap
    have hbl := sx.own i b _ hl (by rw [hm]; exact one_self _ _)
    have hbw := hbl.2.1
    have hsz : lst.length * k ≤ cur.size := by rw [hcs]; exact Nat.mul_le_mul_right k hcap
    have hget : ∀ q, q < lst.length → ∀ j, j < k → cur[q * k + j]? = some (enc lst[q]!)[j]! := by
      intro q hq j hj
      obtain ⟨x, hx1, hx2⟩ := hxx q ((enc lst[q]).map D.val) j (.val (enc lst[q])[j]!) (by simp [hq]) (by
        have hjl : j < (enc lst[q]).length := by rw [hk]; exact hj
        simp [hjl])
      cases hx2
      rw [hx1]; simp [hq]
    have hH : HoldsK enc k w b 0 lst.toArray := by
      intro t ht
      have ht' : t < lst.length * k := by simpa using ht
      have hdiv : t / k < lst.length := Nat.div_lt_of_lt_mul (by rw [Nat.mul_comm]; exact ht')
      have hmod : t % k < k := Nat.mod_lt _ hk0
      have e1 := hget _ hdiv _ hmod
      have e2 : t / k * k + t % k = t := by have := Nat.div_add_mod t k; rw [Nat.mul_comm] at this; omega
      rw [e2] at e1
      refine ⟨?_, by simp [World.frozen?, hbw]⟩
      rw [get_flatK _ _ _ _ (by simpa using ht')]
      obtain ⟨cl⟩ := cur
      rw [Nat.zero_add, block_cell hbw]
      simpa using e1
    have hcall := hcon b cap lst.toArray w hH (block_lt hbw) (by simpa using hls)
    rw [hll]
    rw [show lst.toArray.size = lst.length by simp] at hcall
    refine Calls.mono hcall fun e' w' he => ?_
    obtain ⟨he, d', n, os, hperm, hsort, hw⟩ := he
    have hs' : d'.size = lst.length := by simpa using hperm.1
    subst he hw
    have hpl : d'.toList.Perm lst := by
      have := hperm.2.2
      have e1 : d'.extract 0 lst.length = d' := by
        apply Array.ext <;> simp [hs']
      have e2 : lst.toArray.extract 0 lst.length = lst.toArray := by
        apply Array.ext <;> simp
      rw [e1, e2] at this
      simpa using this
    have hsorted : d'.toList.Pairwise (fun x y => lt y x = false) := by
      rw [List.pairwise_iff_getElem]
      intro a c ha hc hac
      have hc' : c < d'.size := by simpa using hc
      have := hsort a c (Nat.zero_le _) hac (by omega)
      rw [getElem!_pos d' c hc', getElem!_pos d' a (by omega)] at this
      simpa using this
    refine ⟨_, _, _, rfl, h d'.toList hpl hsorted, ?_⟩
    have hheap : (sortWorldK enc k w b 0 n d' os).heap = w.heap.modify b (onCells (putCells id 0 (flatK enc k d'))) ++ os := rfl
    have hlt := block_lt hbw
    have hnew : (sortWorldK enc k w b 0 n d' os).heap[b]? = some (.cells (putCells id 0 (flatK enc k d') cur) e (0, 0)) := by
      rw [hheap, Array.getElem?_append_left (by simpa using hlt), Array.getElem?_modify, if_pos rfl, hbw]; rfl
    have st : Step w (sortWorldK enc k w b 0 n d' os) (m i) := by
      refine ⟨rfl, rfl, rfl, by rw [hheap]; simp, fun q hq hmq => ?_⟩
      have hqb : b ≠ q := fun e' => by subst e'; rw [hm, one_self] at hmq; simp at hmq
      rw [hheap, Array.getElem?_append_left (by simpa using hq), Array.getElem?_modify, if_neg hqb]
    refine ⟨Sat.below_of hb st (fun b' O hm' => (sx.own i b' O hl hm').1), hh, _, sx.upd hb.size hl st _ (one b (.cells (putCells id 0 (flatK enc k d') cur) e (0, 0))) ⟨?_, .inr ⟨b, cap, putCells id 0 (flatK enc k d') cur, by simp [hs'], rfl, by simp [hs']; exact hcap, hmax, by rw [size_putCells']; exact hcs, ?_⟩⟩ ?_⟩
    · intro q r hr
      simp only [List.getElem?_map, Option.map_eq_some_iff] at hr
      obtain ⟨x, _, rfl⟩ := hr
      simpa using hk x
    · intro q r j dd hr hj
      simp only [List.getElem?_map, Option.map_eq_some_iff] at hr
      obtain ⟨x, hx, rfl⟩ := hr
      simp only [List.getElem?_map, Option.map_eq_some_iff] at hj
      obtain ⟨u, hu, rfl⟩ := hj
      have hql : q < d'.size := by simpa using has_lt' hx
      have hjk : j < k := by have := has_lt' hu; rw [hk] at this; exact this
      have hpl2 : q * k + j < d'.size * k := by
        have := Nat.mul_le_mul_right k (show q + 1 ≤ d'.size from hql)
        rw [Nat.add_mul, Nat.one_mul] at this; omega
      refine ⟨u, ?_, .val _⟩
      rw [get_putCells (by simpa using hpl2) (by rw [hs'] at hpl2; omega), get_flatK _ _ _ _ hpl2]
      have e1 : (q * k + j) / k = q := by rw [Nat.mul_comm, Nat.mul_add_div (by omega), Nat.div_eq_of_lt hjk]; rfl
      have e2 : (q * k + j) % k = j := by rw [Nat.mul_comm, Nat.mul_add_mod, Nat.mod_eq_of_lt hjk]
      have hx2 : d'[q]! = x := by
        rw [getElem!_pos d' q hql]; have := (List.getElem?_eq_some_iff.1 hx).2; simpa using this
      rw [e1, e2, hx2]
      have := (List.getElem?_eq_some_iff.1 hu)
      obtain ⟨hju, hju2⟩ := this
      rw [getElem!_pos _ j hju, hju2]
    · intro b' O hm'
      obtain ⟨rfl, rfl⟩ := one_some hm'
      exact ⟨.inl (by rw [hm, one_self]; simp), hnew⟩
end
end Go.Sy
namespace Go.Sy
open Go Go.Proofs Go.RowKit
abbrev eTm (x : Tm) : List D := [.val (S x.1), .val (.int .i64 x.2)]
def oddK (l : List Ty) (k : Int) : Prop := kindAt l k = 7 ∨ kindAt l k = 9 ∨ (14 ≤ k ∧ k ≤ 19)
theorem zips_len {t : Ty} (h : t.words.length = t.kids.length) : (zips t).length = t.words.length := by unfold zips; rw [List.length_zip]; omega
theorem zips_get {t : Ty} {q : Nat} (hq : q < t.words.length) (hk : q < t.kids.length) (hz : q < (zips t).length) : (zips t)[q] = (t.words[q], t.kids[q]) := by simp [zips]
theorem decl_yes {zs : List Tm} {q : Nat} (hq : q < zs.length) (h : ¬ markP zs[q].1) : declsR (zs.take q) ++ [zs[q]] = declsR (zs.take (q + 1)) := by
  rw [List.take_succ_eq_append_getElem hq, declsR_snoc, if_neg h]
theorem decl_no {zs : List Tm} {q : Nat} (hq : q < zs.length) (h : markP zs[q].1) : declsR (zs.take q) = declsR (zs.take (q + 1)) := by
  rw [List.take_succ_eq_append_getElem hq, declsR_snoc, if_pos h]
theorem term_no {zs : List Tm} {q : Nat} (hq : q < zs.length) (h : ¬ markP zs[q].1) : termsA (zs.take q) = termsA (zs.take (q + 1)) := by
  rw [List.take_succ_eq_append_getElem hq, termsA_snoc, if_neg h]
theorem term_yes {zs : List Tm} {q : Nat} (hq : q < zs.length) (h : markP zs[q].1) : addTm (termsA (zs.take q)) zs[q] = termsA (zs.take (q + 1)) := by
  rw [List.take_succ_eq_append_getElem hq, termsA_snoc, if_pos h]
theorem addTm_none {a : List Tm} {z : Tm} (h : a.findIdx? (·.2 == z.2) = none) : a ++ [z] = addTm a z := by unfold addTm; rw [h]
theorem addTm_set {a : List Tm} {z : Tm} {k : Nat} (h : a.findIdx? (·.2 == z.2) = some k) (hz : z.1 = [126]) : a.set k z = addTm a z := by unfold addTm; rw [h]; simp only; rw [if_pos hz]
theorem addTm_stay {a : List Tm} {z : Tm} {k : Nat} (h : a.findIdx? (·.2 == z.2) = some k) (hz : z.1 ≠ [126]) : a = addTm a z := by unfold addTm; rw [h]; simp only; rw [if_neg hz]
theorem declsR_len (zs : List Tm) : (declsR zs).length ≤ zs.length := by unfold declsR; exact List.length_filter_le ..
theorem termsA_len (zs : List Tm) : (termsA zs).length ≤ zs.length := by
  refine snocInd (P := fun zs => (termsA zs).length ≤ zs.length) (by simp [termsA]) ?_ zs
  intro zs z ih
  rw [termsA_snoc, List.length_append]
  split
  · unfold addTm
    split
    · rw [List.length_append]; simp only [List.length_cons, List.length_nil]; omega
    · split
      · rw [List.length_set]; simp only [List.length_cons, List.length_nil]; omega
      · simp only [List.length_cons, List.length_nil]; omega
  · simp only [List.length_cons, List.length_nil]; omega
theorem odd_not {l : List Ty} {t : Ty} (h : ∀ z ∈ zips t, markP z.1 → ¬ oddK l z.2) : ¬ oddP l t := fun ⟨z, hz, hm, ho⟩ => h z hz hm ho
theorem odd_step {l : List Ty} {zs : List Tm} {q : Nat} (hq : q < zs.length) (h : ∀ z ∈ zs.take q, markP z.1 → ¬ oddK l z.2) (h2 : markP zs[q].1 → ¬ oddK l zs[q].2) : ∀ z ∈ zs.take (q + 1), markP z.1 → ¬ oddK l z.2 := by
  intro z hz
  rw [List.take_succ_eq_append_getElem hq] at hz
  rcases List.mem_append.1 hz with k | k
  · exact h z k
  · have : z = zs[q] := by simpa using k
    rw [this]; exact h2
abbrev Fm := List UInt8 × Fin 1048576
def encF (x : Fm) : List Value := [S x.1, .int .i64 ((x.2.val : Nat) : Int)]
def toF (x : Tm) : Fm := (x.1, ⟨x.2.toNat % 1048576, Nat.mod_lt _ (by decide)⟩)
def ofF (x : Fm) : Tm := (x.1, ((x.2.val : Nat) : Int))
def cfF (x y : Fm) : Int := ((x.2.val : Nat) : Int) - ((y.2.val : Nat) : Int)
theorem ltF (x y : Fm) : ltOf cfF x y = decide (x.2.val < y.2.val) := by
  unfold ltOf cfF
  rw [decide_eq_decide]; omega
theorem swoF : Go.Sort.SWO (ltOf cfF) where
  irrefl x := by rw [ltF]; simp
  trans x y z h1 h2 := by rw [ltF] at *; simp at *; omega
  ntrans x y z h1 h2 := by rw [ltF] at *; simp at *; omega
theorem of_to {x : Tm} (h : 0 ≤ x.2 ∧ x.2 < 1048576) : ofF (toF x) = x := by
  refine Prod.ext rfl ?_
  show (((x.2.toNat % 1048576 : Nat)) : Int) = x.2
  omega
theorem rowF (x : Fm) : (encF x).map D.val = eTm (ofF x) := rfl
theorem rowsF {a : List Tm} (h : ∀ x ∈ a, 0 ≤ x.2 ∧ x.2 < 1048576) : (a.map toF).map (fun x => (encF x).map D.val) = a.map eTm := by
  rw [List.map_map]
  refine List.map_congr_left fun x hx => ?_
  show (encF (toF x)).map D.val = _
  rw [rowF, of_to (h x hx)]
theorem sortedF {a : List Tm} (h : ∀ x ∈ a, 0 ≤ x.2 ∧ x.2 < 1048576) {l2 : List Fm} (hp : l2.Perm (a.map toF)) (hs : l2.Pairwise fun x y => ltOf cfF y x = false) : (l2.map ofF).Perm a ∧ (l2.map ofF).Pairwise fun x y => x.2 ≤ y.2 := by
  constructor
  · have := hp.map ofF
    rw [List.map_map] at this
    have e : a.map (ofF ∘ toF) = a := by
      conv => rhs; rw [← List.map_id a]
      exact List.map_congr_left fun x hx => of_to (h x hx)
    rwa [e] at this
  · rw [List.pairwise_map]
    refine hs.imp fun {x y} hxy => ?_
    rw [ltF] at hxy
    have := of_decide_eq_false hxy
    show ((x.2.val : Nat) : Int) ≤ ((y.2.val : Nat) : Int)
    omega
open Go.Sort in
theorem closeF (x y : Fm) (W : World) : Calls Tryz.prog 213 #[.agg (encF x).toArray, .agg (encF y).toArray] W fun e w' => e = .returned (.int .i64 (cfF x y)) ∧ ∃ q os', w' = Go.Sort.grow (W.drewN q) os' := by
  unfold encF cfF
  have hx := x.2.isLt
  have hy := y.2.isLt
  generalize x.2.val = i at *
  generalize y.2.val = j at *
  have hw : IntKind.i64.wrap ((i : Int) - (j : Int)) = (i : Int) - (j : Int) := wrap_i64 (by omega) (by omega)
  go_enter Tryz.func213, Tryz.ntmps213
  go_wp2
  go_ret
  exact ⟨rfl, 0, _, by rw [alloc_eq_grow, alloc_eq_grow, grow_grow]; rfl⟩
end Go.Sy
namespace Go.Sy
open Go Go.Proofs Go.RowKit
theorem eS_one {x : List UInt8} {d : D} (hd : d ∈ eS x) {v : Value} (hv : d = .val v) : oneC v = true := by
  subst hv; simp at hd; subst hd; rfl
theorem eI_one {x : Int} {d : D} (hd : d ∈ eI x) {v : Value} (hv : d = .val v) : oneC v = true := by
  subst hv; simp at hd; subst hd; rfl
theorem eTm_get {a : List Tm} {k : Nat} (hk : k < a.length) : (a.map eTm)[k]? = some ([S a[k].1, .int .i64 a[k].2].map D.val) := by
  rw [List.getElem?_map, List.getElem?_eq_getElem hk]; rfl
theorem eTm_set {a : List Tm} {k : Nat} (hk : k < a.length) {z : Tm} (hz : a[k].2 = z.2) : (a.map eTm).set k (([S a[k].1, .int .i64 a[k].2].map D.val).set 0 (.val (S z.1))) = (a.set k z).map eTm := by
  rw [List.map_set]; congr 1; rw [hz]; rfl
theorem idx_first {a : List Tm} {k : Int} {q : Nat} (hq : q < a.length) (h : a[q].2 = k) (hn : ∀ j (hj : j < a.length), j < q → a[j].2 ≠ k) : a.findIdx? (·.2 == k) = some q := by
  rw [List.findIdx?_eq_some_iff_getElem]
  exact ⟨hq, by simp [h], fun j hj => by have := hn j (by omega) hj; simp [this]⟩
theorem idx_no {a : List Tm} {k : Int} (hn : ∀ j (hj : j < a.length), a[j].2 ≠ k) : a.findIdx? (·.2 == k) = none := by
  rw [List.findIdx?_eq_none_iff]
  intro x hx
  obtain ⟨j, hj, rfl⟩ := List.getElem_of_mem hx
  simp [hn j hj]
attribute [local irreducible] AC AT AO AK AH ACalls Sub Res.cells Res.nix Res.own Res.map Exit.then Exit.inBlock bodyPost Code.wp Code.wpIn WL Next Post Kont
section
variable {W0 : World} {L : List Res} {F : List Fact} {R : Value → List Res → List Fact → Prop}
set_option maxRecDepth 100000
set_option maxHeartbeats 8000000
theorem sortTm_c (a : List Tm) (ha : ∀ x ∈ a, 0 ≤ x.2 ∧ x.2 < 1048576) (hl : a.length ≤ 1000) {i : Nat} {v : Value} {e : TypeId} (hi : L[i]? = some (Res.own v e 2 (a.map eTm)))
    (h : ∀ b : List Tm, b.Perm a → b.Pairwise (fun x y => x.2 ≤ y.2) → R (.tuple #[]) (L.set i (Res.own v e 2 (b.map eTm))) F) : ACalls Tryz.prog W0 212 #[v, .func (.func 213) #[] #[]] L F R := by
  have eg : ∀ args w, (callFunc 213 args).run Tryz.prog w = .ok (.enter 213 args) w := enters_of Tryz.func213 (by kernel_rfl) rfl
  refine ACalls.sortK (k := 2) encF (by decide) (fun _ => rfl) (ltOf cfF) (fun blk cap d w hH hblk hsz => ?_) (fun w => ?_) (a.map toF) (by rw [List.length_map]; omega) (by rw [rowsF ha]; exact hi) (fun l2 hp hs => ?_)
  · exact AnyQ.slices_SortFunc Tryz.sortTerm 2 Tryz.isAgg266 Tryz.sizeOf266 encF (fun _ => rfl) (fun x v hv => by unfold encF at hv; simp at hv; rcases hv with rfl | rfl <;> rfl) cfF swoF 213 #[] blk 0 cap d w eg (fun m os dk _ x y => by have := closeF x y (sortWorldK encF 2 w blk 0 m dk os); simpa using this) hH hblk hsz
  · exact AnyF.slices_SortFunc_none Tryz.sortTerm none 0 _ w
  · obtain ⟨h1, h2⟩ := sortedF ha hp hs
    have e1 : l2.map (fun x => (encF x).map D.val) = (l2.map ofF).map eTm := by rw [List.map_map]; rfl
    rw [e1]
    exact h _ h1 h2
theorem mark_c (s : List UInt8) (hT : markP s → R (.bool true) L F) (hF : ¬ markP s → R (.bool false) L F) : ACalls Tryz.prog W0 209 #[S s] L F R := by
  refine ACalls.body Tryz.func209 rfl Tryz.ntmps209 rfl ?_
  refine AC.seq (AC.region (AL.go (AO.assign rfl rfl (AL.nil (AK.seqN (AC.seq ?_))))))
  refine AC.region (AL.go (AO.move rfl rfl ?_))
  refine AL.go (AO.eqlS rfl rfl rfl (fun c4 => ?_) (fun c4 => ?_))
  ·refine AL.go (AO.move rfl rfl (AL.no rfl rfl rfl rfl (AL.no rfl rfl rfl rfl (AL.go (AO.pickT rfl rfl rfl (AL.go (AO.assign rfl rfl (AL.nil ?_))))))))
   refine AK.seqN (AC.ret ?_)
   first | exact AK.ret Tryz.results209 rfl (Sub.refl _ _) (hT (Or.inl c4)) | exact AK.ret Tryz.results209 rfl (Sub.refl _ _) (hT (Or.inr c7)) | exact AK.ret Tryz.results209 rfl (Sub.refl _ _) (hF (fun e => e.elim c4 c7))
  ·refine AL.go (AO.move rfl rfl (AL.yes rfl rfl (AO.move rfl rfl ?_)))
   refine AL.yes rfl rfl (AO.eqlS rfl rfl rfl (fun c7 => ?_) (fun c7 => ?_))
   ·refine AL.go (AO.pickF rfl rfl rfl (AL.go (AO.assign rfl rfl (AL.nil (AK.seqN (AC.ret ?_))))))
    first | exact AK.ret Tryz.results209 rfl (Sub.refl _ _) (hT (Or.inl c4)) | exact AK.ret Tryz.results209 rfl (Sub.refl _ _) (hT (Or.inr c7)) | exact AK.ret Tryz.results209 rfl (Sub.refl _ _) (hF (fun e => e.elim c4 c7))
   ·refine AL.go (AO.pickF rfl rfl rfl (AL.go (AO.assign rfl rfl (AL.nil (AK.seqN (AC.ret ?_))))))
    first | exact AK.ret Tryz.results209 rfl (Sub.refl _ _) (hT (Or.inl c4)) | exact AK.ret Tryz.results209 rfl (Sub.refl _ _) (hT (Or.inr c7)) | exact AK.ret Tryz.results209 rfl (Sub.refl _ _) (hF (fun e => e.elim c4 c7))
theorem term1_c (x : Tm) (kid : Int) {b j : Nat} {e : TypeId} (hj : L[j]? = some (Res.cells b #[.int .i64 kid] e)) (hT : x.2 = kid → R (.bool true) L F) (hF : x.2 ≠ kid → R (.bool false) L F) : ACalls Tryz.prog W0 211 #[.agg #[S x.1, .int .i64 x.2], .pointer (some ⟨b, 0, none⟩)] L F R := by
  refine ACalls.body Tryz.func211 rfl Tryz.ntmps211 rfl ?_
  refine AC.seq (AC.region (AL.go (AO.box rfl rfl (fun b2 => ?_))))
  refine AL.go (AO.assign rfl rfl (AL.nil (AK.seqN (AC.seq (AC.region (AL.go (AO.field rfl rfl ?_)))))))
  refine AL.go (AO.loadB rfl rfl ?_)
  refine AL.go (AO.loadB (cs := [.int .i64 kid]) rfl rfl ?_ (i := j + 1) (hi := hj) (hv := rfl))
  refine AL.go (AO.eql rfl rfl rfl (fun c7 => ?_) (fun c7 => ?_))
  ·refine AL.go (AO.assign rfl rfl (AL.nil (AK.seqN (AC.ret ?_))))
   first | exact AK.ret (L' := L) (F' := F) Tryz.results211 rfl Sub.drop (hT c7) | exact AK.ret (L' := L) (F' := F) Tryz.results211 rfl Sub.drop (hF c7)
  ·refine AL.go (AO.assign rfl rfl (AL.nil (AK.seqN (AC.ret ?_))))
   first | exact AK.ret (L' := L) (F' := F) Tryz.results211 rfl Sub.drop (hT c7) | exact AK.ret (L' := L) (F' := F) Tryz.results211 rfl Sub.drop (hF c7)
theorem idxTm_c (a : List Tm) (hl : a.length ≤ 1000) (kid : Int) {b i j : Nat} {e : TypeId} {a0 : Option Addr} {k0 c0 : Nat} (hi : L[i]? = some (Res.own (.slice a0 k0 c0) 266 2 (a.map eTm))) (hj : L[j]? = some (Res.cells b #[.int .i64 kid] e))
    (hF : a.findIdx? (·.2 == kid) = none → R (.int .i64 (-1)) L F) (hT : ∀ k : Nat, a.findIdx? (·.2 == kid) = some k → R (.int .i64 (k : Int)) L F) : ACalls Tryz.prog W0 210 #[.slice a0 k0 c0, .func (.func 211) #[] #[.pointer (some ⟨b, 0, none⟩)]] L F R := by
  refine ACalls.body Tryz.func210 rfl Tryz.ntmps210 rfl ?_
  refine AC.seq (AC.region (AL.go (AO.assign rfl rfl (AL.nil (AK.seqN (AC.seq ?_))))))
  refine AC.seq (AC.region (AL.go (AO.move rfl rfl ?_)))
  refine AL.go (AO.lenO (i := i) rfl rfl hi (fun hk7 => ?_))
  rw [List.length_map]
  refine AL.go (AO.move rfl rfl (AL.nil (AK.seqN (AC.block ?_))))
  refine AC.loopC (fun (q : Nat) => q ≤ a.length ∧ ∀ j (hj : j < a.length), j < q → a[j].2 ≠ kid) (fun q => [(0, .slice a0 k0 c0), (1, .func (.func 211) #[] #[.pointer (some ⟨b, 0, none⟩)]), (7, .int .i64 a.length), (8, .int .i64 (q : Int))]) (fun q => a.length - q) 0 ⟨by omega, by omega⟩ srA ?_
  rintro q ⟨hq, hok⟩
  refine AC.seq (AC.region ?_)
  refine AL.go (AO.lss rfl rfl rfl (fun c9 => ?_) (fun c9 => ?_))
  ·refine AL.nil (AK.seqN (AC.seq (AC.condT rfl (AC.skip (AK.seqN ?_)))))
   refine AC.seq (AC.block (AC.seq (AC.region (AL.go (AO.move rfl rfl (AL.go (AO.assign rfl rfl ?_)))))))
   refine AL.nil (AK.seqN (AC.seq (AC.region (AL.go (AO.move rfl rfl (AL.go (AO.move rfl rfl ?_)))))))
   refine AL.go (AO.move rfl rfl ?_)
   have hql : q < a.length := by omega
   refine AL.go (AO.indexAddrO (i := i) (q := q) rfl rfl rfl rfl hi (by rw [List.length_map]; exact hql) (fun bo ho => ?_))
   subst ho
   refine AL.go (AO.loadOA (i := i) (q := q) (vs := [S a[q].1, .int .i64 a[q].2]) rfl rfl rfl hi (eTm_get hql) rfl ?_)
   refine AL.go (AO.callC (cs := [.pointer (some ⟨b, 0, none⟩)]) rfl rfl rfl (term1_c a[q] kid hj (fun c16 => ?_) (fun c16 => ?_)))
   ·refine AL.nil (AK.seqN (AC.condT rfl (AC.seq (AC.region (AL.go (AO.move rfl rfl ?_))))))
    refine AL.go (AO.assign rfl rfl (AL.nil (AK.seqN (AC.ret (AK.blkR (AK.seqR ?_))))))
    refine AK.seqR (AK.blkR (AK.seqR ?_))
    first | exact AK.ret (L' := L) (F' := F) Tryz.results210 rfl subF (hT q (idx_first hql c16 hok)) | exact AK.ret (L' := L) (F' := F) Tryz.results210 rfl subF (hF (idx_no (fun j hj => hok j hj (by omega))))
   ·refine AL.nil (AK.seqN (AC.condF rfl (AC.skip (AK.blkN (AK.seqN ?_)))))
    refine AC.region (AL.go (AO.add rfl rfl rfl (by omega) (by omega) (AL.go (AO.move rfl rfl (AL.nil ?_)))))
    refine AK.next (q + 1) ⟨by omega, fun j hj hjq => ?_⟩ (by omega) srA subF
    rcases Nat.lt_succ_iff_lt_or_eq.1 hjq with k9 | rfl
    · exact hok j hj k9
    · exact c16
  ·refine AL.nil (AK.seqN (AC.seq (AC.condF rfl (AC.exit (AK.seqX ?_)))))
   refine AK.seqX (AK.blkX (AK.seqN (AC.seq (AC.region (AL.go (AO.assign rfl rfl ?_))))))
   refine AL.nil (AK.seqN (AC.ret ?_))
   first | exact AK.ret (L' := L) (F' := F) Tryz.results210 rfl subF (hT q (idx_first hql c16 hok)) | exact AK.ret (L' := L) (F' := F) Tryz.results210 rfl subF (hF (idx_no (fun j hj => hok j hj (by omega))))
end
end Go.Sy
namespace Go.Sy
open Go Go.Proofs Go.RowKit
theorem fst_snoc {A : List Tm} {z : Tm} : (A.map (·.1)) ++ [z.1] = (A ++ [z]).map (·.1) := by simp
theorem snd_snoc {A : List Tm} {z : Tm} : (A.map (·.2)) ++ [z.2] = (A ++ [z]).map (·.2) := by simp
theorem take_snoc {α : Type} {A B : List α} {u : Nat} (hu : u < B.length) : (A ++ B.take u) ++ [B[u]] = A ++ B.take (u + 1) := by
  rw [List.append_assoc, ← List.take_succ_eq_append_getElem hu]
theorem termsA_in {B : Int} {zs : List Tm} (h : ∀ z ∈ zs, 0 ≤ z.2 ∧ z.2 < B) : ∀ x ∈ termsA zs, 0 ≤ x.2 ∧ x.2 < B := by
  intro x hx
  obtain ⟨h1, h2⟩ := ((termsA_is zs).2 x).1 hx
  obtain ⟨z, hz, _, e⟩ := markOf_kid zs x.2 (by rw [← h1]; exact h2)
  rw [← e]; exact h z hz
theorem zips_in {t : Ty} {B : Int} (h : ∀ k ∈ t.kids, 0 ≤ k ∧ k < B) : ∀ z ∈ zips t, 0 ≤ z.2 ∧ z.2 < B := fun _ hz => h _ (List.of_mem_zip hz).2
attribute [local irreducible] AC AT AO AK AH ACalls Sub Res.cells Res.nix Res.own Res.map Exit.then Exit.inBlock bodyPost Code.wp Code.wpIn WL Next Post Kont
section
variable {W0 : World} {L : List Res} {F : List Fact} {R : Value → List Res → List Fact → Prop}
set_option maxRecDepth 100000
set_option maxHeartbeats 8000000
theorem terms_c (l : List Ty) (h400 : l.length ≤ 400) (t : Ty) (hkl : t.kids.length ≤ 20) (hk : ∀ k ∈ t.kids, 0 ≤ k ∧ k < l.length) (hwk : t.words.length = t.kids.length) (hname : t.name = []) {a a1 a2 : Option Addr} {k c k1 c1 k2 c2 : Nat} (mL : fL l a k c ∈ F) (m1 : fW t a1 k1 c1 ∈ F) (m2 : fK t a2 k2 c2 ∈ F)
    (hT : oddP l t → R (.tuple #[vTy (basicT []) none 0 0 none 0 0, .bool false]) L F)
    (hF : ¬ oddP l t → ∀ a1 k1 c1 a2 k2 c2, R (.tuple #[vTy (termsT l.length t) a1 k1 c1 a2 k2 c2, .bool true]) L (fW (termsT l.length t) a1 k1 c1 :: fK (termsT l.length t) a2 k2 c2 :: F)) : ACalls Tryz.prog W0 176 #[.slice a k c, vTy t a1 k1 c1 a2 k2 c2] L F R := by
  have hml : 1000000 ≤ maxLen := by decide
  have hzl := zips_len hwk
  have hzin := zips_in hk
  refine ACalls.body Tryz.func176 rfl Tryz.ntmps176 rfl ?_
  refine AC.seq (AC.region (AL.go (AO.box rfl rfl (fun b3 => ?_))))
  refine AL.go (AO.alloc rfl (fun b4 => ?_))
  refine AL.go (AO.assign rfl rfl (AL.nil (AK.seqN (AC.seq (AC.region ?_)))))
  refine AL.go (AO.loadBA rfl rfl ?_)
  refine AL.go (AO.alloc rfl (fun b6 => ?_))
  refine AL.go (AO.storeBA rfl rfl rfl rfl ?_)
  refine AL.nil (AK.seqN (AC.seq (AC.region (AL.go (AO.field rfl rfl ?_)))))
  refine AL.go (AO.storeB rfl rfl rfl ?_)
  refine AL.go (AO.field rfl rfl ?_)
  refine AL.go (AO.storeB rfl rfl rfl ?_)
  refine AL.nil (AK.seqN (AC.seq (AC.region (AL.go (AO.assign rfl rfl (AL.nil ?_))))))
  refine AK.seqN (AC.seq (AC.seq (AC.region ?_)))
  refine AL.go (AO.field rfl rfl ?_)
  refine AT.sub ((Sub.ownNil (e := 9) (sz := 1)).trans ((Sub.ownNil (e := 3) (sz := 1)).trans (Sub.ownNil (e := 266) (sz := 2)))) ?_
  refine AL.go (AO.loadB rfl rfl ?_)
  refine AL.go (AO.len rfl rfl (fun hl20 => ?_) (hm := by repeat (first | exact mem0 | assumption | refine memS ?_)))
  refine AL.go (AO.move rfl rfl (AL.nil (AK.seqN (AC.block ?_))))
  refine AC.loop (fun (x : Nat × (Option Addr × Nat × Nat) × (Option Addr × Nat × Nat) × (Option Addr × Nat × Nat)) => x.1 ≤ t.words.length ∧ ∀ z ∈ (zips t).take x.1, markP z.1 → ¬ oddK l z.2) (fun x => [(0, .slice a k c), (3, .pointer (some ⟨b3, 0, none⟩)), (4, .pointer (some ⟨b4, 0, none⟩)), (6, .pointer (some ⟨b6, 0, none⟩)), (7, .slice x.2.2.2.1 x.2.2.2.2.1 x.2.2.2.2.2), (19, .slice a1 k1 c1), (20, .int .i64 t.words.length), (21, .int .i64 (x.1 : Int))]) (fun x => Res.own (.slice x.2.2.2.1 x.2.2.2.2.1 x.2.2.2.2.2) 266 2 ((termsA ((zips t).take x.1)).map eTm) :: Res.own (.slice x.2.2.1.1 x.2.2.1.2.1 x.2.2.1.2.2) 3 1 (((declsR ((zips t).take x.1)).map (·.2)).map eI) :: Res.own (.slice x.2.1.1 x.2.1.2.1 x.2.1.2.2) 9 1 (((declsR ((zips t).take x.1)).map (·.1)).map eS) :: Res.cells b6 #[.int .i64 t.kind, S t.name, .int .i64 t.n, .slice x.2.1.1 x.2.1.2.1 x.2.1.2.2, .slice x.2.2.1.1 x.2.2.1.2.1 x.2.2.1.2.2] 29 :: _) (fun _ => F) (fun x => t.words.length - x.1) (0, (none, 0, 0), (none, 0, 0), (none, 0, 0)) ⟨Nat.zero_le _, fun z hz => by simp at hz⟩ srA (Sub.refl _ _) ?_
  rintro ⟨q, ⟨aW, kW, cW⟩, ⟨aK, kK, cK⟩, ⟨aT, kT, cT⟩⟩ ⟨hq, hno⟩
  simp only at hq hno ⊢
  refine AC.seq (AC.region ?_)
  refine AL.go (AO.lss rfl rfl rfl (fun c22 => ?_) (fun c22 => ?_))
  ·refine AL.nil (AK.seqN (AC.seq (AC.condT rfl (AC.skip (AK.seqN ?_)))))
   refine AC.seq (AC.block (AC.seq (AC.region (AL.go (AO.move rfl rfl ?_)))))
   have hqw : q < t.words.length := by omega
   have hqk : q < t.kids.length := by omega
   have hqz : q < (zips t).length := by omega
   have hz := zips_get hqw hqk hqz
   have hb := hk _ (List.getElem_mem hqk)
   have hdl := declsR_len ((zips t).take q)
   have htl := termsA_len ((zips t).take q)
   have hzt : ((zips t).take q).length = q := by rw [List.length_take]; omega
   refine AL.go (AO.indexAddr rfl rfl rfl rfl (show fW t _ _ _ ∈ _ from memA) hqw (fun _ _ => ?_))
   refine AL.go (AO.loadF rfl rfl ?_)
   intros
   refine AL.go (AO.assign rfl rfl (AL.go (AO.assign rfl rfl (AL.nil (AK.seqN (AC.seq (AC.region ?_)))))))
   refine AL.go (AO.field rfl rfl ?_)
   refine AL.go (AO.loadB rfl rfl ?_)
   refine AL.go (AO.move rfl rfl ?_)
   refine AL.go (AO.indexAddr rfl rfl rfl rfl (show fK t _ _ _ ∈ _ from memA) hqk (fun _ _ => ?_))
   refine AL.go (AO.loadF rfl rfl ?_)
   intros
   refine AL.go (AO.alloc rfl (fun b10 => ?_))
   refine AL.go (AO.storeB rfl rfl rfl ?_)
   refine AT.sub (Sub.ofEq (L' := Res.cells b10 #[.int .i64 t.kids[q]] 3 :: _) rfl) ?_
   refine AL.nil (AK.seqN (AC.seq (AC.seq (AC.region (AL.go (AO.move rfl rfl ?_))))))
   refine AL.go (AO.call rfl rfl (mark_c t.words[q] (fun c32 => ?_) (fun c32 => ?_)))
   ·refine AL.go (AO.not rfl rfl (AL.nil (AK.seqN (AC.condF rfl (AC.skip (AK.seqN ?_))))))
    refine AC.seq (AC.seq (AC.region (AL.go (AO.move rfl rfl ?_))))
    refine AL.go (AO.loadB rfl rfl ?_)
    have hkn : t.kids[q].toNat < l.length := by omega
    have hkt : kindAt l t.kids[q] = l[t.kids[q].toNat].kind := kind_get (by omega) hkn
    have hym : markP (zips t)[q].1 := by rw [hz]; exact c32
    refine AL.go (AO.indexAddr (k := t.kids[q].toNat) rfl rfl rfl (by omega) (enc := eTy) (lst := l) memA hkn (fun _ _ => ?_))
    refine AL.go (AO.fieldAt rfl rfl (fun _ => ?_))
    refine AL.go (AO.loadF rfl rfl ?_)
    intros
    refine AL.go (AO.assign rfl rfl (AL.nil (AK.seqN (AC.seq (AC.region (AL.go (AO.move rfl rfl ?_)))))))
    refine AL.go (AO.eql rfl rfl rfl (fun c52 => ?_) (fun c52 => ?_))
    ·refine AL.go (AO.move rfl rfl (AL.no rfl rfl rfl rfl (AL.no rfl rfl rfl rfl (AL.go (AO.pickT rfl rfl rfl (AL.go (AO.move rfl rfl (AL.no rfl rfl rfl rfl ?_))))))))
     refine AL.no rfl rfl rfl rfl (AL.no rfl rfl rfl rfl (AL.no rfl rfl rfl rfl (AL.no rfl rfl rfl rfl (AL.no rfl rfl rfl rfl (AL.go (AO.pickT rfl rfl rfl ?_))))))
     refine AL.nil (AK.seqN (AC.condT rfl (AC.seq (AC.region (AL.go (AO.build rfl rfl rfl ?_))))))
     refine AL.go (AO.storeBA rfl rfl rfl rfl ?_)
     refine AL.go (AO.assign rfl rfl (AL.nil (AK.seqN (AC.ret (AK.seqR (AK.blkR ?_))))))
     refine AK.seqR (AK.seqR (AK.blkR (AK.seqR ?_)))
     refine AK.retV (rs := [.cell 4 _, .tmp 5]) (L' := L) (F' := F) Tryz.results176 (.agg (j := 5) rfl rfl rfl (.tmp rfl .nil)) subA (hT ⟨(zips t)[q], List.getElem_mem hqz, hym, ?_⟩)
     rw [hz]; simp only; rw [hkt]; omega
    ·refine AL.go (AO.move rfl rfl (AL.yes rfl rfl (AO.move rfl rfl ?_)))
     refine AL.yes rfl rfl (AO.eql rfl rfl rfl (fun c55 => ?_) (fun c55 => ?_))
     ·refine AL.go (AO.pickF rfl rfl rfl (AL.go (AO.move rfl rfl (AL.no rfl rfl rfl rfl (AL.no rfl rfl rfl rfl (AL.no rfl rfl rfl rfl (AL.no rfl rfl rfl rfl ?_)))))))
      refine AL.no rfl rfl rfl rfl (AL.no rfl rfl rfl rfl (AL.go (AO.pickT rfl rfl rfl (AL.nil (AK.seqN (AC.condT rfl ?_))))))
      refine AC.seq (AC.region (AL.go (AO.build rfl rfl rfl ?_)))
      refine AL.go (AO.storeBA rfl rfl rfl rfl ?_)
      refine AL.go (AO.assign rfl rfl (AL.nil (AK.seqN (AC.ret (AK.seqR (AK.blkR ?_))))))
      refine AK.seqR (AK.seqR (AK.blkR (AK.seqR ?_)))
      refine AK.retV (rs := [.cell 4 _, .tmp 5]) (L' := L) (F' := F) Tryz.results176 (.agg (j := 5) rfl rfl rfl (.tmp rfl .nil)) subA (hT ⟨(zips t)[q], List.getElem_mem hqz, hym, ?_⟩)
      rw [hz]; simp only; rw [hkt]; omega
     ·refine AL.go (AO.pickF rfl rfl rfl (AL.go (AO.move rfl rfl ?_)))
      refine AL.yes rfl rfl (AO.loadB rfl rfl ?_)
      refine AL.yes rfl rfl (AO.geq rfl rfl rfl (fun c59 => ?_) (fun c59 => ?_))
      ·refine AL.yes rfl rfl (AO.move rfl rfl ?_)
       refine AL.yes rfl rfl (AO.loadB rfl rfl ?_)
       refine AL.yes rfl rfl (AO.leq rfl rfl rfl (fun c62 => ?_) (fun c62 => ?_))
       ·refine AL.yes rfl rfl (AO.pickT rfl rfl rfl (AL.go (AO.pickF rfl rfl rfl (AL.nil (AK.seqN (AC.condT rfl (AC.seq ?_)))))))
        refine AC.region (AL.go (AO.build rfl rfl rfl ?_))
        refine AL.go (AO.storeBA rfl rfl rfl rfl ?_)
        refine AL.go (AO.assign rfl rfl (AL.nil (AK.seqN (AC.ret (AK.seqR (AK.blkR ?_))))))
        refine AK.seqR (AK.seqR (AK.blkR (AK.seqR ?_)))
        refine AK.retV (rs := [.cell 4 _, .tmp 5]) (L' := L) (F' := F) Tryz.results176 (.agg (j := 5) rfl rfl rfl (.tmp rfl .nil)) subA (hT ⟨(zips t)[q], List.getElem_mem hqz, hym, ?_⟩)
        rw [hz]; simp only; rw [hkt]; omega
       ·refine AL.yes rfl rfl (AO.pickT rfl rfl rfl (AL.go (AO.pickF rfl rfl rfl (AL.nil (AK.seqN (AC.condF rfl (AC.skip ?_)))))))
        refine AK.seqN (AC.seq (AC.region (AL.go (AO.move rfl rfl ?_))))
        refine AL.go (AO.makeFunc rfl rfl ?_)
        have hodd : ¬ oddK l (zips t)[q].2 := by
         rw [hz]; simp only; unfold oddK; rw [hkt]; omega
        refine AL.go (AO.call rfl rfl (idxTm_c (termsA ((zips t).take q)) (by omega) t.kids[q] (i := 1) (j := 0) rfl rfl (fun c68 => ?_) (fun j68 c68 => ?_)))
        ·refine AL.go (AO.assign rfl rfl (AL.nil (AK.seqN (AC.seq (AC.region (AL.go (AO.move rfl rfl ?_)))))))
         refine AL.go (AO.lss rfl rfl rfl (fun _ => ?_) (fun c70 => absurd c70 (by decide)))
         refine AL.nil (AK.seqN (AC.condT rfl (AC.region (AL.go (AO.move rfl rfl (AL.go (AO.move rfl rfl ?_)))))))
         refine AL.go (AO.loadB rfl rfl ?_)
         refine AL.go (AO.build rfl rfl rfl ?_)
         refine AL.go (AO.buildSlice rfl rfl rfl rfl rfl (fun b75 => ?_))
         refine AL.go (AO.append (i := 1) (enc := eTm) (lst := termsA ((zips t).take q)) [(t.words[q], t.kids[q])] rfl rfl rfl rfl (.val (.val .nil)) rfl rfl (fun _ => rfl) (by omega) (by omega) (fun a76 k76 z76 => ?_))
         refine AL.go (AO.assign rfl rfl (AL.nil (AK.blkN (AK.seqN (AC.region (AL.go (AO.add rfl rfl rfl (by omega) (by omega) ?_)))))))
         refine AL.go (AO.move rfl rfl (AL.nil ?_))
         have e1 : termsA ((zips t).take q) ++ [(t.words[q], t.kids[q])] = termsA ((zips t).take (q + 1)) := by rw [← term_yes hqz hym, hz]; exact addTm_none c68
         rw [e1, decl_no hqz hym]
         exact AK.next (q + 1, (aW, kW, cW), (aK, kK, cK), (a76, k76, z76)) ⟨by simp only; omega, odd_step hqz hno (fun _ => hodd)⟩ (by simp only; omega) srA (Sub.drop.trans subF)
        ·refine AL.go (AO.assign rfl rfl (AL.nil (AK.seqN (AC.seq (AC.region (AL.go (AO.move rfl rfl ?_)))))))
         refine AL.go (AO.lss rfl rfl rfl (fun c70 => absurd c70 (by omega)) (fun _ => ?_))
         refine AL.nil (AK.seqN (AC.condF rfl (AC.seq (AC.region (AL.go (AO.move rfl rfl ?_))))))
         refine AL.go (AO.eqlS rfl rfl rfl (fun c78 => ?_) (fun c78 => ?_))
         ·refine AL.nil (AK.seqN (AC.condT rfl (AC.region (AL.go (AO.move rfl rfl (AL.go (AO.move rfl rfl ?_)))))))
          refine AL.go (AO.move rfl rfl ?_)
          have hj68 : j68 < (termsA ((zips t).take q)).length := (idx_some c68).1
          refine AL.go (AO.indexAddrO (i := 1) (q := j68) rfl rfl rfl rfl rfl (by rw [List.length_map]; exact hj68) (fun bo ho => ?_))
          subst ho
          refine AL.go (AO.field rfl rfl ?_)
          refine AL.go (AO.storeOR (i := 1) (q := j68) (j := 0) rfl rfl rfl rfl rfl (eTm_get hj68) (by simp) ?_)
          have e2 : ((termsA ((zips t).take q)).map eTm).set j68 (([S (termsA ((zips t).take q))[j68].1, .int .i64 (termsA ((zips t).take q))[j68].2].map D.val).set 0 (.val (S t.words[q]))) = (termsA ((zips t).take (q + 1))).map eTm := by
           rw [← term_yes hqz hym, hz, ← addTm_set (z := (t.words[q], t.kids[q])) c68 c78]
           exact eTm_set hj68 (z := (t.words[q], t.kids[q])) (idx_some c68).2
          show AT _ _ _ _ (_ :: Res.own (.slice (some ⟨bo, 0, none⟩) kT cT) 266 2 (((termsA ((zips t).take q)).map eTm).set j68 (([S (termsA ((zips t).take q))[j68].1, .int .i64 (termsA ((zips t).take q))[j68].2].map D.val).set 0 (.val (S t.words[q])))) :: _) _
          rw [e2]
          refine AL.nil (AK.blkN (AK.seqN (AC.region (AL.go (AO.add rfl rfl rfl (by omega) (by omega) (AL.go (AO.move rfl rfl ?_)))))))
          refine AL.nil ?_
          rw [decl_no hqz hym]
          exact AK.next (q + 1, (aW, kW, cW), (aK, kK, cK), (some ⟨bo, 0, none⟩, kT, cT)) ⟨by simp only; omega, odd_step hqz hno (fun _ => hodd)⟩ (by simp only; omega) srA (Sub.drop.trans subF)
         ·refine AL.nil (AK.seqN (AC.condF rfl (AC.skip (AK.blkN (AK.seqN ?_)))))
          refine AC.region (AL.go (AO.add rfl rfl rfl (by omega) (by omega) (AL.go (AO.move rfl rfl (AL.nil ?_)))))
          have e3 : termsA ((zips t).take q) = termsA ((zips t).take (q + 1)) := by rw [← term_yes hqz hym, hz]; exact addTm_stay c68 c78
          rw [decl_no hqz hym, e3]
          exact AK.next (q + 1, (aW, kW, cW), (aK, kK, cK), (aT, kT, cT)) ⟨by simp only; omega, odd_step hqz hno (fun _ => hodd)⟩ (by simp only; omega) srA (Sub.drop.trans subF)
      ·refine AL.yes rfl rfl (AO.move rfl rfl (AL.no rfl rfl rfl rfl (AL.no rfl rfl rfl rfl (AL.yes rfl rfl (AO.pickF rfl rfl rfl (AL.go (AO.pickF rfl rfl rfl (AL.nil ?_))))))))
       refine AK.seqN (AC.condF rfl (AC.skip (AK.seqN (AC.seq (AC.region ?_)))))
       refine AL.go (AO.move rfl rfl ?_)
       refine AL.go (AO.makeFunc rfl rfl ?_)
       have hodd : ¬ oddK l (zips t)[q].2 := by
        rw [hz]; simp only; unfold oddK; rw [hkt]; omega
       refine AL.go (AO.call rfl rfl (idxTm_c (termsA ((zips t).take q)) (by omega) t.kids[q] (i := 1) (j := 0) rfl rfl (fun c68 => ?_) (fun j68 c68 => ?_)))
       ·refine AL.go (AO.assign rfl rfl (AL.nil (AK.seqN (AC.seq (AC.region (AL.go (AO.move rfl rfl ?_)))))))
        refine AL.go (AO.lss rfl rfl rfl (fun _ => ?_) (fun c70 => absurd c70 (by decide)))
        refine AL.nil (AK.seqN (AC.condT rfl (AC.region (AL.go (AO.move rfl rfl (AL.go (AO.move rfl rfl ?_)))))))
        refine AL.go (AO.loadB rfl rfl ?_)
        refine AL.go (AO.build rfl rfl rfl ?_)
        refine AL.go (AO.buildSlice rfl rfl rfl rfl rfl (fun b75 => ?_))
        refine AL.go (AO.append (i := 1) (enc := eTm) (lst := termsA ((zips t).take q)) [(t.words[q], t.kids[q])] rfl rfl rfl rfl (.val (.val .nil)) rfl rfl (fun _ => rfl) (by omega) (by omega) (fun a76 k76 z76 => ?_))
        refine AL.go (AO.assign rfl rfl (AL.nil (AK.blkN (AK.seqN (AC.region (AL.go (AO.add rfl rfl rfl (by omega) (by omega) ?_)))))))
        refine AL.go (AO.move rfl rfl (AL.nil ?_))
        have e1 : termsA ((zips t).take q) ++ [(t.words[q], t.kids[q])] = termsA ((zips t).take (q + 1)) := by rw [← term_yes hqz hym, hz]; exact addTm_none c68
        rw [e1, decl_no hqz hym]
        exact AK.next (q + 1, (aW, kW, cW), (aK, kK, cK), (a76, k76, z76)) ⟨by simp only; omega, odd_step hqz hno (fun _ => hodd)⟩ (by simp only; omega) srA (Sub.drop.trans subF)
       ·refine AL.go (AO.assign rfl rfl (AL.nil (AK.seqN (AC.seq (AC.region (AL.go (AO.move rfl rfl ?_)))))))
        refine AL.go (AO.lss rfl rfl rfl (fun c70 => absurd c70 (by omega)) (fun _ => ?_))
        refine AL.nil (AK.seqN (AC.condF rfl (AC.seq (AC.region (AL.go (AO.move rfl rfl ?_))))))
        refine AL.go (AO.eqlS rfl rfl rfl (fun c78 => ?_) (fun c78 => ?_))
        ·refine AL.nil (AK.seqN (AC.condT rfl (AC.region (AL.go (AO.move rfl rfl (AL.go (AO.move rfl rfl ?_)))))))
         refine AL.go (AO.move rfl rfl ?_)
         have hj68 : j68 < (termsA ((zips t).take q)).length := (idx_some c68).1
         refine AL.go (AO.indexAddrO (i := 1) (q := j68) rfl rfl rfl rfl rfl (by rw [List.length_map]; exact hj68) (fun bo ho => ?_))
         subst ho
         refine AL.go (AO.field rfl rfl ?_)
         refine AL.go (AO.storeOR (i := 1) (q := j68) (j := 0) rfl rfl rfl rfl rfl (eTm_get hj68) (by simp) ?_)
         have e2 : ((termsA ((zips t).take q)).map eTm).set j68 (([S (termsA ((zips t).take q))[j68].1, .int .i64 (termsA ((zips t).take q))[j68].2].map D.val).set 0 (.val (S t.words[q]))) = (termsA ((zips t).take (q + 1))).map eTm := by
          rw [← term_yes hqz hym, hz, ← addTm_set (z := (t.words[q], t.kids[q])) c68 c78]
          exact eTm_set hj68 (z := (t.words[q], t.kids[q])) (idx_some c68).2
         show AT _ _ _ _ (_ :: Res.own (.slice (some ⟨bo, 0, none⟩) kT cT) 266 2 (((termsA ((zips t).take q)).map eTm).set j68 (([S (termsA ((zips t).take q))[j68].1, .int .i64 (termsA ((zips t).take q))[j68].2].map D.val).set 0 (.val (S t.words[q])))) :: _) _
         rw [e2]
         refine AL.nil (AK.blkN (AK.seqN (AC.region (AL.go (AO.add rfl rfl rfl (by omega) (by omega) (AL.go (AO.move rfl rfl ?_)))))))
         refine AL.nil ?_
         rw [decl_no hqz hym]
         exact AK.next (q + 1, (aW, kW, cW), (aK, kK, cK), (some ⟨bo, 0, none⟩, kT, cT)) ⟨by simp only; omega, odd_step hqz hno (fun _ => hodd)⟩ (by simp only; omega) srA (Sub.drop.trans subF)
        ·refine AL.nil (AK.seqN (AC.condF rfl (AC.skip (AK.blkN (AK.seqN ?_)))))
         refine AC.region (AL.go (AO.add rfl rfl rfl (by omega) (by omega) (AL.go (AO.move rfl rfl (AL.nil ?_)))))
         have e3 : termsA ((zips t).take q) = termsA ((zips t).take (q + 1)) := by rw [← term_yes hqz hym, hz]; exact addTm_stay c68 c78
         rw [decl_no hqz hym, e3]
         exact AK.next (q + 1, (aW, kW, cW), (aK, kK, cK), (aT, kT, cT)) ⟨by simp only; omega, odd_step hqz hno (fun _ => hodd)⟩ (by simp only; omega) srA (Sub.drop.trans subF)
   ·refine AL.go (AO.not rfl rfl (AL.nil (AK.seqN (AC.condT rfl (AC.seq ?_)))))
    refine AC.draw (fun i => Nat.beq i 11 || Nat.beq i 13) [(b6, _, _), (b10, _, _)] bxA rfl (fun hx hX => ?_)
    refine AH.takeW (i := 0) rfl (Y.field rfl) (by kernel_rfl) rfl rfl ?_
    refine AH.takeS (i := 1) rfl (Y.loadB rfl lmA (by rfl)) (by kernel_rfl) (by kernel_rfl) rfl rfl rfl ?_
    refine AH.takeW (i := 2) rfl (Y.move rfl) (by kernel_rfl) rfl rfl ?_
    refine AH.takeW (i := 5) rfl (Y.field rfl) (by kernel_rfl) rfl rfl ?_
    refine AH.takeS (i := 6) rfl (Y.loadB rfl lmA (by rfl)) (by kernel_rfl) (by kernel_rfl) rfl rfl rfl ?_
    refine AH.two (i := 3) (j := 7) (by kernel_rfl) rfl rfl rfl rfl (fun _ => ?_) (fun _ => ?_)
    ·refine AO.buildSlice rfl rfl rfl rfl rfl (fun b37 => ?_)
     refine AT.sub ((Sub.lit (i := 0) (k := 1) (enc := eS) (sz := 1) [t.words[q]] rfl (.val .nil) (fun _ => rfl) rfl (by omega)).trans Sub.drop) ?_
     refine AT.held bxA memB ?_
     refine AH.two (i := 4) (j := 7) (by kernel_rfl) rfl rfl rfl rfl (fun _ => ?_) (fun _ => ?_)
     ·refine AO.appendF (i := 3) (enc := eS) (lst := (declsR ((zips t).take q)).map (·.1)) (lst2 := [t.words[q]]) rfl rfl rfl rfl memA (fun x d hd v hv => eS_one hd hv) (fun _ => rfl) (by simp only [List.length_map, List.length_cons, List.length_nil]; omega) (by simp only [List.length_map, List.length_cons, List.length_nil]; omega) (fun a38 k38 z38 => ?_)
      simp only [List.set_cons_zero, List.set_cons_succ]
      refine AT.held bxA memB ?_
      refine AH.takeW (i := 10) rfl (Y.field rfl) (by kernel_rfl) rfl rfl ?_
      refine AH.one (i := 7) (by kernel_rfl) rfl rfl (fun _ => ?_)
      refine AO.loadB (cs := [.int .i64 t.kids[q]]) rfl rfl ?_
      refine AT.held bxA memB ?_
      refine AH.one (i := 8) (by kernel_rfl) rfl rfl (fun _ => ?_)
      refine AO.buildSlice rfl rfl rfl rfl rfl (fun b42 => ?_)
      refine AT.sub ((Sub.lit (i := 0) (k := 1) (enc := eI) (sz := 1) [t.kids[q]] rfl (.val .nil) (fun _ => rfl) rfl (by omega)).trans Sub.drop) ?_
      refine AT.held bxA memB ?_
      refine AH.one (i := 9) (by kernel_rfl) rfl rfl (fun _ => ?_)
      refine AO.appendF (i := 2) (enc := eI) (lst := (declsR ((zips t).take q)).map (·.2)) (lst2 := [t.kids[q]]) rfl rfl rfl rfl memA (fun x d hd v hv => eI_one hd hv) (fun _ => rfl) (by simp only [List.length_map, List.length_cons, List.length_nil]; omega) (by simp only [List.length_map, List.length_cons, List.length_nil]; omega) (fun a43 k43 z43 => ?_)
      simp only [List.set_cons_zero, List.set_cons_succ]
      refine AT.held bxA memB ?_
      refine AH.one (i := 11) (by kernel_rfl) rfl rfl (fun _ => ?_)
      refine AO.storeB rfl rfl rfl ?_
      refine AT.spoilt rfl ?_
      refine AH.takeW (i := 12) rfl (Y.field rfl) (by kernel_rfl) rfl rfl ?_
      refine AH.one (i := 13) (by kernel_rfl) rfl rfl (fun _ => ?_)
      refine AO.storeB rfl rfl rfl ?_
      refine AT.spoilt rfl ?_
      refine AH.done (by kernel_rfl) ?_
      refine AK.seqN (AC.exit (AK.seqX (AK.blkX (AK.seqN (AC.region ?_)))))
      refine AL.go (AO.add rfl rfl rfl (by omega) (by omega) (AL.go (AO.move rfl rfl (AL.nil ?_))))
      have hnm : ¬ markP (zips t)[q].1 := by rw [hz]; exact c32
      have e1 : (declsR ((zips t).take q)).map (·.1) ++ [t.words[q]] = (declsR ((zips t).take (q + 1))).map (·.1) := by rw [← decl_yes hqz hnm, hz]; simp
      have e2 : (declsR ((zips t).take q)).map (·.2) ++ [t.kids[q]] = (declsR ((zips t).take (q + 1))).map (·.2) := by rw [← decl_yes hqz hnm, hz]; simp
      rw [e1, e2, term_no hqz hnm]
      exact AK.next (q + 1, (a38, k38, z38), (a43, k43, z43), (aT, kT, cT)) ⟨by simp only; omega, odd_step hqz hno (fun hm => absurd hm hnm)⟩ (by simp only; omega) srA (Sub.drop.trans subF)
     ·refine AO.loadB (cs := [.int .i64 t.kids[q]]) rfl rfl ?_
      refine AT.held bxA memB ?_
      refine AH.two (i := 4) (j := 8) (by kernel_rfl) rfl rfl rfl rfl (fun _ => ?_) (fun _ => ?_)
      ·refine AO.appendF (i := 3) (enc := eS) (lst := (declsR ((zips t).take q)).map (·.1)) (lst2 := [t.words[q]]) rfl rfl rfl rfl memA (fun x d hd v hv => eS_one hd hv) (fun _ => rfl) (by simp only [List.length_map, List.length_cons, List.length_nil]; omega) (by simp only [List.length_map, List.length_cons, List.length_nil]; omega) (fun a38 k38 z38 => ?_)
       simp only [List.set_cons_zero, List.set_cons_succ]
       refine AT.held bxA memB ?_
       refine AH.takeW (i := 10) rfl (Y.field rfl) (by kernel_rfl) rfl rfl ?_
       refine AH.one (i := 8) (by kernel_rfl) rfl rfl (fun _ => ?_)
       refine AO.buildSlice rfl rfl rfl rfl rfl (fun b42 => ?_)
       refine AT.sub ((Sub.lit (i := 0) (k := 1) (enc := eI) (sz := 1) [t.kids[q]] rfl (.val .nil) (fun _ => rfl) rfl (by omega)).trans Sub.drop) ?_
       refine AT.held bxA memB ?_
       refine AH.one (i := 9) (by kernel_rfl) rfl rfl (fun _ => ?_)
       refine AO.appendF (i := 2) (enc := eI) (lst := (declsR ((zips t).take q)).map (·.2)) (lst2 := [t.kids[q]]) rfl rfl rfl rfl memA (fun x d hd v hv => eI_one hd hv) (fun _ => rfl) (by simp only [List.length_map, List.length_cons, List.length_nil]; omega) (by simp only [List.length_map, List.length_cons, List.length_nil]; omega) (fun a43 k43 z43 => ?_)
       simp only [List.set_cons_zero, List.set_cons_succ]
       refine AT.held bxA memB ?_
       refine AH.one (i := 11) (by kernel_rfl) rfl rfl (fun _ => ?_)
       refine AO.storeB rfl rfl rfl ?_
       refine AT.spoilt rfl ?_
       refine AH.takeW (i := 12) rfl (Y.field rfl) (by kernel_rfl) rfl rfl ?_
       refine AH.one (i := 13) (by kernel_rfl) rfl rfl (fun _ => ?_)
       refine AO.storeB rfl rfl rfl ?_
       refine AT.spoilt rfl ?_
       refine AH.done (by kernel_rfl) ?_
       refine AK.seqN (AC.exit (AK.seqX (AK.blkX (AK.seqN (AC.region ?_)))))
       refine AL.go (AO.add rfl rfl rfl (by omega) (by omega) (AL.go (AO.move rfl rfl (AL.nil ?_))))
       have hnm : ¬ markP (zips t)[q].1 := by rw [hz]; exact c32
       have e1 : (declsR ((zips t).take q)).map (·.1) ++ [t.words[q]] = (declsR ((zips t).take (q + 1))).map (·.1) := by rw [← decl_yes hqz hnm, hz]; simp
       have e2 : (declsR ((zips t).take q)).map (·.2) ++ [t.kids[q]] = (declsR ((zips t).take (q + 1))).map (·.2) := by rw [← decl_yes hqz hnm, hz]; simp
       rw [e1, e2, term_no hqz hnm]
       exact AK.next (q + 1, (a38, k38, z38), (a43, k43, z43), (aT, kT, cT)) ⟨by simp only; omega, odd_step hqz hno (fun hm => absurd hm hnm)⟩ (by simp only; omega) srA (Sub.drop.trans subF)
      ·refine AO.buildSlice rfl rfl rfl rfl rfl (fun b42 => ?_)
       refine AT.sub ((Sub.lit (i := 0) (k := 1) (enc := eI) (sz := 1) [t.kids[q]] rfl (.val .nil) (fun _ => rfl) rfl (by omega)).trans Sub.drop) ?_
       refine AT.held bxA memB ?_
       refine AH.one (i := 4) (by kernel_rfl) rfl rfl (fun _ => ?_)
       refine AO.appendF (i := 3) (enc := eS) (lst := (declsR ((zips t).take q)).map (·.1)) (lst2 := [t.words[q]]) rfl rfl rfl rfl memA (fun x d hd v hv => eS_one hd hv) (fun _ => rfl) (by simp only [List.length_map, List.length_cons, List.length_nil]; omega) (by simp only [List.length_map, List.length_cons, List.length_nil]; omega) (fun a38 k38 z38 => ?_)
       simp only [List.set_cons_zero, List.set_cons_succ]
       refine AT.held bxA memB ?_
       refine AH.takeW (i := 10) rfl (Y.field rfl) (by kernel_rfl) rfl rfl ?_
       refine AH.one (i := 9) (by kernel_rfl) rfl rfl (fun _ => ?_)
       refine AO.appendF (i := 2) (enc := eI) (lst := (declsR ((zips t).take q)).map (·.2)) (lst2 := [t.kids[q]]) rfl rfl rfl rfl memA (fun x d hd v hv => eI_one hd hv) (fun _ => rfl) (by simp only [List.length_map, List.length_cons, List.length_nil]; omega) (by simp only [List.length_map, List.length_cons, List.length_nil]; omega) (fun a43 k43 z43 => ?_)
       simp only [List.set_cons_zero, List.set_cons_succ]
       refine AT.held bxA memB ?_
       refine AH.one (i := 11) (by kernel_rfl) rfl rfl (fun _ => ?_)
       refine AO.storeB rfl rfl rfl ?_
       refine AT.spoilt rfl ?_
       refine AH.takeW (i := 12) rfl (Y.field rfl) (by kernel_rfl) rfl rfl ?_
       refine AH.one (i := 13) (by kernel_rfl) rfl rfl (fun _ => ?_)
       refine AO.storeB rfl rfl rfl ?_
       refine AT.spoilt rfl ?_
       refine AH.done (by kernel_rfl) ?_
       refine AK.seqN (AC.exit (AK.seqX (AK.blkX (AK.seqN (AC.region ?_)))))
       refine AL.go (AO.add rfl rfl rfl (by omega) (by omega) (AL.go (AO.move rfl rfl (AL.nil ?_))))
       have hnm : ¬ markP (zips t)[q].1 := by rw [hz]; exact c32
       have e1 : (declsR ((zips t).take q)).map (·.1) ++ [t.words[q]] = (declsR ((zips t).take (q + 1))).map (·.1) := by rw [← decl_yes hqz hnm, hz]; simp
       have e2 : (declsR ((zips t).take q)).map (·.2) ++ [t.kids[q]] = (declsR ((zips t).take (q + 1))).map (·.2) := by rw [← decl_yes hqz hnm, hz]; simp
       rw [e1, e2, term_no hqz hnm]
       exact AK.next (q + 1, (a38, k38, z38), (a43, k43, z43), (aT, kT, cT)) ⟨by simp only; omega, odd_step hqz hno (fun hm => absurd hm hnm)⟩ (by simp only; omega) srA (Sub.drop.trans subF)
    ·refine AO.loadB (cs := [.int .i64 t.kids[q]]) rfl rfl ?_
     refine AT.held bxA memB ?_
     refine AH.two (i := 3) (j := 8) (by kernel_rfl) rfl rfl rfl rfl (fun _ => ?_) (fun _ => ?_)
     ·refine AO.buildSlice rfl rfl rfl rfl rfl (fun b37 => ?_)
      refine AT.sub ((Sub.lit (i := 0) (k := 1) (enc := eS) (sz := 1) [t.words[q]] rfl (.val .nil) (fun _ => rfl) rfl (by omega)).trans Sub.drop) ?_
      refine AT.held bxA memB ?_
      refine AH.two (i := 4) (j := 8) (by kernel_rfl) rfl rfl rfl rfl (fun _ => ?_) (fun _ => ?_)
      ·refine AO.appendF (i := 3) (enc := eS) (lst := (declsR ((zips t).take q)).map (·.1)) (lst2 := [t.words[q]]) rfl rfl rfl rfl memA (fun x d hd v hv => eS_one hd hv) (fun _ => rfl) (by simp only [List.length_map, List.length_cons, List.length_nil]; omega) (by simp only [List.length_map, List.length_cons, List.length_nil]; omega) (fun a38 k38 z38 => ?_)
       simp only [List.set_cons_zero, List.set_cons_succ]
       refine AT.held bxA memB ?_
       refine AH.takeW (i := 10) rfl (Y.field rfl) (by kernel_rfl) rfl rfl ?_
       refine AH.one (i := 8) (by kernel_rfl) rfl rfl (fun _ => ?_)
       refine AO.buildSlice rfl rfl rfl rfl rfl (fun b42 => ?_)
       refine AT.sub ((Sub.lit (i := 0) (k := 1) (enc := eI) (sz := 1) [t.kids[q]] rfl (.val .nil) (fun _ => rfl) rfl (by omega)).trans Sub.drop) ?_
       refine AT.held bxA memB ?_
       refine AH.one (i := 9) (by kernel_rfl) rfl rfl (fun _ => ?_)
       refine AO.appendF (i := 2) (enc := eI) (lst := (declsR ((zips t).take q)).map (·.2)) (lst2 := [t.kids[q]]) rfl rfl rfl rfl memA (fun x d hd v hv => eI_one hd hv) (fun _ => rfl) (by simp only [List.length_map, List.length_cons, List.length_nil]; omega) (by simp only [List.length_map, List.length_cons, List.length_nil]; omega) (fun a43 k43 z43 => ?_)
       simp only [List.set_cons_zero, List.set_cons_succ]
       refine AT.held bxA memB ?_
       refine AH.one (i := 11) (by kernel_rfl) rfl rfl (fun _ => ?_)
       refine AO.storeB rfl rfl rfl ?_
       refine AT.spoilt rfl ?_
       refine AH.takeW (i := 12) rfl (Y.field rfl) (by kernel_rfl) rfl rfl ?_
       refine AH.one (i := 13) (by kernel_rfl) rfl rfl (fun _ => ?_)
       refine AO.storeB rfl rfl rfl ?_
       refine AT.spoilt rfl ?_
       refine AH.done (by kernel_rfl) ?_
       refine AK.seqN (AC.exit (AK.seqX (AK.blkX (AK.seqN (AC.region ?_)))))
       refine AL.go (AO.add rfl rfl rfl (by omega) (by omega) (AL.go (AO.move rfl rfl (AL.nil ?_))))
       have hnm : ¬ markP (zips t)[q].1 := by rw [hz]; exact c32
       have e1 : (declsR ((zips t).take q)).map (·.1) ++ [t.words[q]] = (declsR ((zips t).take (q + 1))).map (·.1) := by rw [← decl_yes hqz hnm, hz]; simp
       have e2 : (declsR ((zips t).take q)).map (·.2) ++ [t.kids[q]] = (declsR ((zips t).take (q + 1))).map (·.2) := by rw [← decl_yes hqz hnm, hz]; simp
       rw [e1, e2, term_no hqz hnm]
       exact AK.next (q + 1, (a38, k38, z38), (a43, k43, z43), (aT, kT, cT)) ⟨by simp only; omega, odd_step hqz hno (fun hm => absurd hm hnm)⟩ (by simp only; omega) srA (Sub.drop.trans subF)
      ·refine AO.buildSlice rfl rfl rfl rfl rfl (fun b42 => ?_)
       refine AT.sub ((Sub.lit (i := 0) (k := 1) (enc := eI) (sz := 1) [t.kids[q]] rfl (.val .nil) (fun _ => rfl) rfl (by omega)).trans Sub.drop) ?_
       refine AT.held bxA memB ?_
       refine AH.one (i := 4) (by kernel_rfl) rfl rfl (fun _ => ?_)
       refine AO.appendF (i := 3) (enc := eS) (lst := (declsR ((zips t).take q)).map (·.1)) (lst2 := [t.words[q]]) rfl rfl rfl rfl memA (fun x d hd v hv => eS_one hd hv) (fun _ => rfl) (by simp only [List.length_map, List.length_cons, List.length_nil]; omega) (by simp only [List.length_map, List.length_cons, List.length_nil]; omega) (fun a38 k38 z38 => ?_)
       simp only [List.set_cons_zero, List.set_cons_succ]
       refine AT.held bxA memB ?_
       refine AH.takeW (i := 10) rfl (Y.field rfl) (by kernel_rfl) rfl rfl ?_
       refine AH.one (i := 9) (by kernel_rfl) rfl rfl (fun _ => ?_)
       refine AO.appendF (i := 2) (enc := eI) (lst := (declsR ((zips t).take q)).map (·.2)) (lst2 := [t.kids[q]]) rfl rfl rfl rfl memA (fun x d hd v hv => eI_one hd hv) (fun _ => rfl) (by simp only [List.length_map, List.length_cons, List.length_nil]; omega) (by simp only [List.length_map, List.length_cons, List.length_nil]; omega) (fun a43 k43 z43 => ?_)
       simp only [List.set_cons_zero, List.set_cons_succ]
       refine AT.held bxA memB ?_
       refine AH.one (i := 11) (by kernel_rfl) rfl rfl (fun _ => ?_)
       refine AO.storeB rfl rfl rfl ?_
       refine AT.spoilt rfl ?_
       refine AH.takeW (i := 12) rfl (Y.field rfl) (by kernel_rfl) rfl rfl ?_
       refine AH.one (i := 13) (by kernel_rfl) rfl rfl (fun _ => ?_)
       refine AO.storeB rfl rfl rfl ?_
       refine AT.spoilt rfl ?_
       refine AH.done (by kernel_rfl) ?_
       refine AK.seqN (AC.exit (AK.seqX (AK.blkX (AK.seqN (AC.region ?_)))))
       refine AL.go (AO.add rfl rfl rfl (by omega) (by omega) (AL.go (AO.move rfl rfl (AL.nil ?_))))
       have hnm : ¬ markP (zips t)[q].1 := by rw [hz]; exact c32
       have e1 : (declsR ((zips t).take q)).map (·.1) ++ [t.words[q]] = (declsR ((zips t).take (q + 1))).map (·.1) := by rw [← decl_yes hqz hnm, hz]; simp
       have e2 : (declsR ((zips t).take q)).map (·.2) ++ [t.kids[q]] = (declsR ((zips t).take (q + 1))).map (·.2) := by rw [← decl_yes hqz hnm, hz]; simp
       rw [e1, e2, term_no hqz hnm]
       exact AK.next (q + 1, (a38, k38, z38), (a43, k43, z43), (aT, kT, cT)) ⟨by simp only; omega, odd_step hqz hno (fun hm => absurd hm hnm)⟩ (by simp only; omega) srA (Sub.drop.trans subF)
     ·refine AO.buildSlice rfl rfl rfl rfl rfl (fun b42 => ?_)
      refine AT.sub ((Sub.lit (i := 0) (k := 1) (enc := eI) (sz := 1) [t.kids[q]] rfl (.val .nil) (fun _ => rfl) rfl (by omega)).trans Sub.drop) ?_
      refine AT.held bxA memB ?_
      refine AH.one (i := 3) (by kernel_rfl) rfl rfl (fun _ => ?_)
      refine AO.buildSlice rfl rfl rfl rfl rfl (fun b37 => ?_)
      refine AT.sub ((Sub.lit (i := 0) (k := 1) (enc := eS) (sz := 1) [t.words[q]] rfl (.val .nil) (fun _ => rfl) rfl (by omega)).trans Sub.drop) ?_
      refine AT.held bxA memB ?_
      refine AH.one (i := 4) (by kernel_rfl) rfl rfl (fun _ => ?_)
      refine AO.appendF (i := 3) (enc := eS) (lst := (declsR ((zips t).take q)).map (·.1)) (lst2 := [t.words[q]]) rfl rfl rfl rfl memA (fun x d hd v hv => eS_one hd hv) (fun _ => rfl) (by simp only [List.length_map, List.length_cons, List.length_nil]; omega) (by simp only [List.length_map, List.length_cons, List.length_nil]; omega) (fun a38 k38 z38 => ?_)
      simp only [List.set_cons_zero, List.set_cons_succ]
      refine AT.held bxA memB ?_
      refine AH.takeW (i := 10) rfl (Y.field rfl) (by kernel_rfl) rfl rfl ?_
      refine AH.one (i := 9) (by kernel_rfl) rfl rfl (fun _ => ?_)
      refine AO.appendF (i := 2) (enc := eI) (lst := (declsR ((zips t).take q)).map (·.2)) (lst2 := [t.kids[q]]) rfl rfl rfl rfl memA (fun x d hd v hv => eI_one hd hv) (fun _ => rfl) (by simp only [List.length_map, List.length_cons, List.length_nil]; omega) (by simp only [List.length_map, List.length_cons, List.length_nil]; omega) (fun a43 k43 z43 => ?_)
      simp only [List.set_cons_zero, List.set_cons_succ]
      refine AT.held bxA memB ?_
      refine AH.one (i := 11) (by kernel_rfl) rfl rfl (fun _ => ?_)
      refine AO.storeB rfl rfl rfl ?_
      refine AT.spoilt rfl ?_
      refine AH.takeW (i := 12) rfl (Y.field rfl) (by kernel_rfl) rfl rfl ?_
      refine AH.one (i := 13) (by kernel_rfl) rfl rfl (fun _ => ?_)
      refine AO.storeB rfl rfl rfl ?_
      refine AT.spoilt rfl ?_
      refine AH.done (by kernel_rfl) ?_
      refine AK.seqN (AC.exit (AK.seqX (AK.blkX (AK.seqN (AC.region ?_)))))
      refine AL.go (AO.add rfl rfl rfl (by omega) (by omega) (AL.go (AO.move rfl rfl (AL.nil ?_))))
      have hnm : ¬ markP (zips t)[q].1 := by rw [hz]; exact c32
      have e1 : (declsR ((zips t).take q)).map (·.1) ++ [t.words[q]] = (declsR ((zips t).take (q + 1))).map (·.1) := by rw [← decl_yes hqz hnm, hz]; simp
      have e2 : (declsR ((zips t).take q)).map (·.2) ++ [t.kids[q]] = (declsR ((zips t).take (q + 1))).map (·.2) := by rw [← decl_yes hqz hnm, hz]; simp
      rw [e1, e2, term_no hqz hnm]
      exact AK.next (q + 1, (a38, k38, z38), (a43, k43, z43), (aT, kT, cT)) ⟨by simp only; omega, odd_step hqz hno (fun hm => absurd hm hnm)⟩ (by simp only; omega) srA (Sub.drop.trans subF)
  ·refine AL.nil (AK.seqN (AC.seq (AC.condF rfl (AC.exit (AK.seqX ?_)))))
   refine AK.seqX (AK.blkX (AK.seqN (AC.seq (AC.region (AL.go (AO.move rfl rfl ?_))))))
   have hq9 : (zips t).take q = zips t := List.take_of_length_le (by omega)
   rw [hq9] at hno ⊢
   have htl := termsA_len (zips t)
   have hdl := declsR_len (zips t)
   refine AL.go (AO.call rfl rfl (sortTm_c (termsA (zips t)) (fun x hx => by have := termsA_in hzin x hx; omega) (by omega) (i := 0) rfl (fun bs hbp hbs => ?_)))
   rw [terms_sort (m := l.length) (fun z hz _ => hzin z hz) hbp hbs]
   have hrl : (termsR l.length (zips t)).length ≤ 20 := by
    have e9 := terms_sort (m := l.length) (fun z hz _ => hzin z hz) hbp hbs
    have := hbp.length_eq
    rw [← e9]; omega
   simp only [List.set_cons_zero]
   refine AL.nil (AK.seqN (AC.seq (AC.seq (AC.region (AL.go (AO.move rfl rfl ?_))))))
   refine AL.go (AO.lenO (i := 0) rfl rfl rfl (fun hk88 => ?_))
   rw [List.length_map]
   refine AL.go (AO.move rfl rfl (AL.nil (AK.seqN (AC.block ?_))))
   refine AC.loop (fun (x : Nat × (Option Addr × Nat × Nat) × (Option Addr × Nat × Nat)) => x.1 ≤ (termsR l.length (zips t)).length) (fun x => [(4, .pointer (some ⟨b4, 0, none⟩)), (6, .pointer (some ⟨b6, 0, none⟩)), (87, .slice aT kT cT), (88, .int .i64 (termsR l.length (zips t)).length), (89, .int .i64 (x.1 : Int))]) (fun x => Res.own (.slice aT kT cT) 266 2 ((termsR l.length (zips t)).map eTm) :: Res.own (.slice x.2.2.1 x.2.2.2.1 x.2.2.2.2) 3 1 (((declsR (zips t) ++ (termsR l.length (zips t)).take x.1).map (·.2)).map eI) :: Res.own (.slice x.2.1.1 x.2.1.2.1 x.2.1.2.2) 9 1 (((declsR (zips t) ++ (termsR l.length (zips t)).take x.1).map (·.1)).map eS) :: Res.cells b6 #[.int .i64 t.kind, S t.name, .int .i64 t.n, .slice x.2.1.1 x.2.1.2.1 x.2.1.2.2, .slice x.2.2.1 x.2.2.2.1 x.2.2.2.2] 29 :: _) (fun _ => F) (fun x => (termsR l.length (zips t)).length - x.1) (0, (aW, kW, cW), (aK, kK, cK)) (Nat.zero_le _) srA (Sub.ofEq (by rw [List.take_zero, List.append_nil])) ?_
   rintro ⟨u, ⟨aW, kW, cW⟩, ⟨aK, kK, cK⟩⟩ hu
   simp only at hu ⊢
   refine AC.seq (AC.region ?_)
   refine AL.go (AO.lss rfl rfl rfl (fun c90 => ?_) (fun c90 => ?_))
   ·refine AL.nil (AK.seqN (AC.seq (AC.condT rfl (AC.skip (AK.seqN ?_)))))
    refine AC.seq (AC.block (AC.seq (AC.region ?_)))
    have hul : u < (termsR l.length (zips t)).length := by omega
    have hal : (declsR (zips t) ++ (termsR l.length (zips t)).take u).length ≤ 40 := by rw [List.length_append, List.length_take]; omega
    refine AL.go (AO.indexAddrO (i := 0) (q := u) rfl rfl rfl rfl rfl (by rw [List.length_map]; exact hul) (fun bo2 ho2 => ?_))
    subst ho2
    refine AL.go (AO.loadOA (i := 0) (q := u) (vs := [S (termsR l.length (zips t))[u].1, .int .i64 (termsR l.length (zips t))[u].2]) rfl rfl rfl rfl (eTm_get hul) rfl ?_)
    refine AL.go (AO.alloc rfl (fun b14 => ?_))
    refine AL.go (AO.storeBA rfl rfl rfl rfl ?_)
    refine AT.sub (Sub.ofEq (L' := Res.cells b14 #[S (termsR l.length (zips t))[u].1, .int .i64 (termsR l.length (zips t))[u].2] 266 :: _) rfl) ?_
    refine AL.nil (AK.seqN ?_)
    refine AC.draw (fun i => Nat.beq i 13 || Nat.beq i 15) [(b6, _, _), (b14, _, _)] bxA rfl (fun hx hX => ?_)
    refine AH.takeW (i := 0) rfl (Y.field rfl) (by kernel_rfl) rfl rfl ?_
    refine AH.takeS (i := 1) rfl (Y.loadB rfl lmA (by rfl)) (by kernel_rfl) (by kernel_rfl) rfl rfl rfl ?_
    refine AH.takeW (i := 2) rfl (Y.field rfl) (by kernel_rfl) rfl rfl ?_
    refine AH.takeS (i := 3) rfl (Y.loadB rfl lmA (by rfl)) (by kernel_rfl) (by kernel_rfl) rfl rfl rfl ?_
    refine AH.takeW (i := 6) rfl (Y.field rfl) (by kernel_rfl) rfl rfl ?_
    refine AH.takeS (i := 7) rfl (Y.loadB rfl lmA (by rfl)) (by kernel_rfl) (by kernel_rfl) rfl rfl rfl ?_
    refine AH.takeW (i := 8) rfl (Y.field rfl) (by kernel_rfl) rfl rfl ?_
    refine AH.two (i := 4) (j := 9) (by kernel_rfl) rfl rfl rfl rfl (fun _ => ?_) (fun _ => ?_)
    ·refine AO.buildSlice rfl rfl rfl rfl rfl (fun b97 => ?_)
     refine AT.sub ((Sub.lit (i := 0) (k := 1) (enc := eS) (sz := 1) [(termsR l.length (zips t))[u].1] rfl (.val .nil) (fun _ => rfl) rfl (by omega)).trans Sub.drop) ?_
     refine AT.held bxA memB ?_
     refine AH.two (i := 5) (j := 9) (by kernel_rfl) rfl rfl rfl rfl (fun _ => ?_) (fun _ => ?_)
     ·refine AO.appendF (i := 3) (enc := eS) (lst := (declsR (zips t) ++ (termsR l.length (zips t)).take u).map (·.1)) (lst2 := [(termsR l.length (zips t))[u].1]) rfl rfl rfl rfl memA (fun x d hd v hv => eS_one hd hv) (fun _ => rfl) (by simp only [List.length_map, List.length_cons, List.length_nil]; omega) (by simp only [List.length_map, List.length_cons, List.length_nil]; omega) (fun a98 k98 z98 => ?_)
      simp only [List.set_cons_zero, List.set_cons_succ]
      refine AT.held bxA memB ?_
      refine AH.takeW (i := 12) rfl (Y.field rfl) (by kernel_rfl) rfl rfl ?_
      refine AH.one (i := 9) (by kernel_rfl) rfl rfl (fun _ => ?_)
      refine AO.loadB (cs := [S (termsR l.length (zips t))[u].1, .int .i64 (termsR l.length (zips t))[u].2]) rfl rfl ?_
      refine AT.held bxA memB ?_
      refine AH.one (i := 10) (by kernel_rfl) rfl rfl (fun _ => ?_)
      refine AO.buildSlice rfl rfl rfl rfl rfl (fun b103 => ?_)
      refine AT.sub ((Sub.lit (i := 0) (k := 1) (enc := eI) (sz := 1) [(termsR l.length (zips t))[u].2] rfl (.val .nil) (fun _ => rfl) rfl (by omega)).trans Sub.drop) ?_
      refine AT.held bxA memB ?_
      refine AH.one (i := 11) (by kernel_rfl) rfl rfl (fun _ => ?_)
      refine AO.appendF (i := 2) (enc := eI) (lst := (declsR (zips t) ++ (termsR l.length (zips t)).take u).map (·.2)) (lst2 := [(termsR l.length (zips t))[u].2]) rfl rfl rfl rfl memA (fun x d hd v hv => eI_one hd hv) (fun _ => rfl) (by simp only [List.length_map, List.length_cons, List.length_nil]; omega) (by simp only [List.length_map, List.length_cons, List.length_nil]; omega) (fun a104 k104 z104 => ?_)
      simp only [List.set_cons_zero, List.set_cons_succ]
      refine AT.held bxA memB ?_
      refine AH.one (i := 13) (by kernel_rfl) rfl rfl (fun _ => ?_)
      refine AO.storeB rfl rfl rfl ?_
      refine AT.spoilt rfl ?_
      refine AH.takeW (i := 14) rfl (Y.field rfl) (by kernel_rfl) rfl rfl ?_
      refine AH.one (i := 15) (by kernel_rfl) rfl rfl (fun _ => ?_)
      refine AO.storeB rfl rfl rfl ?_
      refine AT.spoilt rfl ?_
      refine AH.done (by kernel_rfl) ?_
      refine AK.blkN (AK.seqN (AC.region (AL.go (AO.add rfl rfl rfl (by omega) (by omega) (AL.go (AO.move rfl rfl (AL.nil ?_)))))))
      rw [fst_snoc, snd_snoc, take_snoc hul]
      exact AK.next (u + 1, (a98, k98, z98), (a104, k104, z104)) (by simp only; omega) (by simp only; omega) srA (Sub.drop.trans subF)
     ·refine AO.loadB (cs := [S (termsR l.length (zips t))[u].1, .int .i64 (termsR l.length (zips t))[u].2]) rfl rfl ?_
      refine AT.held bxA memB ?_
      refine AH.two (i := 5) (j := 10) (by kernel_rfl) rfl rfl rfl rfl (fun _ => ?_) (fun _ => ?_)
      ·refine AO.appendF (i := 3) (enc := eS) (lst := (declsR (zips t) ++ (termsR l.length (zips t)).take u).map (·.1)) (lst2 := [(termsR l.length (zips t))[u].1]) rfl rfl rfl rfl memA (fun x d hd v hv => eS_one hd hv) (fun _ => rfl) (by simp only [List.length_map, List.length_cons, List.length_nil]; omega) (by simp only [List.length_map, List.length_cons, List.length_nil]; omega) (fun a98 k98 z98 => ?_)
       simp only [List.set_cons_zero, List.set_cons_succ]
       refine AT.held bxA memB ?_
       refine AH.takeW (i := 12) rfl (Y.field rfl) (by kernel_rfl) rfl rfl ?_
       refine AH.one (i := 10) (by kernel_rfl) rfl rfl (fun _ => ?_)
       refine AO.buildSlice rfl rfl rfl rfl rfl (fun b103 => ?_)
       refine AT.sub ((Sub.lit (i := 0) (k := 1) (enc := eI) (sz := 1) [(termsR l.length (zips t))[u].2] rfl (.val .nil) (fun _ => rfl) rfl (by omega)).trans Sub.drop) ?_
       refine AT.held bxA memB ?_
       refine AH.one (i := 11) (by kernel_rfl) rfl rfl (fun _ => ?_)
       refine AO.appendF (i := 2) (enc := eI) (lst := (declsR (zips t) ++ (termsR l.length (zips t)).take u).map (·.2)) (lst2 := [(termsR l.length (zips t))[u].2]) rfl rfl rfl rfl memA (fun x d hd v hv => eI_one hd hv) (fun _ => rfl) (by simp only [List.length_map, List.length_cons, List.length_nil]; omega) (by simp only [List.length_map, List.length_cons, List.length_nil]; omega) (fun a104 k104 z104 => ?_)
       simp only [List.set_cons_zero, List.set_cons_succ]
       refine AT.held bxA memB ?_
       refine AH.one (i := 13) (by kernel_rfl) rfl rfl (fun _ => ?_)
       refine AO.storeB rfl rfl rfl ?_
       refine AT.spoilt rfl ?_
       refine AH.takeW (i := 14) rfl (Y.field rfl) (by kernel_rfl) rfl rfl ?_
       refine AH.one (i := 15) (by kernel_rfl) rfl rfl (fun _ => ?_)
       refine AO.storeB rfl rfl rfl ?_
       refine AT.spoilt rfl ?_
       refine AH.done (by kernel_rfl) ?_
       refine AK.blkN (AK.seqN (AC.region (AL.go (AO.add rfl rfl rfl (by omega) (by omega) (AL.go (AO.move rfl rfl (AL.nil ?_)))))))
       rw [fst_snoc, snd_snoc, take_snoc hul]
       exact AK.next (u + 1, (a98, k98, z98), (a104, k104, z104)) (by simp only; omega) (by simp only; omega) srA (Sub.drop.trans subF)
      ·refine AO.buildSlice rfl rfl rfl rfl rfl (fun b103 => ?_)
       refine AT.sub ((Sub.lit (i := 0) (k := 1) (enc := eI) (sz := 1) [(termsR l.length (zips t))[u].2] rfl (.val .nil) (fun _ => rfl) rfl (by omega)).trans Sub.drop) ?_
       refine AT.held bxA memB ?_
       refine AH.one (i := 5) (by kernel_rfl) rfl rfl (fun _ => ?_)
       refine AO.appendF (i := 3) (enc := eS) (lst := (declsR (zips t) ++ (termsR l.length (zips t)).take u).map (·.1)) (lst2 := [(termsR l.length (zips t))[u].1]) rfl rfl rfl rfl memA (fun x d hd v hv => eS_one hd hv) (fun _ => rfl) (by simp only [List.length_map, List.length_cons, List.length_nil]; omega) (by simp only [List.length_map, List.length_cons, List.length_nil]; omega) (fun a98 k98 z98 => ?_)
       simp only [List.set_cons_zero, List.set_cons_succ]
       refine AT.held bxA memB ?_
       refine AH.takeW (i := 12) rfl (Y.field rfl) (by kernel_rfl) rfl rfl ?_
       refine AH.one (i := 11) (by kernel_rfl) rfl rfl (fun _ => ?_)
       refine AO.appendF (i := 2) (enc := eI) (lst := (declsR (zips t) ++ (termsR l.length (zips t)).take u).map (·.2)) (lst2 := [(termsR l.length (zips t))[u].2]) rfl rfl rfl rfl memA (fun x d hd v hv => eI_one hd hv) (fun _ => rfl) (by simp only [List.length_map, List.length_cons, List.length_nil]; omega) (by simp only [List.length_map, List.length_cons, List.length_nil]; omega) (fun a104 k104 z104 => ?_)
       simp only [List.set_cons_zero, List.set_cons_succ]
       refine AT.held bxA memB ?_
       refine AH.one (i := 13) (by kernel_rfl) rfl rfl (fun _ => ?_)
       refine AO.storeB rfl rfl rfl ?_
       refine AT.spoilt rfl ?_
       refine AH.takeW (i := 14) rfl (Y.field rfl) (by kernel_rfl) rfl rfl ?_
       refine AH.one (i := 15) (by kernel_rfl) rfl rfl (fun _ => ?_)
       refine AO.storeB rfl rfl rfl ?_
       refine AT.spoilt rfl ?_
       refine AH.done (by kernel_rfl) ?_
       refine AK.blkN (AK.seqN (AC.region (AL.go (AO.add rfl rfl rfl (by omega) (by omega) (AL.go (AO.move rfl rfl (AL.nil ?_)))))))
       rw [fst_snoc, snd_snoc, take_snoc hul]
       exact AK.next (u + 1, (a98, k98, z98), (a104, k104, z104)) (by simp only; omega) (by simp only; omega) srA (Sub.drop.trans subF)
    ·refine AO.loadB (cs := [S (termsR l.length (zips t))[u].1, .int .i64 (termsR l.length (zips t))[u].2]) rfl rfl ?_
     refine AT.held bxA memB ?_
     refine AH.two (i := 4) (j := 10) (by kernel_rfl) rfl rfl rfl rfl (fun _ => ?_) (fun _ => ?_)
     ·refine AO.buildSlice rfl rfl rfl rfl rfl (fun b97 => ?_)
      refine AT.sub ((Sub.lit (i := 0) (k := 1) (enc := eS) (sz := 1) [(termsR l.length (zips t))[u].1] rfl (.val .nil) (fun _ => rfl) rfl (by omega)).trans Sub.drop) ?_
      refine AT.held bxA memB ?_
      refine AH.two (i := 5) (j := 10) (by kernel_rfl) rfl rfl rfl rfl (fun _ => ?_) (fun _ => ?_)
      ·refine AO.appendF (i := 3) (enc := eS) (lst := (declsR (zips t) ++ (termsR l.length (zips t)).take u).map (·.1)) (lst2 := [(termsR l.length (zips t))[u].1]) rfl rfl rfl rfl memA (fun x d hd v hv => eS_one hd hv) (fun _ => rfl) (by simp only [List.length_map, List.length_cons, List.length_nil]; omega) (by simp only [List.length_map, List.length_cons, List.length_nil]; omega) (fun a98 k98 z98 => ?_)
       simp only [List.set_cons_zero, List.set_cons_succ]
       refine AT.held bxA memB ?_
       refine AH.takeW (i := 12) rfl (Y.field rfl) (by kernel_rfl) rfl rfl ?_
       refine AH.one (i := 10) (by kernel_rfl) rfl rfl (fun _ => ?_)
       refine AO.buildSlice rfl rfl rfl rfl rfl (fun b103 => ?_)
       refine AT.sub ((Sub.lit (i := 0) (k := 1) (enc := eI) (sz := 1) [(termsR l.length (zips t))[u].2] rfl (.val .nil) (fun _ => rfl) rfl (by omega)).trans Sub.drop) ?_
       refine AT.held bxA memB ?_
       refine AH.one (i := 11) (by kernel_rfl) rfl rfl (fun _ => ?_)
       refine AO.appendF (i := 2) (enc := eI) (lst := (declsR (zips t) ++ (termsR l.length (zips t)).take u).map (·.2)) (lst2 := [(termsR l.length (zips t))[u].2]) rfl rfl rfl rfl memA (fun x d hd v hv => eI_one hd hv) (fun _ => rfl) (by simp only [List.length_map, List.length_cons, List.length_nil]; omega) (by simp only [List.length_map, List.length_cons, List.length_nil]; omega) (fun a104 k104 z104 => ?_)
       simp only [List.set_cons_zero, List.set_cons_succ]
       refine AT.held bxA memB ?_
       refine AH.one (i := 13) (by kernel_rfl) rfl rfl (fun _ => ?_)
       refine AO.storeB rfl rfl rfl ?_
       refine AT.spoilt rfl ?_
       refine AH.takeW (i := 14) rfl (Y.field rfl) (by kernel_rfl) rfl rfl ?_
       refine AH.one (i := 15) (by kernel_rfl) rfl rfl (fun _ => ?_)
       refine AO.storeB rfl rfl rfl ?_
       refine AT.spoilt rfl ?_
       refine AH.done (by kernel_rfl) ?_
       refine AK.blkN (AK.seqN (AC.region (AL.go (AO.add rfl rfl rfl (by omega) (by omega) (AL.go (AO.move rfl rfl (AL.nil ?_)))))))
       rw [fst_snoc, snd_snoc, take_snoc hul]
       exact AK.next (u + 1, (a98, k98, z98), (a104, k104, z104)) (by simp only; omega) (by simp only; omega) srA (Sub.drop.trans subF)
      ·refine AO.buildSlice rfl rfl rfl rfl rfl (fun b103 => ?_)
       refine AT.sub ((Sub.lit (i := 0) (k := 1) (enc := eI) (sz := 1) [(termsR l.length (zips t))[u].2] rfl (.val .nil) (fun _ => rfl) rfl (by omega)).trans Sub.drop) ?_
       refine AT.held bxA memB ?_
       refine AH.one (i := 5) (by kernel_rfl) rfl rfl (fun _ => ?_)
       refine AO.appendF (i := 3) (enc := eS) (lst := (declsR (zips t) ++ (termsR l.length (zips t)).take u).map (·.1)) (lst2 := [(termsR l.length (zips t))[u].1]) rfl rfl rfl rfl memA (fun x d hd v hv => eS_one hd hv) (fun _ => rfl) (by simp only [List.length_map, List.length_cons, List.length_nil]; omega) (by simp only [List.length_map, List.length_cons, List.length_nil]; omega) (fun a98 k98 z98 => ?_)
       simp only [List.set_cons_zero, List.set_cons_succ]
       refine AT.held bxA memB ?_
       refine AH.takeW (i := 12) rfl (Y.field rfl) (by kernel_rfl) rfl rfl ?_
       refine AH.one (i := 11) (by kernel_rfl) rfl rfl (fun _ => ?_)
       refine AO.appendF (i := 2) (enc := eI) (lst := (declsR (zips t) ++ (termsR l.length (zips t)).take u).map (·.2)) (lst2 := [(termsR l.length (zips t))[u].2]) rfl rfl rfl rfl memA (fun x d hd v hv => eI_one hd hv) (fun _ => rfl) (by simp only [List.length_map, List.length_cons, List.length_nil]; omega) (by simp only [List.length_map, List.length_cons, List.length_nil]; omega) (fun a104 k104 z104 => ?_)
       simp only [List.set_cons_zero, List.set_cons_succ]
       refine AT.held bxA memB ?_
       refine AH.one (i := 13) (by kernel_rfl) rfl rfl (fun _ => ?_)
       refine AO.storeB rfl rfl rfl ?_
       refine AT.spoilt rfl ?_
       refine AH.takeW (i := 14) rfl (Y.field rfl) (by kernel_rfl) rfl rfl ?_
       refine AH.one (i := 15) (by kernel_rfl) rfl rfl (fun _ => ?_)
       refine AO.storeB rfl rfl rfl ?_
       refine AT.spoilt rfl ?_
       refine AH.done (by kernel_rfl) ?_
       refine AK.blkN (AK.seqN (AC.region (AL.go (AO.add rfl rfl rfl (by omega) (by omega) (AL.go (AO.move rfl rfl (AL.nil ?_)))))))
       rw [fst_snoc, snd_snoc, take_snoc hul]
       exact AK.next (u + 1, (a98, k98, z98), (a104, k104, z104)) (by simp only; omega) (by simp only; omega) srA (Sub.drop.trans subF)
     ·refine AO.buildSlice rfl rfl rfl rfl rfl (fun b103 => ?_)
      refine AT.sub ((Sub.lit (i := 0) (k := 1) (enc := eI) (sz := 1) [(termsR l.length (zips t))[u].2] rfl (.val .nil) (fun _ => rfl) rfl (by omega)).trans Sub.drop) ?_
      refine AT.held bxA memB ?_
      refine AH.one (i := 4) (by kernel_rfl) rfl rfl (fun _ => ?_)
      refine AO.buildSlice rfl rfl rfl rfl rfl (fun b97 => ?_)
      refine AT.sub ((Sub.lit (i := 0) (k := 1) (enc := eS) (sz := 1) [(termsR l.length (zips t))[u].1] rfl (.val .nil) (fun _ => rfl) rfl (by omega)).trans Sub.drop) ?_
      refine AT.held bxA memB ?_
      refine AH.one (i := 5) (by kernel_rfl) rfl rfl (fun _ => ?_)
      refine AO.appendF (i := 3) (enc := eS) (lst := (declsR (zips t) ++ (termsR l.length (zips t)).take u).map (·.1)) (lst2 := [(termsR l.length (zips t))[u].1]) rfl rfl rfl rfl memA (fun x d hd v hv => eS_one hd hv) (fun _ => rfl) (by simp only [List.length_map, List.length_cons, List.length_nil]; omega) (by simp only [List.length_map, List.length_cons, List.length_nil]; omega) (fun a98 k98 z98 => ?_)
      simp only [List.set_cons_zero, List.set_cons_succ]
      refine AT.held bxA memB ?_
      refine AH.takeW (i := 12) rfl (Y.field rfl) (by kernel_rfl) rfl rfl ?_
      refine AH.one (i := 11) (by kernel_rfl) rfl rfl (fun _ => ?_)
      refine AO.appendF (i := 2) (enc := eI) (lst := (declsR (zips t) ++ (termsR l.length (zips t)).take u).map (·.2)) (lst2 := [(termsR l.length (zips t))[u].2]) rfl rfl rfl rfl memA (fun x d hd v hv => eI_one hd hv) (fun _ => rfl) (by simp only [List.length_map, List.length_cons, List.length_nil]; omega) (by simp only [List.length_map, List.length_cons, List.length_nil]; omega) (fun a104 k104 z104 => ?_)
      simp only [List.set_cons_zero, List.set_cons_succ]
      refine AT.held bxA memB ?_
      refine AH.one (i := 13) (by kernel_rfl) rfl rfl (fun _ => ?_)
      refine AO.storeB rfl rfl rfl ?_
      refine AT.spoilt rfl ?_
      refine AH.takeW (i := 14) rfl (Y.field rfl) (by kernel_rfl) rfl rfl ?_
      refine AH.one (i := 15) (by kernel_rfl) rfl rfl (fun _ => ?_)
      refine AO.storeB rfl rfl rfl ?_
      refine AT.spoilt rfl ?_
      refine AH.done (by kernel_rfl) ?_
      refine AK.blkN (AK.seqN (AC.region (AL.go (AO.add rfl rfl rfl (by omega) (by omega) (AL.go (AO.move rfl rfl (AL.nil ?_)))))))
      rw [fst_snoc, snd_snoc, take_snoc hul]
      exact AK.next (u + 1, (a98, k98, z98), (a104, k104, z104)) (by simp only; omega) (by simp only; omega) srA (Sub.drop.trans subF)
   ·refine AL.nil (AK.seqN (AC.seq (AC.condF rfl (AC.exit (AK.seqX ?_)))))
    refine AK.seqX (AK.blkX (AK.seqN (AC.seq (AC.region ?_))))
    have hu9 : (termsR l.length (zips t)).take u = termsR l.length (zips t) := List.take_of_length_le (by omega)
    rw [hu9, hname]
    refine AT.sub ((Sub.commit (i := 1) rfl).trans (Sub.commit (i := 2) rfl)) ?_
    simp only [List.set_cons_zero, List.set_cons_succ]
    refine AL.go (AO.loadBA rfl rfl ?_)
    refine AL.go (AO.storeBA rfl rfl rfl rfl ?_)
    refine AL.go (AO.assign rfl rfl (AL.nil (AK.seqN (AC.ret ?_))))
    exact AK.retV (rs := [.cell 4 _, .tmp 5]) (L' := L) (F' := fW (termsT l.length t) _ _ _ :: fK (termsT l.length t) _ _ _ :: F) Tryz.results176 (.agg (j := 4) rfl rfl rfl (.tmp rfl .nil)) (Sub.drop.trans (Sub.drop.trans (Sub.drop.trans (Sub.drop.trans (Sub.drop.trans (Sub.drop.trans (Sub.facts (mem2 memA memA (fun x hx => by repeat (first | exact hx | refine List.mem_cons_of_mem _ ?_)))))))))) (hF (odd_not hno) _ _ _ _ _ _)
end
end Go.Sy
namespace Go.Sy
open Go Go.Proofs Go.RowKit
theorem Sub.ownNone {L : List Res} {F : List Fact} {e : TypeId} {sz k c : Nat} {rows : List (List D)} (hm : Fact.slc (.slice none k c) sz rows ∈ F) : Sub L F (Res.own (.slice none 0 0) e sz rows :: L) F := by
  intro W0 w s
  have hk : rows = [] := by
    obtain ⟨hh, hf, _⟩ := s.fact hm
    have hf' : CR hh (.slice none k c) (.slc sz rows) := hf
    generalize hd : D.slc sz rows = dd at hf'
    cases hf' with
    | val => simp at hd
    | nil => simp at hd; exact hd.2
  subst hk
  exact Sub.ownNil W0 w s
attribute [local irreducible] AC AT AO AK AH ACalls Sub Res.cells Res.nix Res.own Res.map Exit.then Exit.inBlock bodyPost Code.wp Code.wpIn WL Next Post Kont
section
variable {W0 : World} {L : List Res} {F : List Fact} {R : Value → List Res → List Fact → Prop}
set_option maxRecDepth 100000
set_option maxHeartbeats 4000000
theorem clone_c (ks : List Int) (hl : ks.length ≤ 1000) {a : Option Addr} {k c : Nat} (m1 : Fact.slc (.slice a k c) 1 (ks.map eI) ∈ F) (h : ∀ a k c, R (.slice a k c) (Res.own (.slice a k c) 3 1 (ks.map eI) :: L) F) : ACalls Tryz.prog W0 175 #[.slice a k c] L F R := by
  refine ACalls.body Tryz.func175 rfl Tryz.ntmps175 rfl ?_
  refine AC.seq (AC.region (AL.go (AO.assign rfl rfl (AL.nil (AK.seqN (AC.seq ?_))))))
  refine AC.seq (AC.region (AL.go (AO.move rfl rfl ?_)))
  refine AL.go (AO.eqlSN Tryz.underlying27 rfl rfl rfl (fun c4 => ?_) (fun b4 c4 => ?_))
  ·refine AL.nil (AK.seqN (AC.condT rfl (AC.seq (AC.region (AL.go (AO.assign rfl rfl ?_))))))
   refine AL.nil (AK.seqN (AC.ret (AK.seqR ?_)))
   first
   | exact AK.ret Tryz.results175 rfl (Sub.refl _ _) (h a7 k7 z7)
   | (subst c4; exact AK.ret (F' := F) Tryz.results175 rfl (Sub.ownNone m1) (h none 0 0))
  ·refine AL.nil (AK.seqN (AC.condF rfl (AC.skip (AK.seqN (AC.seq ?_)))))
   refine AC.region ?_
   refine AL.go (AO.buildSlice0 rfl (fun b5 => ?_))
   refine AT.sub (Sub.toOwn (i := 0) (k := 0) (sz := 1) (enc := eI) [] rfl .nil (fun _ => rfl) rfl (by decide)) ?_
   refine AL.go (AO.move rfl rfl ?_)
   refine AL.go (AO.appendF (i := 0) (enc := eI) (lst := []) (lst2 := ks) rfl rfl rfl rfl memA (fun x d hd v hv => by subst hv; simp at hd; subst hd; rfl) (fun _ => rfl) (by simp only [maxLen, List.length_nil]; omega) (by simp only [List.length_nil]; omega) (fun a7 k7 z7 => ?_))
   refine AL.go (AO.assign rfl rfl (AL.nil (AK.seqN (AC.ret ?_))))
   first
   | exact AK.ret Tryz.results175 rfl (Sub.refl _ _) (h a7 k7 z7)
   | (subst c4; exact AK.ret (F' := F) Tryz.results175 rfl (Sub.ownNone m1) (h none 0 0))
end
end Go.Sy
namespace Go.Sy
open Go Go.Proofs
theorem name_short2 {s : List UInt8} (h : isName s = true) : s.length ≤ 20 := by
  unfold isName at h
  simp only [Bool.and_eq_true, decide_eq_true_eq] at h
  exact h.1.1.2
theorem field_short2 (w : List UInt8) : w.length ≤ (fieldN w).length + 1 := by
  unfold fieldN; split <;> simp
theorem cut_join (c : UInt8) : ∀ s : List UInt8, s.length ≤ (cutD c s).1.length + (cutD c s).2.1.length + 1
  | [] => by simp
  | x :: s => by
    have ih := cut_join c s
    unfold cutD
    split
    · simp
    · simp only [List.length_cons]; omega
theorem named_short {s : List UInt8} (h : namedP s) : s.length ≤ 41 := by
  have h1 := name_short2 h.2.1
  have h2 := name_short2 h.2.2
  have h3 := cut_join 46 s
  omega
theorem made_ok {l : List Ty} (hl : l.length ≤ 400) {t : Ty} (h : madeP l t) : TyOk t := by
  obtain ⟨hk, hf, hn, hw, hK⟩ := h
  have hkind : 1 ≤ t.kind ∧ t.kind ≤ 9 := by rcases hK with e | e | e | e | e | e | e | e | e <;> (have := e.1; omega)
  refine ⟨by omega, ?_, ?_, ?_, ?_, by omega, fun k hm => by have := hk k hm; omega⟩
  · rcases hK with e | e | e | e | e | e | e | e | e
    · have := e.2.1; omega
    · have := e.2.1; omega
    · have := e.2.1; have := e.2.2.1; omega
    · have := e.2.1; omega
    · rcases e.2 with e | e
      · omega
      · have := e.1; omega
    · have := e.2.1; omega
    · have h1 := e.2.2.1; have h2 := e.2.2.2.1; omega
    · have := e.2.1; omega
    · have := e.2.1; have := e.2.2.1; omega
  · by_cases c : t.kind = 8
    · have := named_short ((madeK_8 c).1 hK).2; omega
    · rw [hn c]; simp
  · by_cases c6 : t.kind = 6
    · have := ((madeK_6 c6).1 hK).2.2; omega
    · by_cases c7 : t.kind = 7
      · have := ((madeK_7 c7).1 hK).1; omega
      · rw [hw c6 c7]; simp
  · intro w hm
    by_cases c6 : t.kind = 6
    · obtain ⟨i, hi, rfl⟩ := List.getElem_of_mem hm
      have h1 := name_short2 (((madeK_6 c6).1 hK).2.1 i hi).1
      have h2 := field_short2 t.words[i]
      omega
    · by_cases c7 : t.kind = 7
      · obtain ⟨i, hi, rfl⟩ := List.getElem_of_mem hm
        rcases ((madeK_7 c7).1 hK).2.2.2 i hi with h1 | h1
        · rcases h1.1 with e | e <;> rw [e] <;> decide
        · have := name_short2 h1.2.1; omega
      · rw [hw c6 c7] at hm; simp at hm
theorem right_ok {l : List Ty} (h : rightP l) : ∀ t ∈ l, TyOk t := by
  intro t ht
  obtain ⟨q, hq, rfl⟩ := List.getElem_of_mem ht
  have hr := h.2.2 q hq
  unfold rowAt at hr
  by_cases c : q < 22
  · rw [if_pos c] at hr
    have hql : q < startL.length := by rw [start_len]; exact c
    rw [hr, start_get hql]
    exact start_ok _ (List.getElem_mem hql)
  · rw [if_neg c] at hr
    have := h.2.1
    exact made_ok (by rw [List.length_take]; omega) hr.1
theorem decl_term_len (zs : List Tm) : (declsR zs).length + (termsA zs).length ≤ zs.length := by
  refine snocInd (P := fun zs => (declsR zs).length + (termsA zs).length ≤ zs.length) (by simp [declsR, termsA]) ?_ zs
  intro zs z ih
  rw [termsA_snoc, declsR_snoc, List.length_append]
  split
  · have : (addTm (termsA zs) z).length ≤ (termsA zs).length + 1 := by
      unfold addTm
      split
      · rw [List.length_append]; simp
      · split
        · rw [List.length_set]; omega
        · omega
    simp only [List.length_cons, List.length_nil]; omega
  · rw [List.length_append]; simp only [List.length_cons, List.length_nil]; omega
theorem termsR_len {m : Nat} {zs : List Tm} (hz : ∀ z ∈ zs, 0 ≤ z.2 ∧ z.2 < m) : (termsR m zs).length = (termsA zs).length := by
  have hp := List.mergeSort_perm (termsA zs) (fun x y => decide (x.2 ≤ y.2))
  have hs : ((termsA zs).mergeSort (fun x y => decide (x.2 ≤ y.2))).Pairwise fun x y => x.2 ≤ y.2 := by
    have := List.pairwise_mergeSort (le := fun (x y : Tm) => decide (x.2 ≤ y.2)) (fun a b c h1 h2 => by simp at *; omega) (fun a b => by simp; omega) (termsA zs)
    exact this.imp fun h => by simpa using h
  rw [← terms_sort (fun z h _ => hz z h) hp hs]
  exact hp.length_eq
theorem zips_kids {t : Ty} (h : t.words.length = t.kids.length) : (zips t).length = t.kids.length := by unfold zips; rw [List.length_zip]; omega
theorem termsT_len {m : Nat} {t : Ty} (hw : t.words.length = t.kids.length) (hk : ∀ k ∈ t.kids, 0 ≤ k ∧ k < m) : (termsT m t).kids.length ≤ t.kids.length ∧ (termsT m t).words.length ≤ t.kids.length := by
  have h1 := decl_term_len (zips t)
  have h2 := termsR_len (m := m) (zips_in hk)
  have h3 := zips_kids hw
  have h4 : (declsR (zips t) ++ termsR m (zips t)).length ≤ t.kids.length := by rw [List.length_append]; omega
  unfold termsT
  simp only [List.length_map]
  omega
theorem terms_mem {m : Nat} {t : Ty} (hk : ∀ k ∈ t.kids, 0 ≤ k ∧ k < m) : ∀ z ∈ declsR (zips t) ++ termsR m (zips t), 0 ≤ z.2 ∧ z.2 < m ∧ (z.1 ∈ t.words ∨ markP z.1) := by
  intro z hz
  rcases List.mem_append.1 hz with h | h
  · have hm : z ∈ zips t := (List.mem_filter.1 h).1
    have := zips_in hk z hm
    exact ⟨this.1, this.2, .inl (List.of_mem_zip hm).1⟩
  · have := (termsR_mem m (zips t) z).1 h
    exact ⟨this.2.2.1, this.2.2.2, .inr (this.1 ▸ (markOf_is (zips t) z.2).resolve_left (by rw [← this.1]; exact this.2.1))⟩
theorem mapK_ok {out : List Ty} (ho : out.length ≤ 400) {ins : List Int} {t : Ty} (ht : TyOk t) (hk : ∀ k ∈ (mapK ins t).kids, 0 ≤ k ∧ k < out.length) : TyOk (mapK ins t) := by
  refine ⟨ht.kind, ht.n, ht.name, ht.words, ht.word, ?_, fun k hm => by have := hk k hm; omega⟩
  unfold mapK; simp only [List.length_map]; exact ht.kids
theorem termsT_ok {m : Nat} (hm : m ≤ 400) {t : Ty} (ht : TyOk t) (hw : t.words.length = t.kids.length) (hk : ∀ k ∈ t.kids, 0 ≤ k ∧ k < m) : TyOk (termsT m t) := by
  obtain ⟨h1, h2⟩ := termsT_len hw hk
  have hkl := ht.kids
  have hmem := terms_mem hk
  refine ⟨ht.kind, ht.n, by simp [termsT], by omega, ?_, by omega, ?_⟩
  · intro w hx
    obtain ⟨z, hz, rfl⟩ := List.mem_map.1 hx
    rcases (hmem z hz).2.2 with h | h
    · exact ht.word _ h
    · rcases h with e | e <;> rw [e] <;> decide
  · intro k hx
    obtain ⟨z, hz, rfl⟩ := List.mem_map.1 hx
    have := hmem z hz
    omega
theorem getD_eq {α : Type} {l : List α} {q : Nat} (z : α) (hq : q < l.length) : l.getD q z = l[q] := by rw [List.getD_eq_getElem?_getD, List.getElem?_eq_getElem hq]; rfl
def MapS (M : List Bool) (ins : List Int) (q : Nat) (m : Int → Option Int) : Prop := ∀ p : Nat, p < q → M.getD p false = true → m (p : Int) = some (ins.getD p 0)
open Classical in
theorem MapS.upd {M : List Bool} {ins : List Int} {q : Nat} {m : Int → Option Int} (h : MapS M ins q m) (hl : ins.length = q) (x : Int) : MapS M (ins ++ [x]) (q + 1) (upd m (q : Int) x) := by
  intro p hp hM
  by_cases e : p = q
  · subst e
    rw [upd_self, ← hl]; simp [List.getD_eq_getElem?_getD]
  · rw [upd_ne _ (by omega), getD_app _ _ _ (by omega)]
    exact h p (by omega) hM
theorem MapS.skip {M : List Bool} {ins : List Int} {q : Nat} {m : Int → Option Int} (h : MapS M ins q m) (hl : ins.length = q) (x : Int) (hM : M.getD q false = false) : MapS M (ins ++ [x]) (q + 1) m := by
  intro p hp hMp
  by_cases e : p = q
  · subst e; rw [hM] at hMp; cases hMp
  · rw [getD_app _ _ _ (by omega)]
    exact h p (by omega) hMp
section
variable {l : List Ty} {args A : List Int} {M : List Bool} {q : Nat} {out : List Ty} {ins : List Int}
theorem sub_out (hs : subN l args A M q = .ok (out, ins)) (h : M.getD q false = false ∨ A.getD q 0 = 0) : subN l args A M (q + 1) = .ok (out, ins ++ [(q : Int)]) := by
  rw [subN, hs]; simp only; unfold stepS; rw [if_pos h]
theorem sub_param (hs : subN l args A M q = .ok (out, ins)) (hM : M.getD q false = true) (hA : A.getD q 0 ≠ 0) (hq : q < l.length) (h9 : l[q].kind = 9) : subN l args A M (q + 1) = .ok (out, ins ++ [args.getD l[q].n.toNat 0]) := by
  rw [subN, hs]; simp only; unfold stepS
  rw [if_neg (by rw [hM]; simp only [Bool.true_eq_false, false_or]; exact hA), getD_eq _ hq, if_pos h9]
theorem sub_put (hs : subN l args A M q = .ok (out, ins)) (hM : M.getD q false = true) (hA : A.getD q 0 ≠ 0) (hq : q < l.length) (h9 : l[q].kind ≠ 9) : subN l args A M (q + 1) = putS out ins (mapK ins l[q]) := by
  rw [subN, hs]; simp only; unfold stepS
  rw [if_neg (by rw [hM]; simp only [Bool.true_eq_false, false_or]; exact hA), getD_eq _ hq, if_neg h9]
end
theorem put_odd {out : List Ty} {ins : List Int} {t : Ty} (h7 : t.kind = 7) (ho : oddP out t) : putS out ins t = .error 11 := by unfold putS; rw [if_pos ⟨h7, ho⟩]
theorem put_iface {out : List Ty} {ins : List Int} {t : Ty} (hr : rightP out) (h7 : t.kind = 7) (ho : ¬ oddP out t) {m : List Ty} {i e : Int} (h : AddP out (termsT out.length t) m i e) : putS out ins t = if e = 0 then .ok (m, ins ++ [i]) else .error e := by
  unfold putS; rw [if_neg (fun h => ho h.2), if_pos h7, addF_is hr h]
theorem put_plain {out : List Ty} {ins : List Int} {t : Ty} (hr : rightP out) (h7 : t.kind ≠ 7) {m : List Ty} {i e : Int} (h : AddP out t m i e) : putS out ins t = if e = 0 then .ok (m, ins ++ [i]) else .error e := by
  unfold putS; rw [if_neg (fun h => h7 h.1), if_neg h7, addF_is hr h]
def kidsS (ins ks : List Int) (v : Nat) : List Int := (ks.take v).map (fun k => ins.getD k.toNat 0) ++ ks.drop v
theorem kidsS_len (ins ks : List Int) (v : Nat) : (kidsS ins ks v).length = ks.length := by unfold kidsS; rw [List.length_append, List.length_map, List.length_take, List.length_drop]; omega
theorem kidsS_zero (ins ks : List Int) : kidsS ins ks 0 = ks := by simp [kidsS]
theorem kidsS_all (ins ks : List Int) {v : Nat} (h : ks.length ≤ v) : kidsS ins ks v = ks.map (fun k => ins.getD k.toNat 0) := by
  unfold kidsS; rw [List.take_of_length_le h, List.drop_eq_nil_of_le h, List.append_nil]
theorem kidsS_get {ins ks : List Int} {v : Nat} (hv : v < ks.length) : (kidsS ins ks v)[v]? = some ks[v] := by
  unfold kidsS
  rw [List.getElem?_append_right (by simp; omega)]
  simp [Nat.min_eq_left (Nat.le_of_lt hv), List.getElem?_drop, hv]
theorem kidsS_set {ins ks : List Int} {v : Nat} (hv : v < ks.length) : (kidsS ins ks v).set v (ins.getD ks[v].toNat 0) = kidsS ins ks (v + 1) := by
  unfold kidsS
  have hl : ((ks.take v).map (fun k => ins.getD k.toNat 0)).length = v := by rw [List.length_map, List.length_take]; omega
  rw [List.set_append_right _ _ (by omega), hl, Nat.sub_self, List.drop_eq_getElem_cons hv, List.set_cons_zero, List.take_succ_eq_append_getElem hv, List.map_append]
  simp
end Go.Sy
namespace Go.Sy
open Go Go.Proofs Go.RowKit
theorem eIs_get {A : List Int} {q : Nat} {x : Int} (h : A[q]? = some x) : (A.map eI)[q]? = some [.val (.int .i64 x)] := by rw [List.getElem?_map, h]; rfl
theorem eIs_set {A : List Int} {q : Nat} {x : Int} : (A.map eI).set q [.val (.int .i64 x)] = (A.set q x).map eI := by rw [List.map_set]
theorem bad_of {l : List Ty} {args : List Int} (h : ¬ ∀ j (hj : j < args.length), ¬ (args[j] < 0 ∨ args[j] ≥ (l.length : Int))) : ∃ a ∈ args, ¬(0 ≤ a ∧ a < l.length) := by
  refine Classical.byContradiction fun hn => h fun j hj hx => hn ⟨args[j], List.getElem_mem hj, by omega⟩
theorem good_of {l : List Ty} {args : List Int} (h : ∀ j (hj : j < args.length), ¬ (args[j] < 0 ∨ args[j] ≥ (l.length : Int))) : ∀ a ∈ args, 0 ≤ a ∧ a < l.length := by
  intro a ha
  obtain ⟨j, hj, rfl⟩ := List.getElem_of_mem ha
  have := h j hj
  omega
theorem not_bad {l : List Ty} {i : Nat} {args : List Int} (h1 : ∀ a ∈ args, 0 ≤ a ∧ a < l.length) (h2 : (asksL (l.take (i + 1))).getD i 0 ≤ args.length) : ¬ badArgs l i args := by
  rintro (h | ⟨a, ha, hn⟩)
  · omega
  · exact hn (h1 a ha)
theorem subR_bad {l : List Ty} {i : Nat} {args : List Int} (h : badArgs l i args) : subR l i args = .error 1 := by unfold subR; rw [if_pos h]
theorem subR_ok {l : List Ty} {i : Nat} {args : List Int} (h : ¬ badArgs l i args) {out : List Ty} {ins : List Int} (hs : subN l args (asksL (l.take (i + 1))) (partsL l i) (i + 1) = .ok (out, ins)) : subR l i args = .ok (out, ins.getD i 0) := by
  unfold subR; rw [if_neg h, hs]
theorem subR_error {l : List Ty} {i : Nat} {args : List Int} (h : ¬ badArgs l i args) {q : Nat} (hq : q ≤ i + 1) {e : Int} (hs : subN l args (asksL (l.take (i + 1))) (partsL l i) q = .error e) : subR l i args = .error e := by
  have h2 := subN_error hs (i + 1 - q)
  rw [show q + (i + 1 - q) = i + 1 by omega] at h2
  unfold subR; rw [if_neg h, h2]
attribute [local irreducible] AC AT AO AK AH ACalls Sub Res.cells Res.nix Res.own Res.map Exit.then Exit.inBlock bodyPost Code.wp Code.wpIn WL Next Post Kont
section
variable {W0 : World} {L : List Res} {F : List Fact} {R : Value → List Res → List Fact → Prop}
set_option maxRecDepth 100000
set_option maxHeartbeats 8000000
theorem there_c (g : Glob W0) (l : List Ty) (hok : ∀ t ∈ l, TyOk t) (i : Int) {a : Option Addr} {k c : Nat} (mL : fL l a k c ∈ F) (h1 : ¬ rightP l → R (.int .i64 1) L F) (h2 : rightP l → ¬(0 ≤ i ∧ i < l.length) → R (.int .i64 8) L F) (h3 : rightP l → 0 ≤ i ∧ i < l.length → R (.int .i64 0) L F) : ACalls Tryz.prog W0 171 #[.slice a k c, .int .i64 i] L F R := by
  refine ACalls.body Tryz.func171 rfl Tryz.ntmps171 rfl ?_
  refine AC.seq (AC.region (AL.go (AO.assign rfl rfl (AL.nil (AK.seqN (AC.seq ?_))))))
  refine AC.block (AC.seq (AC.region (AL.go (AO.move rfl rfl ?_))))
  refine AL.go (AO.call rfl rfl (right_c g l hok memA (fun c7 => ?_) (fun c7 => ?_)))
  ·refine AL.go (AO.not rfl rfl (AL.go (AO.assign rfl rfl (AL.nil (AK.seqN (AC.condF rfl (AC.seq ?_)))))))
   refine AC.region (AL.go (AO.move rfl rfl ?_))
   refine AL.go (AO.lss rfl rfl rfl (fun c11 => ?_) (fun c11 => ?_))
   ·refine AL.go (AO.move rfl rfl (AL.no rfl rfl rfl rfl (AL.no rfl rfl rfl rfl (AL.no rfl rfl rfl rfl (AL.no rfl rfl rfl rfl (AL.go (AO.pickT rfl rfl rfl ?_)))))))
    refine AL.go (AO.assign rfl rfl (AL.nil (AK.seqN (AC.condT rfl (AC.seq (AC.region ?_))))))
    refine AL.go (AO.assign rfl rfl (AL.nil (AK.seqN (AC.ret (AK.blkR (AK.seqR ?_))))))
    exact AK.ret Tryz.results171 rfl subF (h2 c7 (by omega))
   ·refine AL.go (AO.move rfl rfl (AL.yes rfl rfl (AO.move rfl rfl (AL.yes rfl rfl (AO.move rfl rfl ?_)))))
    refine AL.yes rfl rfl (AO.len rfl rfl (fun hl15 => ?_) (hm := by repeat (first | exact mem0 | assumption | refine memS ?_)))
    refine AL.yes rfl rfl (AO.geq rfl rfl rfl (fun c16 => ?_) (fun c16 => ?_))
    ·refine AL.go (AO.pickF rfl rfl rfl (AL.go (AO.assign rfl rfl (AL.nil (AK.seqN (AC.condT rfl (AC.seq ?_)))))))
     refine AC.region (AL.go (AO.assign rfl rfl (AL.nil (AK.seqN (AC.ret (AK.blkR ?_))))))
     refine AK.seqR ?_
     exact AK.ret Tryz.results171 rfl subF (h2 c7 (by omega))
    ·refine AL.go (AO.pickF rfl rfl rfl (AL.go (AO.assign rfl rfl (AL.nil (AK.seqN (AC.condF rfl (AC.skip ?_)))))))
     refine AK.blkN (AK.seqN (AC.seq (AC.region (AL.go (AO.assign rfl rfl (AL.nil ?_))))))
     refine AK.seqN (AC.ret ?_)
     exact AK.ret Tryz.results171 rfl subF (h3 c7 (by omega))
  ·refine AL.go (AO.not rfl rfl (AL.go (AO.assign rfl rfl (AL.nil (AK.seqN (AC.condT rfl (AC.seq ?_)))))))
   refine AC.region (AL.go (AO.assign rfl rfl (AL.nil (AK.seqN (AC.ret (AK.blkR ?_))))))
   refine AK.seqR ?_
   exact AK.ret Tryz.results171 rfl subF (h1 c7)
theorem sub1_c (l : List Ty) (s : Int) {a3 : Option Addr} {k3 c3 b i : Nat} {ty : TypeId} (m3 : fL l a3 k3 c3 ∈ F) (hb : L[i]? = some (Res.cells b #[.slice a3 k3 c3] ty)) (hT : s < 0 ∨ s ≥ l.length → R (.bool true) L F) (hF : ¬(s < 0 ∨ s ≥ l.length) → R (.bool false) L F) :
    ACalls Tryz.prog W0 173 #[.int .i64 s, .pointer (some ⟨b, 0, none⟩)] L F R := by
  refine ACalls.body Tryz.func173 rfl Tryz.ntmps173 rfl ?_
  refine AC.seq (AC.region (AL.go (AO.assign rfl rfl (AL.nil (AK.seqN (AC.seq ?_))))))
  refine AC.region (AL.go (AO.move rfl rfl ?_))
  refine AL.go (AO.lss rfl rfl rfl (fun c5 => ?_) (fun c5 => ?_))
  ·refine AL.go (AO.move rfl rfl (AL.no rfl rfl rfl rfl (AL.no rfl rfl rfl rfl (AL.no rfl rfl rfl rfl (AL.no rfl rfl rfl rfl (AL.go (AO.pickT rfl rfl rfl ?_)))))))
   refine AL.go (AO.assign rfl rfl (AL.nil (AK.seqN (AC.ret ?_))))
   first | exact AK.ret (L' := L) (F' := F) Tryz.results173 rfl subF (hT (Or.inl c5)) | exact AK.ret (L' := L) (F' := F) Tryz.results173 rfl subF (hT (Or.inr c10)) | exact AK.ret (L' := L) (F' := F) Tryz.results173 rfl subF (hF (by omega))
  ·refine AL.go (AO.move rfl rfl (AL.yes rfl rfl (AO.move rfl rfl ?_)))
   refine AL.yes rfl rfl (AO.loadB (cs := [.slice a3 k3 c3]) rfl rfl ?_ (hi := hb) (hv := rfl))
   refine AL.yes rfl rfl (AO.len rfl rfl (fun hl9 => ?_) (hm := m3))
   refine AL.yes rfl rfl (AO.geq rfl rfl rfl (fun c10 => ?_) (fun c10 => ?_))
   ·refine AL.go (AO.pickF rfl rfl rfl (AL.go (AO.assign rfl rfl (AL.nil (AK.seqN (AC.ret ?_))))))
    first | exact AK.ret (L' := L) (F' := F) Tryz.results173 rfl subF (hT (Or.inl c5)) | exact AK.ret (L' := L) (F' := F) Tryz.results173 rfl subF (hT (Or.inr c10)) | exact AK.ret (L' := L) (F' := F) Tryz.results173 rfl subF (hF (by omega))
   ·refine AL.go (AO.pickF rfl rfl rfl (AL.go (AO.assign rfl rfl (AL.nil (AK.seqN (AC.ret ?_))))))
    first | exact AK.ret (L' := L) (F' := F) Tryz.results173 rfl subF (hT (Or.inl c5)) | exact AK.ret (L' := L) (F' := F) Tryz.results173 rfl subF (hT (Or.inr c10)) | exact AK.ret (L' := L) (F' := F) Tryz.results173 rfl subF (hF (by omega))
end
end Go.Sy
namespace Go.Sy
open Go Go.Proofs
def askAt (N : List Ty) (p : Nat) : Int := (asksL N).getD p 0
theorem ask_all (N : List Ty) : asksL N = asksL (N.take N.length) := by rw [List.take_length]
theorem ask_in {N : List Ty} {i p : Nat} (hi : i < N.length) (hp : p ≤ i) : (asksL (N.take (i + 1))).getD p 0 = askAt N p := by
  unfold askAt
  rw [ask_all N]
  have e : N.length = i + 1 + (N.length - (i + 1)) := by omega
  have := asks_pre N (N.length - (i + 1)) (i + 1) p (by omega) (by omega)
  rw [← e] at this
  exact this.symm
theorem ask_one {N : List Ty} {p : Nat} (hp : p < N.length) : askAt N p = ask1 (asksL (N.take p)) N[p] := by
  rw [← ask_in hp (Nat.le_refl p)]
  exact asks_at hp (Nat.le_refl p)
theorem ask_pre {N M : List Ty} (h : N <+: M) {p : Nat} (hp : p < N.length) : askAt M p = askAt N p := by
  obtain ⟨r, rfl⟩ := h
  have hp2 : p < (N ++ r).length := by simp; omega
  rw [← ask_in hp2 (Nat.le_refl p), ← ask_in hp (Nat.le_refl p), List.take_append_of_le_length (by omega)]
theorem ask_nonneg {N : List Ty} (hr : rightP N) {p : Nat} (hp : p < N.length) : 0 ≤ askAt N p := by
  rw [← ask_in hp (Nat.le_refl p)]; exact asks_nonneg hr hp (Nat.le_refl p)
theorem ask_kid {N : List Ty} (hr : rightP N) {p : Nat} (hp : p < N.length) {k : Int} (hk : k ∈ N[p].kids) : askAt N k.toNat ≤ askAt N p := by
  have hb := (rt_of_right hr hp).kids k hk
  rw [← ask_in hp (Nat.le_refl p), ← ask_in hp (show k.toNat ≤ p by omega)]
  exact asks_kid hr hp (Nat.le_refl p) hk
theorem ask_param {N : List Ty} (hr : rightP N) {p : Nat} (hp : p < N.length) (h9 : N[p].kind = 9) : askAt N p = N[p].n + 1 := by
  rw [ask_one hp]
  unfold ask1 ask0
  rw [if_pos h9, ((rt_of_right hr hp).param h9).2.2]; rfl
def mapG (g : Int → Nat) (t : Ty) : Ty := ⟨t.kind, t.name, t.n, t.words, t.kids.map fun k => ((g k : Nat) : Int)⟩
def normT (m : Nat) (t : Ty) : Ty := if t.kind = 7 then termsT m t else t
theorem mapG_congr {g f : Int → Nat} {t : Ty} (h : ∀ k ∈ t.kids, g k = f k) : mapG g t = mapG f t := by
  unfold mapG; congr 1; exact List.map_congr_left fun k hk => by rw [h k hk]
theorem markOf_set (zs : List Tm) (k : Int) : (markOf zs k = [126] ↔ ([126], k) ∈ zs) ∧ (markOf zs k = [61] ↔ ([126], k) ∉ zs ∧ ([61], k) ∈ zs) := by
  refine snocInd (P := fun zs => (markOf zs k = [126] ↔ ([126], k) ∈ zs) ∧ (markOf zs k = [61] ↔ ([126], k) ∉ zs ∧ ([61], k) ∈ zs)) ?_ ?_ zs
  · simp [markOf]
  · intro zs z ih
    obtain ⟨z1, z2⟩ := z
    obtain ⟨h1, h2⟩ := ih
    rw [markOf_snoc]
    simp only [List.mem_append, List.mem_singleton, Prod.mk.injEq]
    by_cases c : markP z1 ∧ z2 = k ∧ markOf zs k ≠ [126]
    · rw [if_pos c]
      obtain ⟨c1, rfl, c3⟩ := c
      have hn : ([126], z2) ∉ zs := fun h => c3 (h1.2 h)
      rcases c1 with rfl | rfl
      · simp [hn]
      · simp [hn]
    · rw [if_neg c]
      constructor
      · rw [h1]
        constructor
        · exact fun h => .inl h
        · rintro (h | ⟨rfl, rfl⟩)
          · exact h
          · refine h1.1 (Classical.byContradiction fun h => c ⟨.inr rfl, rfl, h⟩)
      · rw [h2]
        constructor
        · rintro ⟨a, b⟩
          refine ⟨fun h => h.elim a ?_, .inl b⟩
          rintro ⟨rfl, rfl⟩
          exact c ⟨.inr rfl, rfl, fun h => a (h1.1 h)⟩
        · rintro ⟨a, b⟩
          refine ⟨fun h => a (.inl h), ?_⟩
          rcases b with b | ⟨rfl, rfl⟩
          · exact b
          · exact absurd (h1.1 (Classical.byContradiction fun h => c ⟨.inl rfl, rfl, h⟩)) (fun h => a (.inl h))
theorem decl_mem {zs : List Tm} {z : Tm} (h : z ∈ zs) (hm : ¬ markP z.1) : z ∈ declsR zs := List.mem_filter.2 ⟨h, by simpa using hm⟩
theorem termsR_mark {m : Nat} {zs : List Tm} {z : Tm} (h : z ∈ termsR m zs) : markP z.1 := by
  have := (termsR_mem m zs z).1 h
  exact this.1 ▸ (markOf_is zs z.2).resolve_left (by rw [← this.1]; exact this.2.1)
theorem declsR_app (a b : List Tm) : declsR (a ++ b) = declsR a ++ declsR b := by unfold declsR; exact List.filter_append ..
theorem declsR_marks {zs : List Tm} (h : ∀ z ∈ zs, markP z.1) : declsR zs = [] := by
  unfold declsR
  rw [List.filter_eq_nil_iff]
  intro z hz
  simp [h z hz]
theorem terms_kids {m : Nat} {t : Ty} (hw : t.words.length = t.kids.length) (hk : ∀ k ∈ t.kids, 0 ≤ k ∧ k < m) : ∀ k : Int, k ∈ (termsT m t).kids ↔ k ∈ t.kids := by
  intro k
  have e : (termsT m t).kids = (declsR (zips t) ++ termsR m (zips t)).map (·.2) := rfl
  have hz : ∀ k, k ∈ t.kids ↔ ∃ w, (w, k) ∈ zips t := by
    intro k
    constructor
    · intro h
      obtain ⟨i, hi, rfl⟩ := List.getElem_of_mem h
      have hl : i < (zips t).length := by rw [zips_kids hw]; exact hi
      exact ⟨t.words[i]'(by omega), by rw [← zips_get (by omega) hi hl]; exact List.getElem_mem hl⟩
    · rintro ⟨w, h⟩; exact (List.of_mem_zip h).2
  rw [e, hz, List.mem_map]
  constructor
  · rintro ⟨⟨w, p⟩, hx, rfl⟩
    rcases List.mem_append.1 hx with hx | hx
    · exact ⟨w, (List.mem_filter.1 hx).1⟩
    · have h1 := (termsR_mem m (zips t) (w, p)).1 hx
      obtain ⟨z, hz1, _, e2⟩ := markOf_kid (zips t) p (by rw [← h1.1]; exact h1.2.1)
      obtain ⟨w2, p2⟩ := z
      simp only at e2
      exact ⟨w2, e2 ▸ hz1⟩
  · rintro ⟨w, h⟩
    by_cases hm : markP w
    · have hb := zips_in hk _ h
      have hne : markOf (zips t) k ≠ [] := by
        rcases hm with rfl | rfl
        · by_cases h2 : ([126], k) ∈ zips t
          · rw [(markOf_set (zips t) k).1.2 h2]; simp
          · rw [(markOf_set (zips t) k).2.2 ⟨h2, h⟩]; simp
        · rw [(markOf_set (zips t) k).1.2 h]; simp
      exact ⟨(markOf (zips t) k, k), List.mem_append_right _ ((termsR_mem m (zips t) _).2 ⟨rfl, hne, hb.1, hb.2⟩), rfl⟩
    · exact ⟨(w, k), List.mem_append_left _ (decl_mem h hm), rfl⟩
end Go.Sy
namespace Go.Sy
open Go Go.Proofs
theorem markOf_none {zs : List Tm} {k : Int} (h : ∀ z ∈ zs, z.2 ≠ k) : markOf zs k = [] := by
  refine Classical.byContradiction fun hn => ?_
  obtain ⟨z, hz, _, e⟩ := markOf_kid zs k hn
  exact h z hz e
theorem termsR_more {m : Nat} {zs : List Tm} (hz : ∀ z ∈ zs, 0 ≤ z.2 ∧ z.2 < m) : ∀ d, termsR (m + d) zs = termsR m zs
  | 0 => rfl
  | d + 1 => by
    have e : termsR (m + (d + 1)) zs = termsR (m + d) zs ++ (if markOf zs ((m + d : Nat) : Int) = [] then [] else [(markOf zs ((m + d : Nat) : Int), ((m + d : Nat) : Int))]) := by
      unfold termsR
      rw [show m + (d + 1) = m + d + 1 by omega, List.range_succ, List.filterMap_append]
      generalize m + d = x
      congr 1
      by_cases h : markOf zs (x : Int) = []
      · simp [h]
      · simp [h]
    rw [e, if_pos (markOf_none fun z hx e2 => by have := hz z hx; omega), List.append_nil, termsR_more hz d]
theorem norm_more {m m2 : Nat} {t : Ty} (hk : ∀ k ∈ t.kids, 0 ≤ k ∧ k < m) (h : m ≤ m2) : normT m2 t = normT m t := by
  unfold normT
  split
  · unfold termsT
    obtain ⟨d, rfl⟩ : ∃ d, m2 = m + d := ⟨m2 - m, by omega⟩
    rw [termsR_more (zips_in hk)]
  · rfl
theorem norm_kind (m : Nat) (t : Ty) : (normT m t).kind = t.kind := by unfold normT; split <;> rfl
theorem mapG_kids {g : Int → Nat} {m : Nat} {t : Ty} (h : ∀ k ∈ t.kids, g k < m) : ∀ k ∈ (mapG g t).kids, 0 ≤ k ∧ k < m := by
  intro k hk
  obtain ⟨x, hx, rfl⟩ := List.mem_map.1 hk
  have := h x hx
  omega
theorem odd_pre {N M : List Ty} (h : N <+: M) {t : Ty} (hk : ∀ k ∈ t.kids, 0 ≤ k ∧ k < N.length) : oddP M t ↔ oddP N t := by
  have e : ∀ k : Int, 0 ≤ k → k < N.length → kindAt M k = kindAt N k := by
    obtain ⟨r, rfl⟩ := h
    intro k h0 h1
    unfold kindAt
    rw [List.getElem?_append_left (by omega)]
  unfold oddP
  constructor
  · rintro ⟨z, hz, hm, ho⟩
    have := zips_in hk z hz
    exact ⟨z, hz, hm, by rw [← e _ this.1 this.2]; exact ho⟩
  · rintro ⟨z, hz, hm, ho⟩
    have := zips_in hk z hz
    exact ⟨z, hz, hm, by rw [e _ this.1 this.2]; exact ho⟩
theorem get_pre {N M : List Ty} (h : N <+: M) {p : Nat} (hp : p < N.length) : M[p]'(Nat.lt_of_lt_of_le hp h.length_le) = N[p] := by
  obtain ⟨r, rfl⟩ := h
  exact List.getElem_append_left hp
inductive SubS (N : List Ty) (args : List Int) : Nat → Nat → Prop where
  | stay {p : Nat} (hp : p < N.length) (h : askAt N p = 0) : SubS N args p p
  | param {p q : Nat} (hp : p < N.length) (h9 : N[p].kind = 9) (hq : args[N[p].n.toNat]? = some (q : Int)) : SubS N args p q
  | made {p q : Nat} (g : Int → Nat) (hp : p < N.length) (h9 : N[p].kind ≠ 9) (ha : askAt N p ≠ 0) (hg : ∀ k ∈ N[p].kids, SubS N args k.toNat (g k)) (ho : N[p].kind = 7 → ¬ oddP N (mapG g N[p])) (hq : q < N.length) (hN : N[q] = normT N.length (mapG g N[p])) : SubS N args p q
section
variable {N : List Ty} {args : List Int}
theorem SubS.lt (hgood : ∀ a ∈ args, 0 ≤ a ∧ a < N.length) {p q : Nat} (h : SubS N args p q) : q < N.length := by
  cases h with
  | stay hp _ => exact hp
  | param hp h9 hq =>
    have := hgood _ (List.mem_of_getElem? hq)
    omega
  | made g hp h9 ha hg ho hq hN => exact hq
theorem ask_pos {p : Nat} (hr : rightP N) (hp : p < N.length) (h9 : N[p].kind = 9) : askAt N p ≠ 0 := by
  have h1 := ask_param hr hp h9
  have h2 := ((rt_of_right hr hp).param h9).1
  omega
theorem SubS.inj (hr : rightP N) : ∀ p q q2, SubS N args p q → SubS N args p q2 → q = q2 := by
  intro p
  induction p using Nat.strongRecOn with
  | ind p ih =>
    intro q q2 h1 h2
    cases h1 with
    | stay hp h =>
      cases h2 with
      | stay _ _ => rfl
      | param _ h9 _ => exact absurd h (ask_pos hr hp h9)
      | made g _ h9 ha _ _ _ _ => exact absurd h ha
    | param hp h9 hq =>
      cases h2 with
      | stay _ h => exact absurd h (ask_pos hr hp h9)
      | param _ _ hq2 => rw [hq] at hq2; injection hq2 with e; omega
      | made g _ h92 _ _ _ _ _ => exact absurd h9 h92
    | made g hp h9 ha hg ho hq hN =>
      cases h2 with
      | stay _ h => exact absurd h ha
      | param _ h92 _ => exact absurd h92 h9
      | made f _ _ _ hf _ hq2 hN2 =>
        have e : mapG g N[p] = mapG f N[p] := mapG_congr fun k hk => by
          have hb := (rt_of_right hr hp).kids k hk
          exact ih k.toNat (by omega) _ _ (hg k hk) (hf k hk)
        exact right_inj hr hq hq2 (by rw [hN, hN2, e])
theorem SubS.mono {M : List Ty} (h : N <+: M) (hgood : ∀ a ∈ args, 0 ≤ a ∧ a < N.length) {p q : Nat} (hs : SubS N args p q) : SubS M args p q := by
  have hl := h.length_le
  induction hs with
  | stay hp h0 => exact .stay (by omega) (by rw [ask_pre h hp]; exact h0)
  | param hp h9 hq => exact .param (by omega) (by rw [get_pre h hp]; exact h9) (by rw [get_pre h hp]; exact hq)
  | @made p q g hp h9 ha hg ho hq hN ih =>
    have hk := mapG_kids (g := g) fun k hk => (hg k hk).lt hgood
    refine .made g (by omega) (by rw [get_pre h hp]; exact h9) (by rw [ask_pre h hp]; exact ha) (fun k hk => ?_) ?_ (by omega) ?_
    · rw [get_pre h hp] at hk; exact ih k hk
    · rw [get_pre h hp]
      intro h7
      rw [odd_pre h hk]
      exact ho h7
    · rw [get_pre h hq, get_pre h hp, hN, norm_more hk hl]
theorem SubS.parts (hr : rightP N) {i : Nat} (hi : i < N.length) (h0 : ∃ q, SubS N args i q) : ∀ j, j ≤ i + 1 → ∀ p, (partsN N i j).getD p false = true → ∃ q, SubS N args p q
  | 0, _, p, h => by
    rw [partsN, set_getD] at h
    split at h
    · rename_i c; rw [← c.1]; exact h0
    · rw [List.getD_eq_getElem?_getD, List.getElem?_replicate] at h
      split at h <;> simp at h
  | j + 1, hj, p, h => by
    rw [mkpart_get hr hi j (by omega)] at h
    rcases h with h | ⟨h1, k, hk, e⟩
    · exact SubS.parts hr hi h0 j (by omega) p h
    · obtain ⟨q, hq⟩ := SubS.parts hr hi h0 j (by omega) _ h1
      have hb := kid_low hr hi (Nat.sub_le i j) hk
      rw [row_kid hi (Nat.sub_le i j)] at hk
      rw [← e]
      cases hq with
      | stay hp h =>
        have h3 := ask_kid hr hp hk
        have h4 := ask_nonneg hr (show k.toNat < N.length by omega)
        exact ⟨_, .stay (by omega) (by omega)⟩
      | param hp h9 _ => rw [((rt_of_right hr hp).param h9).2.2] at hk; simp at hk
      | made g hp _ _ hg _ _ _ => exact ⟨_, hg k hk⟩
end
theorem mapK_G {ins : List Int} {t : Ty} (h : ∀ k ∈ t.kids, 0 ≤ ins.getD k.toNat 0) : mapK ins t = mapG (fun k => (ins.getD k.toNat 0).toNat) t := by
  unfold mapK mapG
  congr 1
  exact List.map_congr_left fun k hk => by have := h k hk; simp only; omega
theorem add_at {l : List Ty} {t : Ty} {m : List Ty} {i e : Int} (h : AddP l t m i e) (he : e = 0) : ∃ q : Nat, ∃ hq : q < m.length, i = (q : Int) ∧ m[q] = t := by
  rcases h with ⟨q, hq, h1, h2, h3, h4⟩ | ⟨n, ⟨_, h2, _, h4⟩ | ⟨_, _, h2, _, h4⟩ | ⟨hm, hl, h2, h3, h4⟩⟩
  · subst h2; exact ⟨q, hq, h3, h1⟩
  · omega
  · omega
  · subst h2; exact ⟨l.length, by simp, h3, by simp⟩
theorem add_has (l : List Ty) (t : Ty) : ∃ m i e, AddP l t m i e := by
  by_cases h : t ∈ l
  · obtain ⟨q, hq, e⟩ := List.getElem_of_mem h
    exact ⟨l, q, 0, .inl ⟨q, hq, e, rfl, rfl, rfl⟩⟩
  · by_cases h2 : madeP l t
    · by_cases h3 : l.length = 400
      · exact ⟨[], 0, 7, .inr ⟨h, .inr (.inl ⟨h2, h3, rfl, rfl, rfl⟩)⟩⟩
      · exact ⟨l ++ [t], l.length, 0, .inr ⟨h, .inr (.inr ⟨h2, h3, rfl, rfl, rfl⟩)⟩⟩
    · exact ⟨[], 0, 1, .inr ⟨h, .inl ⟨h2, rfl, rfl, rfl⟩⟩⟩
theorem put_ok {out : List Ty} {ins : List Int} {t : Ty} (hr : rightP out) {o : List Ty} {ins2 : List Int} (h : putS out ins t = .ok (o, ins2)) : (t.kind = 7 → ¬ oddP out t) ∧ ∃ q : Nat, ∃ hq : q < o.length, rightP o ∧ out <+: o ∧ ins2 = ins ++ [(q : Int)] ∧ o[q] = normT out.length t := by
  by_cases h7 : t.kind = 7
  · by_cases ho : oddP out t
    · rw [put_odd h7 ho] at h; cases h
    · obtain ⟨m, i, e, hP⟩ := add_has out (termsT out.length t)
      rw [put_iface hr h7 ho hP] at h
      split at h
      · rename_i he
        obtain ⟨h1, h2, _, _⟩ := add_pre hr hP he
        obtain ⟨q, hq, rfl, e2⟩ := add_at hP he
        injection h with h; injection h with h h'
        subst h h'
        exact ⟨fun _ => ho, q, hq, h1, h2, rfl, by unfold normT; rw [if_pos h7]; exact e2⟩
      · cases h
  · obtain ⟨m, i, e, hP⟩ := add_has out t
    rw [put_plain hr h7 hP] at h
    split at h
    · rename_i he
      obtain ⟨h1, h2, _, _⟩ := add_pre hr hP he
      obtain ⟨q, hq, rfl, e2⟩ := add_at hP he
      injection h with h; injection h with h h'
      subst h h'
      exact ⟨fun h => absurd h h7, q, hq, h1, h2, rfl, by unfold normT; rw [if_neg h7]; exact e2⟩
    · cases h
section
variable {l : List Ty} {args : List Int} {i : Nat}
theorem sub_sound (hr : rightP l) (hi : i < l.length) (hgood : ∀ a ∈ args, 0 ≤ a ∧ a < l.length) (hlen : (asksL (l.take (i + 1))).getD i 0 ≤ args.length) : ∀ q, q ≤ i + 1 → ∀ out ins, subN l args (asksL (l.take (i + 1))) (partsL l i) q = .ok (out, ins) →
    SubOk l q out ins ∧ ∀ p, p < q → (partsL l i).getD p false = true → SubS out args p (ins.getD p 0).toNat
  | 0, _, out, ins, h => by
    injection h with h; injection h with h h'
    subst h h'
    exact ⟨⟨hr, List.prefix_rfl, rfl, fun p hp => absurd hp (by omega)⟩, fun p hp => absurd hp (by omega)⟩
  | q + 1, hq, out2, ins2, h => by
    rw [subN] at h
    cases hs : subN l args (asksL (l.take (i + 1))) (partsL l i) q with
    | error e => rw [hs] at h; cases h
    | ok x =>
      obtain ⟨out, ins⟩ := x
      rw [hs] at h
      simp only at h
      obtain ⟨hso, hS⟩ := sub_sound hr hi hgood hlen q (by omega) out ins hs
      have hql : q < l.length := by omega
      have hol := hso.pre.length_le
      have hil := hso.len
      have hrt := rt_of_right hr hql
      have hgo : ∀ a ∈ args, 0 ≤ a ∧ a < out.length := fun a ha => by have := hgood a ha; omega
      have hlast : ∀ x : Int, (ins ++ [x]).getD q 0 = x := fun x => by rw [← hil]; simp [List.getD_eq_getElem?_getD]
      have hold : ∀ (x : Int) p, p < q → (ins ++ [x]).getD p 0 = ins.getD p 0 := fun x p hp => getD_app _ _ _ (by omega)
      have hq2 : q < out.length := by omega
      have hoq : out[q] = l[q] := get_pre hso.pre hql
      unfold stepS at h
      by_cases c : (partsL l i).getD q false = false ∨ (asksL (l.take (i + 1))).getD q 0 = 0
      · rw [if_pos c] at h
        injection h with h; injection h with h h'
        subst h h'
        refine ⟨hso.step hso.right List.prefix_rfl (by omega), fun p hp hM => ?_⟩
        by_cases e : p = q
        · subst e
          rw [hlast]
          have h0 : askAt out p = 0 := by rw [ask_pre hso.pre hql, ← ask_in hi (by omega)]; exact c.resolve_left (by rw [hM]; simp)
          exact .stay hq2 h0
        · rw [hold _ _ (by omega)]; exact hS p (by omega) hM
      · rw [if_neg c] at h
        have hM1 : (partsL l i).getD q false = true := by
          cases hx : (partsL l i).getD q false
          · exact absurd (.inl hx) c
          · rfl
        rw [getD_eq _ hql] at h
        by_cases h9 : l[q].kind = 9
        · rw [if_pos h9] at h
          injection h with h; injection h with h h'
          subst h h'
          have hp9 := hrt.param h9
          have hask := (parts_ask hr hi (i + 1) (Nat.le_refl _) hM1).2
          have hA9 : (asksL (l.take (i + 1))).getD q 0 = l[q].n + 1 := by rw [ask_in hi (by omega)]; exact ask_param hr hql h9
          have hna : l[q].n.toNat < args.length := by omega
          have hga := getD_eq (0 : Int) hna
          have hgr := hgood _ (List.getElem_mem hna)
          refine ⟨hso.step hso.right List.prefix_rfl (by rw [hga]; omega), fun p hp hM => ?_⟩
          by_cases e : p = q
          · subst e
            rw [hlast, hga]
            refine .param hq2 (by rw [hoq]; exact h9) ?_
            rw [hoq, List.getElem?_eq_getElem hna]
            congr 1; omega
          · rw [hold _ _ (by omega)]; exact hS p (by omega) hM
        · rw [if_neg h9] at h
          obtain ⟨ho, q2, hq2l, hr2, hp2, rfl, hN⟩ := put_ok hso.right h
          have hkids : ∀ k ∈ l[q].kids, 0 ≤ ins.getD k.toNat 0 ∧ ins.getD k.toNat 0 < out.length := fun k hk => by
            have := hrt.kids k hk
            exact hso.ins k.toNat (by omega)
          refine ⟨hso.step hr2 hp2 (by omega), fun p hp hM => ?_⟩
          by_cases e : p = q
          · subst e
            rw [hlast]
            have hol2 := hp2.length_le
            have hpre := hso.pre.trans hp2
            have ho2 : out2[p]'(by omega) = l[p] := get_pre hpre hql
            have hm := mapK_G fun k hk => (hkids k hk).1
            have hmk : ∀ k ∈ (mapK ins l[p]).kids, 0 ≤ k ∧ k < out.length := mapK_kids hso.ins hrt.kids
            refine .made (fun k => (ins.getD k.toNat 0).toNat) (by omega) (by rw [ho2]; exact h9) ?_ (fun k hk => ?_) ?_ (by omega) ?_
            · rw [ask_pre hpre hql, ← ask_in hi (by omega)]; exact fun h0 => c (.inr h0)
            · rw [ho2] at hk
              have := hrt.kids k hk
              exact (hS k.toNat (by omega) (parts_kid hr hi (by omega) hM1 hk)).mono hp2 hgo
            · rw [ho2, ← hm]
              intro h7
              rw [odd_pre hp2 hmk]
              exact ho h7
            · have e3 : (((q2 : Nat) : Int)).toNat = q2 := by omega
              simp only [e3]
              rw [ho2, ← hm, hN, norm_more hmk hol2]
          · rw [hold _ _ (by omega)]
            exact (hS p (by omega) hM).mono hp2 hgo
end
end Go.Sy
namespace Go.Sy
open Go Go.Proofs
section
variable {N : List Ty} {args others both : List Int}
end
theorem good_args {l : List Ty} {i : Nat} {args : List Int} (h : ¬ badArgs l i args) : (∀ a ∈ args, 0 ≤ a ∧ a < l.length) ∧ (asksL (l.take (i + 1))).getD i 0 ≤ args.length := by
  refine ⟨fun a ha => Classical.byContradiction fun hn => h (.inr ⟨a, ha, hn⟩), ?_⟩
  have : ¬ ((args.length : Int) < (asksL (l.take (i + 1))).getD i 0) := fun hn => h (.inl hn)
  omega
theorem subR_sound {l : List Ty} {i : Nat} {args : List Int} (hr : rightP l) (hi : i < l.length) {o : List Ty} {q : Int} (h : subR l i args = .ok (o, q)) : ¬ badArgs l i args ∧ rightP o ∧ l <+: o ∧ 0 ≤ q ∧ q < o.length ∧ SubS o args i q.toNat := by
  by_cases hb : badArgs l i args
  · rw [subR_bad hb] at h; cases h
  · obtain ⟨hgood, hlen⟩ := good_args hb
    cases hs : subN l args (asksL (l.take (i + 1))) (partsL l i) (i + 1) with
    | error e => rw [subR_error hb (Nat.le_refl _) hs] at h; cases h
    | ok x =>
      obtain ⟨out, ins⟩ := x
      rw [subR_ok hb hs] at h
      injection h with h; injection h with h h'
      subst h h'
      obtain ⟨hso, hS⟩ := sub_sound hr hi hgood hlen (i + 1) (Nat.le_refl _) out ins hs
      have := hso.ins i (by omega)
      exact ⟨hb, hso.right, hso.pre, this.1, this.2, hS i (by omega) (parts_self hr hi)⟩
def paramN (k : Int) : Ty := ⟨9, [], k, [], []⟩
theorem last_app {α : Type} (ds ms : List α) (h : ms ≠ []) : (ds ++ ms).getLast? = ms.getLast? := by
  rw [List.getLast?_append, List.getLast?_eq_some_getLast h]; rfl
theorem elems_parts {l : List Ty} {t : Ty} (h : elemsP l t) : ∃ ds ms : List Tm, zips t = ds ++ ms ∧ (∀ z ∈ ds, ¬ markP z.1) ∧ (∀ z ∈ ms, markP z.1) ∧ ms.Pairwise fun x y => x.2 < y.2 := by
  obtain ⟨hl, _, _, hall⟩ := h
  have hzl := zips_kids hl
  have key : ∀ q, q ≤ (zips t).length → ∃ ds ms : List Tm, (zips t).take q = ds ++ ms ∧ (∀ z ∈ ds, ¬ markP z.1) ∧ (∀ z ∈ ms, markP z.1) ∧ ms.Pairwise fun x y => x.2 < y.2 := by
    intro q
    induction q with
    | zero => intro _; exact ⟨[], [], by simp, by simp, by simp, .nil⟩
    | succ q ih =>
      intro hq
      obtain ⟨ds, ms, e, h1, h2, h3⟩ := ih (by omega)
      have hqw : q < t.words.length := by omega
      have hqk : q < t.kids.length := by omega
      have hqz : q < (zips t).length := by omega
      have hz := zips_get hqw hqk hqz
      have hlast : 0 < q → ∃ hq1 : q - 1 < (zips t).length, (ds ++ ms).getLast? = some (zips t)[q - 1] := by
        intro h0
        refine ⟨by omega, ?_⟩
        rw [← e, List.getLast?_take]
        rw [if_neg (by omega), List.getElem?_eq_getElem (by omega)]; rfl
      rw [List.take_succ_eq_append_getElem hqz, e]
      have hprev : ∀ hq1 : q - 1 < (zips t).length, 0 < q → (zips t)[q - 1] = (t.words.getD (q - 1) [], kidAt t (q - 1)) := by
        intro hq1 h0
        rw [zips_get (show q - 1 < t.words.length by omega) (show q - 1 < t.kids.length by omega) hq1, getD_eq _ (show q - 1 < t.words.length by omega), kid_get (show q - 1 < t.kids.length by omega)]
      rcases hall q hqw with ⟨hm, _, _, _, _, hp⟩ | ⟨hm, _, _, hp⟩
      · refine ⟨ds, ms ++ [(zips t)[q]], by rw [List.append_assoc], h1, fun z hx => ?_, ?_⟩
        · rcases List.mem_append.1 hx with hx | hx
          · exact h2 z hx
          · have : z = (zips t)[q] := by simpa using hx
            rw [this, hz]; exact hm
        · refine List.pairwise_append.2 ⟨h3, by simp, fun x hx y hy => ?_⟩
          have : y = (zips t)[q] := by simpa using hy
          subst this
          have h0 : 0 < q := by
            rcases Nat.eq_zero_or_pos q with c | c
            · subst c
              have hen : ds ++ ms = [] := by rw [← e]; simp
              rw [(List.append_eq_nil_iff.1 hen).2] at hx; cases hx
            · exact c
          obtain ⟨hq1, hg⟩ := hlast h0
          have hne : ms ≠ [] := fun c => by rw [c] at hx; cases hx
          rw [last_app _ _ hne] at hg
          have hgl : ms.getLast? = some (ms.getLast hne) := List.getLast?_eq_some_getLast hne
          rw [hgl] at hg
          have e5 : ms.getLast hne = (zips t)[q - 1] := Option.some.inj hg
          have hmk : markP (t.words.getD (q - 1) []) := by
            have := h2 _ (List.getLast_mem hne)
            rw [e5, hprev hq1 h0] at this; exact this
          have hlt := hp h0 hmk
          have hle : x.2 ≤ ((zips t)[q - 1]).2 := by
            rw [← e5]
            rcases List.eq_nil_or_concat ms with c | ⟨ms', y', c⟩
            · exact absurd c hne
            · rw [List.concat_eq_append] at c
              subst c
              have hgy : (ms' ++ [y']).getLast hne = y' := by simp
              rw [hgy]
              rcases List.mem_append.1 hx with hx | hx
              · have := (List.pairwise_append.1 h3).2.2 x hx y' (by simp)
                omega
              · have : x = y' := by simpa using hx
                rw [this]; exact Int.le_refl _
          rw [hprev hq1 h0] at hle
          rw [hz]
          have hle2 : x.2 ≤ kidAt t (q - 1) := hle
          rw [kid_get hqk] at hlt
          show x.2 < t.kids[q]
          omega
      · have hms : ms = [] := by
          refine Classical.byContradiction fun hne => ?_
          have h0 : 0 < q := by
            rcases Nat.eq_zero_or_pos q with c | c
            · subst c
              have hen : ds ++ ms = [] := by rw [← e]; simp
              exact absurd (List.append_eq_nil_iff.1 hen).2 hne
            · exact c
          obtain ⟨hq1, hg⟩ := hlast h0
          rw [last_app _ _ hne, List.getLast?_eq_some_getLast hne] at hg
          have e5 : ms.getLast hne = (zips t)[q - 1] := Option.some.inj hg
          have := h2 _ (List.getLast_mem hne)
          rw [e5, hprev hq1 h0] at this
          exact (hp h0).1 this
        subst hms
        refine ⟨ds ++ [(zips t)[q]], [], by simp, fun z hx => ?_, by simp, .nil⟩
        rcases List.mem_append.1 hx with hx | hx
        · exact h1 z hx
        · have : z = (zips t)[q] := by simpa using hx
          rw [this, hz]; exact hm
  obtain ⟨ds, ms, e, h⟩ := key (zips t).length (Nat.le_refl _)
  rw [List.take_length] at e
  exact ⟨ds, ms, e, h⟩
end Go.Sy
namespace Go.Sy
open Go Go.Proofs
structure Mth where
  name : List UInt8
  ptr : Bool
  sig : Int
deriving DecidableEq
structure Nmd where
  name : List UInt8
  bounds : List Int
  under : Int
  methods : List Mth
deriving DecidableEq
instance : Inhabited Mth := ⟨⟨[], false, 0⟩⟩
instance : Inhabited Nmd := ⟨⟨[], [], 0, []⟩⟩
abbrev eMt (m : Mth) : List D := [.val (S m.name), .val (.bool m.ptr), .val (.int .i64 m.sig)]
abbrev eNm (n : Nmd) : List D := [.val (S n.name), .slc 1 (n.bounds.map eI), .val (.int .i64 n.under), .slc 3 (n.methods.map eMt)]
abbrev vNm (n : Nmd) (a1 : Option Addr) (k1 c1 : Nat) (a2 : Option Addr) (k2 c2 : Nat) : Value := .agg #[S n.name, .slice a1 k1 c1, .int .i64 n.under, .slice a2 k2 c2]
abbrev fBd (n : Nmd) (a : Option Addr) (k c : Nat) : Fact := .slc (.slice a k c) 1 (n.bounds.map eI)
abbrev fMs (l : List Mth) (a : Option Addr) (k c : Nat) : Fact := .slc (.slice a k c) 3 (l.map eMt)
abbrev fN (l : List Nmd) (a : Option Addr) (k c : Nat) : Fact := .slc (.slice a k c) 4 (l.map eNm)
def isK (T : List Ty) (i k : Int) : Prop := 0 ≤ i ∧ i < T.length ∧ kindAt T i = k
def fewA (T : List Ty) (i most : Int) : Prop := 0 ≤ i ∧ i < T.length ∧ askAt T i.toNat ≤ most
def boundsP (T : List Ty) (n : Nmd) : Prop := n.bounds.length ≤ 16 ∧ ∀ b ∈ n.bounds, isK T b 7 ∧ fewA T b n.bounds.length
def underP (T : List Ty) (n : Nmd) : Prop := fewA T n.under n.bounds.length ∧ ¬ isK T n.under 8 ∧ ¬ isK T n.under 9 ∧ ¬(14 ≤ n.under ∧ n.under ≤ 19)
def methodP (T : List Ty) (n : Nmd) (i : Nat) (hi : i < n.methods.length) : Prop :=
  isName n.methods[i].name = true ∧ isK T n.methods[i].sig 5 ∧ fewA T n.methods[i].sig n.bounds.length ∧ (0 < i → Op.bytesLess (n.methods.getD (i - 1) default).name n.methods[i].name = true)
def methodsP (T : List Ty) (n : Nmd) : Prop :=
  n.methods.length ≤ 16 ∧ (∀ i (hi : i < n.methods.length), methodP T n i hi) ∧ (n.methods ≠ [] → ¬ isK T n.under 7 ∧ ¬ isK T n.under 1)
def namedU (T : List Ty) (n : Nmd) : Prop := namedP n.name ∧ boundsP T n ∧ underP T n ∧ methodsP T n
def atN (N : List Nmd) (s : List UInt8) : Option Nat := N.findIdx? (·.name == s)
def fitsU (N : List Nmd) (t : Ty) : Prop := t.kind = 8 → ∃ i, atN N t.name = some i ∧ (N.getD i default).bounds.length = t.kids.length
def nameAt (T : List Ty) (N : List Nmd) (i : Nat) (hi : i < N.length) : Prop := namedU T N[i] ∧ (0 < i → Op.bytesLess (N.getD (i - 1) default).name N[i].name = true)
def rightU (T : List Ty) (N : List Nmd) : Prop := rightP T ∧ N.length ≤ 60 ∧ (∀ i (hi : i < N.length), nameAt T N i hi) ∧ ∀ t ∈ T, fitsU N t
theorem atN_some {N : List Nmd} {s : List UInt8} {i : Nat} (h : atN N s = some i) : ∃ hi : i < N.length, N[i].name = s := by
  obtain ⟨hi, h1, _⟩ := List.findIdx?_eq_some_iff_getElem.1 h
  exact ⟨hi, by simpa using h1⟩
theorem atN_first {N : List Nmd} {s : List UInt8} {q : Nat} (hq : q < N.length) (h : N[q].name = s) (hn : ∀ j (hj : j < N.length), j < q → N[j].name ≠ s) : atN N s = some q := by
  unfold atN
  rw [List.findIdx?_eq_some_iff_getElem]
  exact ⟨hq, by simp [h], fun j hj => by have := hn j (by omega) hj; simp [this]⟩
theorem atN_no {N : List Nmd} {s : List UInt8} (hn : ∀ j (hj : j < N.length), N[j].name ≠ s) : atN N s = none := by
  unfold atN
  rw [List.findIdx?_eq_none_iff]
  intro x hx
  obtain ⟨j, hj, rfl⟩ := List.getElem_of_mem hx
  simp [hn j hj]
end Go.Sy
namespace Go.Sy
open Go Go.RowKit
theorem Y.geqS {P : Program} {n : Nat} {ρ : Rho} {T : World → Prop} {d : Option Tmp} {ty t yt : TypeId} {pos : String} {af : Array Edge} {g : Option (Nat × Bool)} {x y : Operand} {a b : List UInt8} (hx : ev ρ x = some (S a)) (hy : ev ρ y = some (S b)) :
    Yd P n ρ T ⟨d, .binOp .geq t x y yt, ty, pos, af, g⟩ (.bool (!(Op.bytesLess a b))) := ⟨fun s w st _ => by simp only [execOp, ev_eval st hx, ev_eval st hy, eqGuard_at_string, binOp_string_geq, S_toList]; simp⟩
theorem Y.neqB {P : Program} {n : Nat} {ρ : Rho} {T : World → Prop} {d : Option Tmp} {ty t yt : TypeId} [ht : BoT P t] {pos : String} {af : Array Edge} {g : Option (Nat × Bool)} {x y : Operand} {p q : Bool} (hx : ev ρ x = some (.bool p)) (hy : ev ρ y = some (.bool q)) :
    Yd P n ρ T ⟨d, .binOp .neq t x y yt, ty, pos, af, g⟩ (.bool (!(p == q))) := ⟨fun s w st _ => by simp [execOp, ev_eval st hx, ev_eval st hy, eqGuard_at_bool, run_neq_bool (P := P) w t p q ht.und]⟩
end Go.Sy
namespace Go.Sy
open Go Go.Proofs Go.RowKit
theorem asks_full (T : List Ty) : (asksL T).length = T.length := by rw [ask_all]; exact asks_len T T.length (Nat.le_refl _)
theorem rep_step2 {α : Type} (z : α) {n q : Nat} (h : q < n) : List.replicate (n - q) z = z :: List.replicate (n - (q + 1)) z := by
  have e : n - q = (n - (q + 1)) + 1 := by omega
  rw [e, List.replicate_succ]
theorem ask_next2 {l : List Ty} {n q : Nat} (hq : q < l.length) : (asksL (l.take q) ++ askK (asksL (l.take q)) (ask0 l[q]) l[q].kids :: List.replicate (n - (q + 1)) 0) = asksL (l.take (q + 1)) ++ List.replicate (n - (q + 1)) 0 := by
  rw [asks_step hq]; simp [ask1]
attribute [local irreducible] AC AT AO AK AH ACalls Sub Res.cells Res.nix Res.own Res.map Exit.then Exit.inBlock bodyPost Code.wp Code.wpIn WL Next Post Kont
section
variable {W0 : World} {L : List Res} {F : List Fact} {R : Value → List Res → List Fact → Prop}
set_option maxRecDepth 100000
set_option maxHeartbeats 8000000
theorem uasks_c (l : List Ty) (hr : rightP l) {a : Option Addr} {k c : Nat} (mL : fL l a k c ∈ F) (h : ∀ a k c, R (.slice a k c) L (fI (asksL l) a k c :: F)) : ACalls Tryz.prog W0 42 #[.slice a k c] L F R := by
  have h400 := hr.2.1
  refine ACalls.body Tryz.func42 rfl Tryz.ntmps42 rfl ?_
  refine AC.seq (AC.region (AL.go (AO.assign rfl rfl (AL.nil (AK.seqN (AC.seq ?_))))))
  refine AC.region (AL.go (AO.move rfl rfl ?_))
  refine AL.go (AO.len rfl rfl (fun hl9 => ?_) (enc := eTy) (lst := l) (hm := memA))
  refine AL.go (AO.makeSlice1 (m := l.length) rfl rfl rfl rfl (by omega) (by omega) rfl (fun b10 => ?_))
  refine AL.go (AO.assign rfl rfl (AL.nil (AK.seqN (AC.seq (AC.seq (AC.region ?_))))))
  refine AL.go (AO.move rfl rfl ?_)
  refine AL.go (AO.len rfl rfl (fun hl12 => ?_) (enc := eTy) (lst := l) (hm := memA))
  refine AL.go (AO.move rfl rfl (AL.nil (AK.seqN (AC.block ?_))))
  refine AC.loop (fun (q : Nat) => q ≤ l.length) (fun q => [(3, .slice (some ⟨b10, 0, none⟩) l.length l.length), (11, .slice a k c), (12, .int .i64 l.length), (13, .int .i64 (q : Int))]) (fun q => Res.cells b10 ((asksL (l.take q) ++ List.replicate (l.length - q) 0).map (Value.int .i64)).toArray 3 :: L) (fun _ => _) (fun q => l.length - q) 0 (Nat.zero_le _) srA (Sub.ofEq (by simp [asksL])) ?_
  rintro q hq
  refine AC.seq (AC.region ?_)
  refine AL.go (AO.lss rfl rfl rfl (fun c14 => ?_) (fun c14 => ?_))
  ·refine AL.nil (AK.seqN (AC.seq (AC.condT rfl (AC.skip (AK.seqN ?_)))))
   refine AC.seq (AC.block (AC.seq (AC.region (AL.go (AO.move rfl rfl ?_)))))
   have hql : q < l.length := by omega
   have hAl := asks_len l q (by omega)
   have hrt := rt_of_right hr hql
   rw [rep_step2 0 hql]
   refine AL.go (AO.indexAddr rfl rfl rfl rfl (enc := eTy) (lst := l) memA hql (fun _ _ => ?_))
   refine AL.go (AO.loadFA rfl rfl ?_)
   intro a22 k22 z22 d22 e22 f22
   refine AL.go (AO.alloc rfl (fun b5 => ?_))
   refine AL.go (AO.assign rfl rfl ?_)
   refine AL.go (AO.storeBA rfl rfl rfl rfl ?_)
   refine AL.nil (AK.seqN (AC.seq (AC.seq (AC.region (AL.go (AO.field rfl rfl ?_))))))
   refine AL.go (AO.loadB rfl rfl ?_)
   refine AL.go (AO.eql rfl rfl rfl (fun c20 => ?_) (fun c20 => ?_))
   ·refine AL.nil (AK.seqN (AC.condT rfl (AC.region (AL.go (AO.move rfl rfl (AL.go (AO.move rfl rfl ?_)))))))
    refine AL.go (AO.field rfl rfl ?_)
    refine AL.go (AO.loadB rfl rfl ?_)
    have hp := hrt.param c20
    refine AL.go (AO.add rfl rfl rfl (by omega) (by omega) ?_)
    refine AL.go (AO.ofY (Y.indexAddr (k := q) rfl rfl rfl (by omega)) rfl ?_)
    refine AL.go (AO.storeB (v := .int .i64 (l[q].n + 1)) (cs := (asksL (l.take q) ++ 0 :: List.replicate (l.length - (q + 1)) 0).map (Value.int .i64)) rfl rfl rfl ?_ (ho := blt_of (by simp; omega)))
    rw [setA hAl]
    refine AL.nil (AK.seqN (AC.seq (AC.region (AL.go (AO.field rfl rfl ?_)))))
    refine AL.go (AO.loadB rfl rfl ?_)
    refine AL.go (AO.len rfl rfl (fun hl29 => ?_) (enc := eI) (lst := l[q].kids) (hm := memA))
    refine AL.go (AO.move rfl rfl (AL.nil (AK.seqN (AC.block ?_))))
    rw [show l[q].n + 1 = ask0 l[q] from (if_pos c20).symm]
    refine AC.loop (fun (v : Nat) => v ≤ l[q].kids.length) (fun v => [(3, .slice (some ⟨b10, 0, none⟩) l.length l.length), (11, .slice a k c), (12, .int .i64 l.length), (13, .int .i64 (q : Int)), (4, .int .i64 (q : Int)), (5, .pointer (some ⟨b5, 0, none⟩)), (28, .slice d22 e22 f22), (29, .int .i64 l[q].kids.length), (30, .int .i64 (v : Int))]) (fun v => _ :: Res.cells b10 ((asksL (l.take q) ++ askK (asksL (l.take q)) (ask0 l[q]) (l[q].kids.take v) :: List.replicate (l.length - (q + 1)) 0).map (Value.int .i64)).toArray 3 :: L) (fun _ => _) (fun v => l[q].kids.length - v) 0 (Nat.zero_le _) srA (Sub.refl _ _) ?_
    rintro v hv
    refine AC.seq (AC.region ?_)
    refine AL.go (AO.lss rfl rfl rfl (fun c31 => ?_) (fun c31 => ?_))
    ·refine AL.nil (AK.seqN (AC.seq (AC.condT rfl (AC.skip (AK.seqN ?_)))))
     refine AC.seq (AC.block (AC.seq (AC.region ?_)))
     have hkf := hrt.few
     have hvl : v < l[q].kids.length := by omega
     have hb := hrt.kids _ (List.getElem_mem hvl)
     refine AL.go (AO.indexAddr rfl rfl rfl rfl (show fK l[q] _ _ _ ∈ _ from memA) hvl (fun _ _ => ?_))
     refine AL.go (AO.loadF rfl rfl ?_)
     intros
     refine AL.go (AO.assign rfl rfl (AL.nil (AK.seqN ?_)))
     refine AC.draw (fun i => Nat.beq i 12) [(b10, _, _)] bxA rfl (fun hx hX => ?_)
     refine AH.takeW (i := 0) rfl (Y.move rfl) (by kernel_rfl) rfl rfl ?_
     refine AH.takeW (i := 1) rfl (Y.move rfl) (by kernel_rfl) rfl rfl ?_
     refine AH.takeW (i := 2) rfl (Y.move rfl) (by kernel_rfl) rfl rfl ?_
     refine AH.takeW (i := 3) rfl (Y.move rfl) (by kernel_rfl) rfl rfl ?_
     refine AH.takeW (i := 4) rfl (Y.indexAddr rfl rfl rfl (by omega)) (by kernel_rfl) rfl rfl ?_
     refine AH.takeS (i := 5) rfl (Y.loadB rfl (List.Mem.head _) (getA hAl)) (by kernel_rfl) (by kernel_rfl) rfl rfl rfl ?_
     refine AH.takeW (i := 6) rfl (Y.move rfl) (by kernel_rfl) rfl rfl ?_
     refine AH.takeW (i := 7) rfl (Y.move rfl) (by kernel_rfl) rfl rfl ?_
     refine AH.takeW (i := 8) rfl (Y.indexAddr (k := l[q].kids[v].toNat) rfl rfl (by omega) (by omega)) (by kernel_rfl) rfl rfl ?_
     refine AH.takeS (i := 9) rfl (Y.loadB rfl (List.Mem.head _) (getB 0 (asks_pos hql hb))) (by kernel_rfl) (by kernel_rfl) rfl rfl rfl ?_
     refine AH.takeW (i := 10) rfl (Y.max rfl rfl) (by kernel_rfl) rfl rfl ?_
     refine AH.takeW (i := 11) rfl (Y.indexAddr rfl rfl rfl (by omega)) (by kernel_rfl) rfl rfl ?_
     refine AH.one (i := 12) (by kernel_rfl) rfl rfl (fun _ => ?_)
     rw [max_ask _ hvl]
     refine AO.storeB (v := .int .i64 (askK (asksL (l.take q)) (ask0 l[q]) (l[q].kids.take (v + 1)))) (cs := (asksL (l.take q) ++ askK (asksL (l.take q)) (ask0 l[q]) (l[q].kids.take v) :: List.replicate (l.length - (q + 1)) 0).map (Value.int .i64)) rfl rfl rfl ?_ (ho := blt_of (by simp; omega))
     rw [setA hAl]
     refine AT.spoilt rfl ?_
     refine AH.done (by kernel_rfl) ?_
     refine AK.blkN (AK.seqN (AC.region (AL.go (AO.add rfl rfl rfl (by omega) (by omega) (AL.go (AO.move rfl rfl (AL.nil ?_)))))))
     refine AK.next (v + 1) (by omega) (by omega) srA subF
    ·refine AL.nil (AK.seqN (AC.seq (AC.condF rfl (AC.exit (AK.seqX ?_)))))
     refine AK.seqX (AK.blkX (AK.blkN (AK.seqN (AC.region (AL.go (AO.add rfl rfl rfl (by omega) (by omega) ?_))))))
     refine AL.go (AO.move rfl rfl (AL.nil ?_))
     refine AK.next (q + 1) (by omega) (by omega) srA (Sub.drop.trans ?_)
     have hkt : l[q].kids.take v = l[q].kids := List.take_of_length_le (by omega)
     rw [hkt, ask_next2 hql]
     exact subF
   ·refine AL.nil (AK.seqN (AC.condF rfl (AC.skip (AK.seqN (AC.seq ?_)))))
    refine AC.region (AL.go (AO.field rfl rfl ?_))
    refine AL.go (AO.loadB rfl rfl ?_)
    refine AL.go (AO.len rfl rfl (fun hl29 => ?_) (enc := eI) (lst := l[q].kids) (hm := memA))
    refine AL.go (AO.move rfl rfl (AL.nil (AK.seqN (AC.block ?_))))
    rw [show (0 : Int) :: List.replicate (l.length - (q + 1)) 0 = ask0 l[q] :: List.replicate (l.length - (q + 1)) 0 by rw [show ask0 l[q] = 0 from if_neg c20]]
    refine AC.loop (fun (v : Nat) => v ≤ l[q].kids.length) (fun v => [(3, .slice (some ⟨b10, 0, none⟩) l.length l.length), (11, .slice a k c), (12, .int .i64 l.length), (13, .int .i64 (q : Int)), (4, .int .i64 (q : Int)), (5, .pointer (some ⟨b5, 0, none⟩)), (28, .slice d22 e22 f22), (29, .int .i64 l[q].kids.length), (30, .int .i64 (v : Int))]) (fun v => _ :: Res.cells b10 ((asksL (l.take q) ++ askK (asksL (l.take q)) (ask0 l[q]) (l[q].kids.take v) :: List.replicate (l.length - (q + 1)) 0).map (Value.int .i64)).toArray 3 :: L) (fun _ => _) (fun v => l[q].kids.length - v) 0 (Nat.zero_le _) srA (Sub.refl _ _) ?_
    rintro v hv
    refine AC.seq (AC.region ?_)
    refine AL.go (AO.lss rfl rfl rfl (fun c31 => ?_) (fun c31 => ?_))
    ·refine AL.nil (AK.seqN (AC.seq (AC.condT rfl (AC.skip (AK.seqN ?_)))))
     refine AC.seq (AC.block (AC.seq (AC.region ?_)))
     have hkf := hrt.few
     have hvl : v < l[q].kids.length := by omega
     have hb := hrt.kids _ (List.getElem_mem hvl)
     refine AL.go (AO.indexAddr rfl rfl rfl rfl (show fK l[q] _ _ _ ∈ _ from memA) hvl (fun _ _ => ?_))
     refine AL.go (AO.loadF rfl rfl ?_)
     intros
     refine AL.go (AO.assign rfl rfl (AL.nil (AK.seqN ?_)))
     refine AC.draw (fun i => Nat.beq i 12) [(b10, _, _)] bxA rfl (fun hx hX => ?_)
     refine AH.takeW (i := 0) rfl (Y.move rfl) (by kernel_rfl) rfl rfl ?_
     refine AH.takeW (i := 1) rfl (Y.move rfl) (by kernel_rfl) rfl rfl ?_
     refine AH.takeW (i := 2) rfl (Y.move rfl) (by kernel_rfl) rfl rfl ?_
     refine AH.takeW (i := 3) rfl (Y.move rfl) (by kernel_rfl) rfl rfl ?_
     refine AH.takeW (i := 4) rfl (Y.indexAddr rfl rfl rfl (by omega)) (by kernel_rfl) rfl rfl ?_
     refine AH.takeS (i := 5) rfl (Y.loadB rfl (List.Mem.head _) (getA hAl)) (by kernel_rfl) (by kernel_rfl) rfl rfl rfl ?_
     refine AH.takeW (i := 6) rfl (Y.move rfl) (by kernel_rfl) rfl rfl ?_
     refine AH.takeW (i := 7) rfl (Y.move rfl) (by kernel_rfl) rfl rfl ?_
     refine AH.takeW (i := 8) rfl (Y.indexAddr (k := l[q].kids[v].toNat) rfl rfl (by omega) (by omega)) (by kernel_rfl) rfl rfl ?_
     refine AH.takeS (i := 9) rfl (Y.loadB rfl (List.Mem.head _) (getB 0 (asks_pos hql hb))) (by kernel_rfl) (by kernel_rfl) rfl rfl rfl ?_
     refine AH.takeW (i := 10) rfl (Y.max rfl rfl) (by kernel_rfl) rfl rfl ?_
     refine AH.takeW (i := 11) rfl (Y.indexAddr rfl rfl rfl (by omega)) (by kernel_rfl) rfl rfl ?_
     refine AH.one (i := 12) (by kernel_rfl) rfl rfl (fun _ => ?_)
     rw [max_ask _ hvl]
     refine AO.storeB (v := .int .i64 (askK (asksL (l.take q)) (ask0 l[q]) (l[q].kids.take (v + 1)))) (cs := (asksL (l.take q) ++ askK (asksL (l.take q)) (ask0 l[q]) (l[q].kids.take v) :: List.replicate (l.length - (q + 1)) 0).map (Value.int .i64)) rfl rfl rfl ?_ (ho := blt_of (by simp; omega))
     rw [setA hAl]
     refine AT.spoilt rfl ?_
     refine AH.done (by kernel_rfl) ?_
     refine AK.blkN (AK.seqN (AC.region (AL.go (AO.add rfl rfl rfl (by omega) (by omega) (AL.go (AO.move rfl rfl (AL.nil ?_)))))))
     refine AK.next (v + 1) (by omega) (by omega) srA subF
    ·refine AL.nil (AK.seqN (AC.seq (AC.condF rfl (AC.exit (AK.seqX ?_)))))
     refine AK.seqX (AK.blkX (AK.blkN (AK.seqN (AC.region (AL.go (AO.add rfl rfl rfl (by omega) (by omega) ?_))))))
     refine AL.go (AO.move rfl rfl (AL.nil ?_))
     refine AK.next (q + 1) (by omega) (by omega) srA (Sub.drop.trans ?_)
     have hkt : l[q].kids.take v = l[q].kids := List.take_of_length_le (by omega)
     rw [hkt, ask_next2 hql]
     exact subF
  ·refine AL.nil (AK.seqN (AC.seq (AC.condF rfl (AC.exit (AK.seqX ?_)))))
   refine AK.seqX (AK.blkX (AK.seqN (AC.seq (AC.region ?_))))
   refine AL.go (AO.move rfl rfl ?_)
   have hq9 : q = l.length := by omega
   subst hq9
   rw [Nat.sub_self, List.replicate_zero, List.append_nil, List.take_length]
   refine AT.sub ((Sub.lit (i := 0) (enc := eI) (sz := 1) (k := l.length) (asksL l) rfl (cells_I _) (fun _ => rfl) (asks_full l) (by simp only [maxLen]; omega)).trans Sub.drop) ?_
   refine AL.go (AO.assign rfl rfl (AL.nil (AK.seqN (AC.ret ?_))))
   exact AK.ret (L' := L) (F' := fI (asksL l) _ _ _ :: F) Tryz.results42 rfl (Sub.headF (fun x hx => by repeat (first | exact hx | refine List.mem_cons_of_mem _ ?_))) (h _ _ _)
theorem is_c (T : List Ty) (i x : Int) {a a2 : Option Addr} {k c k2 c2 : Nat} (mL : fL T a k c ∈ F) (hT : isK T i x → R (.bool true) L F) (hF : ¬ isK T i x → R (.bool false) L F) : ACalls Tryz.prog W0 104 #[.agg #[.slice a k c, .slice a2 k2 c2], .int .i64 i, .int .i64 x] L F R := by
  refine ACalls.body Tryz.func104 rfl Tryz.ntmps104 rfl ?_
  refine AC.seq (AC.region (AL.go (AO.box rfl rfl (fun b3 => ?_))))
  refine AL.go (AO.assign rfl rfl (AL.nil (AK.seqN (AC.seq (AC.region (AL.go (AO.move rfl rfl ?_)))))))
  refine AL.go (AO.geq rfl rfl rfl (fun c8 => ?_) (fun c8 => ?_))
  ·refine AL.go (AO.move rfl rfl (AL.yes rfl rfl (AO.move rfl rfl (AL.yes rfl rfl (AO.field rfl rfl ?_)))))
   refine AL.yes rfl rfl (AO.loadB rfl rfl ?_)
   refine AL.yes rfl rfl (AO.len rfl rfl (fun hl13 => ?_) (enc := eTy) (lst := T) (hm := memA))
   refine AL.yes rfl rfl (AO.lss rfl rfl rfl (fun c14 => ?_) (fun c14 => ?_))
   ·refine AL.go (AO.pickT rfl rfl rfl (AL.go (AO.move rfl rfl (AL.yes rfl rfl (AO.field rfl rfl ?_)))))
    refine AL.yes rfl rfl (AO.loadB rfl rfl ?_)
    refine AL.yes rfl rfl (AO.move rfl rfl ?_)
    have hlt : i.toNat < T.length := by omega
    have hkt : kindAt T i = T[i.toNat].kind := kind_get (by omega) hlt
    refine AL.yes rfl rfl (AO.indexAddr (k := i.toNat) rfl rfl rfl (by omega) (enc := eTy) (lst := T) memA hlt (fun _ _ => ?_))
    refine AL.yes rfl rfl (AO.fieldAt rfl rfl (fun _ => ?_))
    refine AL.yes rfl rfl (AO.loadF rfl rfl ?_)
    intros
    refine AL.yes rfl rfl (AO.move rfl rfl ?_)
    refine AL.yes rfl rfl (AO.eql rfl rfl rfl (fun c24 => ?_) (fun c24 => ?_))
    ·refine AL.go (AO.pickT rfl rfl rfl (AL.go (AO.assign rfl rfl (AL.nil (AK.seqN (AC.ret ?_))))))
     exact AK.ret (L' := L) (F' := F) Tryz.results104 rfl subA (hT ⟨by omega, by omega, hkt.trans c24⟩)
    ·refine AL.go (AO.pickT rfl rfl rfl (AL.go (AO.assign rfl rfl (AL.nil (AK.seqN (AC.ret ?_))))))
     exact AK.ret (L' := L) (F' := F) Tryz.results104 rfl subA (hF (fun e => c24 (hkt.symm.trans e.2.2)))
   ·refine AL.go (AO.pickT rfl rfl rfl (AL.go (AO.move rfl rfl (AL.no rfl rfl rfl rfl (AL.no rfl rfl rfl rfl (AL.no rfl rfl rfl rfl (AL.no rfl rfl rfl rfl ?_)))))))
    refine AL.no rfl rfl rfl rfl (AL.no rfl rfl rfl rfl (AL.no rfl rfl rfl rfl (AL.no rfl rfl rfl rfl (AL.go (AO.pickF rfl rfl rfl (AL.go (AO.assign rfl rfl ?_)))))))
    refine AL.nil (AK.seqN (AC.ret ?_))
    exact AK.ret (L' := L) (F' := F) Tryz.results104 rfl subA (hF (fun e => absurd e.2.1 (by omega)))
  ·refine AL.go (AO.move rfl rfl (AL.no rfl rfl rfl rfl (AL.no rfl rfl rfl rfl (AL.no rfl rfl rfl rfl (AL.no rfl rfl rfl rfl (AL.no rfl rfl rfl rfl ?_))))))
   refine AL.go (AO.pickF rfl rfl rfl (AL.go (AO.move rfl rfl (AL.no rfl rfl rfl rfl (AL.no rfl rfl rfl rfl (AL.no rfl rfl rfl rfl (AL.no rfl rfl rfl rfl ?_)))))))
   refine AL.no rfl rfl rfl rfl (AL.no rfl rfl rfl rfl (AL.no rfl rfl rfl rfl (AL.no rfl rfl rfl rfl (AL.go (AO.pickF rfl rfl rfl (AL.go (AO.assign rfl rfl ?_)))))))
   refine AL.nil (AK.seqN (AC.ret ?_))
   exact AK.ret (L' := L) (F' := F) Tryz.results104 rfl subA (hF (fun e => absurd e.1 (by omega)))
theorem fewU_c (T : List Ty) (i most : Int) {a : Option Addr} {k c : Nat} (mL : fI (asksL T) a k c ∈ F) (hT : fewA T i most → R (.bool true) L F) (hF : ¬ fewA T i most → R (.bool false) L F) : ACalls Tryz.prog W0 105 #[.slice a k c, .int .i64 i, .int .i64 most] L F R := by
  have hfl := asks_full T
  refine ACalls.body Tryz.func105 rfl Tryz.ntmps105 rfl ?_
  refine AC.seq (AC.region (AL.go (AO.assign rfl rfl (AL.nil (AK.seqN (AC.seq ?_))))))
  refine AC.region (AL.go (AO.move rfl rfl ?_))
  refine AL.go (AO.geq rfl rfl rfl (fun c8 => ?_) (fun c8 => ?_))
  ·refine AL.go (AO.move rfl rfl (AL.yes rfl rfl (AO.move rfl rfl (AL.yes rfl rfl (AO.move rfl rfl ?_)))))
   refine AL.yes rfl rfl (AO.len rfl rfl (fun hl12 => ?_) (enc := eI) (lst := asksL T) (hm := memA))
   refine AL.yes rfl rfl (AO.lss rfl rfl rfl (fun c13 => ?_) (fun c13 => ?_))
   ·refine AL.go (AO.pickT rfl rfl rfl (AL.go (AO.move rfl rfl (AL.yes rfl rfl (AO.move rfl rfl (AL.yes rfl rfl (AO.move rfl rfl ?_)))))))
    have hlt : i.toNat < (asksL T).length := by omega
    have hg : askAt T i.toNat = (asksL T)[i.toNat] := getD_eq 0 hlt
    refine AL.yes rfl rfl (AO.indexAddr (k := i.toNat) rfl rfl rfl (by omega) (enc := eI) (lst := asksL T) memA hlt (fun _ _ => ?_))
    refine AL.yes rfl rfl (AO.loadF rfl rfl ?_)
    intros
    refine AL.yes rfl rfl (AO.move rfl rfl ?_)
    refine AL.yes rfl rfl (AO.leq rfl rfl rfl (fun c21 => ?_) (fun c21 => ?_))
    ·refine AL.go (AO.pickT rfl rfl rfl (AL.go (AO.assign rfl rfl (AL.nil (AK.seqN (AC.ret ?_))))))
     exact AK.ret (L' := L) (F' := F) Tryz.results105 rfl subA (hT ⟨by omega, by omega, by rw [hg]; omega⟩)
    ·refine AL.go (AO.pickT rfl rfl rfl (AL.go (AO.assign rfl rfl (AL.nil (AK.seqN (AC.ret ?_))))))
     exact AK.ret (L' := L) (F' := F) Tryz.results105 rfl subA (hF (fun e => absurd e.2.2 (by rw [hg]; omega)))
   ·refine AL.go (AO.pickT rfl rfl rfl (AL.go (AO.move rfl rfl (AL.no rfl rfl rfl rfl (AL.no rfl rfl rfl rfl (AL.no rfl rfl rfl rfl (AL.no rfl rfl rfl rfl ?_)))))))
    refine AL.no rfl rfl rfl rfl (AL.no rfl rfl rfl rfl (AL.go (AO.pickF rfl rfl rfl (AL.go (AO.assign rfl rfl (AL.nil (AK.seqN ?_)))))))
    refine AC.ret ?_
    exact AK.ret (L' := L) (F' := F) Tryz.results105 rfl subA (hF (fun e => absurd e.2.1 (by omega)))
  ·refine AL.go (AO.move rfl rfl (AL.no rfl rfl rfl rfl (AL.no rfl rfl rfl rfl (AL.no rfl rfl rfl rfl (AL.no rfl rfl rfl rfl (AL.go (AO.pickF rfl rfl rfl ?_)))))))
   refine AL.go (AO.move rfl rfl (AL.no rfl rfl rfl rfl (AL.no rfl rfl rfl rfl (AL.no rfl rfl rfl rfl (AL.no rfl rfl rfl rfl (AL.no rfl rfl rfl rfl ?_))))))
   refine AL.no rfl rfl rfl rfl (AL.go (AO.pickF rfl rfl rfl (AL.go (AO.assign rfl rfl (AL.nil (AK.seqN (AC.ret ?_)))))))
   exact AK.ret (L' := L) (F' := F) Tryz.results105 rfl subA (hF (fun e => absurd e.1 (by omega)))
theorem bounds1_c (T : List Ty) (n : Nmd) (s : Int) {a a2 a3 a4 a5 : Option Addr} {k c k2 c2 k3 c3 k4 c4 k5 c5 b1 b2 b3 i1 i2 i3 : Nat} {e1 e2 e3 : TypeId} (mL : fL T a k c ∈ F) (mA : fI (asksL T) a3 k3 c3 ∈ F) (mB : fBd n a4 k4 c4 ∈ F) (h1 : L[i1]? = some (Res.cells b1 #[.slice a k c, .slice a2 k2 c2] e1)) (h2 : L[i2]? = some (Res.cells b2 #[.slice a3 k3 c3] e2)) (h3 : L[i3]? = some (Res.cells b3 #[S n.name, .slice a4 k4 c4, .int .i64 n.under, .slice a5 k5 c5] e3))
    (hT : ¬ (isK T s 7 ∧ fewA T s n.bounds.length) → R (.bool true) L F) (hF : ¬ ¬ (isK T s 7 ∧ fewA T s n.bounds.length) → R (.bool false) L F) : ACalls Tryz.prog W0 103 #[.int .i64 s, .pointer (some ⟨b1, 0, none⟩), .pointer (some ⟨b2, 0, none⟩), .pointer (some ⟨b3, 0, none⟩)] L F R := by
  refine ACalls.body Tryz.func103 rfl Tryz.ntmps103 rfl ?_
  refine AC.seq (AC.region (AL.go (AO.assign rfl rfl (AL.nil (AK.seqN (AC.seq ?_))))))
  refine AC.region ?_
  refine AL.go (AO.loadBA (cs := [.slice a k c, .slice a2 k2 c2]) rfl rfl ?_ (hi := h1))
  refine AL.go (AO.move rfl rfl ?_)
  refine AL.go (AO.call rfl rfl (is_c T s 7 mL (fun c8 => ?_) (fun c8 => ?_)))
  ·refine AL.go (AO.not rfl rfl (AL.go (AO.move rfl rfl ?_)))
   refine AL.yes rfl rfl (AO.loadB (cs := [.slice a3 k3 c3]) rfl rfl ?_ (hi := h2) (hv := rfl))
   refine AL.yes rfl rfl (AO.move rfl rfl (AL.yes rfl rfl (AO.field rfl rfl ?_)))
   refine AL.yes rfl rfl (AO.loadB (cs := [S n.name, .slice a4 k4 c4, .int .i64 n.under, .slice a5 k5 c5]) rfl rfl ?_ (hi := h3) (hv := rfl))
   refine AL.yes rfl rfl (AO.len rfl rfl (fun hl15 => ?_) (enc := eI) (lst := n.bounds) (hm := mB))
   refine AL.yes rfl rfl (AO.call rfl rfl (fewU_c T s n.bounds.length mA (fun c16 => ?_) (fun c16 => ?_)))
   ·refine AL.yes rfl rfl (AO.not rfl rfl (AL.go (AO.pickF rfl rfl rfl (AL.go (AO.assign rfl rfl (AL.nil (AK.seqN (AC.ret ?_))))))))
    exact AK.ret (L' := L) (F' := F) Tryz.results103 rfl subF (hF (fun e => e ⟨c8, c16⟩))
   ·refine AL.yes rfl rfl (AO.not rfl rfl (AL.go (AO.pickF rfl rfl rfl (AL.go (AO.assign rfl rfl (AL.nil (AK.seqN (AC.ret ?_))))))))
    exact AK.ret (L' := L) (F' := F) Tryz.results103 rfl subF (hT (fun e => c16 e.2))
  ·refine AL.go (AO.not rfl rfl (AL.go (AO.move rfl rfl (AL.no rfl rfl rfl rfl (AL.no rfl rfl rfl rfl (AL.no rfl rfl rfl rfl (AL.no rfl rfl rfl rfl ?_)))))))
   refine AL.no rfl rfl rfl rfl (AL.no rfl rfl rfl rfl (AL.no rfl rfl rfl rfl (AL.go (AO.pickT rfl rfl rfl (AL.go (AO.assign rfl rfl (AL.nil ?_)))))))
   refine AK.seqN (AC.ret ?_)
   exact AK.ret (L' := L) (F' := F) Tryz.results103 rfl subF (hT (fun e => c8 e.1))
theorem bounds_c (T : List Ty) (n : Nmd) {a a2 a3 a4 a5 : Option Addr} {k c k2 c2 k3 c3 k4 c4 k5 c5 : Nat} (mL : fL T a k c ∈ F) (mA : fI (asksL T) a3 k3 c3 ∈ F) (mB : fBd n a4 k4 c4 ∈ F)
    (hT : boundsP T n → R (.bool true) L F) (hF : ¬ boundsP T n → R (.bool false) L F) : ACalls Tryz.prog W0 44 #[.agg #[.slice a k c, .slice a2 k2 c2], .slice a3 k3 c3, vNm n a4 k4 c4 a5 k5 c5] L F R := by
  refine ACalls.body Tryz.func44 rfl Tryz.ntmps44 rfl ?_
  refine AC.seq (AC.region (AL.go (AO.box rfl rfl (fun b3 => ?_))))
  refine AL.go (AO.box rfl rfl (fun b4 => ?_))
  refine AL.go (AO.box rfl rfl (fun b5 => ?_))
  refine AL.go (AO.assign rfl rfl (AL.nil (AK.seqN (AC.seq (AC.region ?_)))))
  refine AL.go (AO.makeFunc rfl rfl ?_)
  refine AL.go (AO.assign rfl rfl (AL.nil (AK.seqN (AC.seq (AC.region (AL.go (AO.field rfl rfl ?_)))))))
  refine AL.go (AO.loadB rfl rfl ?_)
  refine AL.go (AO.len rfl rfl (fun hl11 => ?_) (enc := eI) (lst := n.bounds) (hm := mB))
  refine AL.go (AO.leq rfl rfl rfl (fun c12 => ?_) (fun c12 => ?_))
  ·refine AL.go (AO.move rfl rfl (AL.yes rfl rfl (AO.field rfl rfl ?_)))
   refine AL.yes rfl rfl (AO.loadB rfl rfl ?_)
   refine AL.yes rfl rfl (AO.move rfl rfl ?_)
   refine AL.yes rfl rfl (AO.call rfl rfl (containsFuncI_c n.bounds mB _ [.pointer (some ⟨b3, 0, none⟩), .pointer (some ⟨b4, 0, none⟩), .pointer (some ⟨b5, 0, none⟩)] (fun s => ¬ (isK T s 7 ∧ fewA T s n.bounds.length)) (fun s F' hF' R hT hF => bounds1_c T n s (i1 := 2) (i2 := 1) (i3 := 0) (hF' _ mL) (hF' _ mA) (hF' _ mB) rfl rfl rfl hT hF) (fun c17 => ?_) (fun c17 => ?_)))
   ·refine AL.yes rfl rfl (AO.not rfl rfl (AL.go (AO.pickT rfl rfl rfl (AL.go (AO.assign rfl rfl (AL.nil (AK.seqN (AC.ret ?_))))))))
    exact AK.ret (L' := L) (F' := F) Tryz.results44 rfl subA (hF (fun e => c17 (fun j hj hn => hn (e.2 _ (List.getElem_mem hj)))))
   ·refine AL.yes rfl rfl (AO.not rfl rfl (AL.go (AO.pickT rfl rfl rfl (AL.go (AO.assign rfl rfl (AL.nil (AK.seqN (AC.ret ?_))))))))
    refine AK.ret (L' := L) (F' := F) Tryz.results44 rfl subA (hT ⟨by omega, fun b hb => ?_⟩)
    obtain ⟨j, hj, rfl⟩ := List.getElem_of_mem hb
    exact Classical.byContradiction (c17 j hj)
  ·refine AL.go (AO.move rfl rfl (AL.no rfl rfl rfl rfl (AL.no rfl rfl rfl rfl (AL.no rfl rfl rfl rfl (AL.no rfl rfl rfl rfl (AL.no rfl rfl rfl rfl ?_))))))
   refine AL.go (AO.pickF rfl rfl rfl (AL.go (AO.assign rfl rfl (AL.nil (AK.seqN (AC.ret ?_))))))
   exact AK.ret (L' := L) (F' := F) Tryz.results44 rfl subA (hF (fun e => absurd e.1 (by omega)))
theorem under_c (T : List Ty) (n : Nmd) {a a2 a3 a4 a5 : Option Addr} {k c k2 c2 k3 c3 k4 c4 k5 c5 : Nat} (mL : fL T a k c ∈ F) (mA : fI (asksL T) a3 k3 c3 ∈ F) (mB : fBd n a4 k4 c4 ∈ F)
    (hT : underP T n → R (.bool true) L F) (hF : ¬ underP T n → R (.bool false) L F) : ACalls Tryz.prog W0 45 #[.agg #[.slice a k c, .slice a2 k2 c2], .slice a3 k3 c3, vNm n a4 k4 c4 a5 k5 c5] L F R := by
  refine ACalls.body Tryz.func45 rfl Tryz.ntmps45 rfl ?_
  refine AC.seq (AC.region (AL.go (AO.box rfl rfl (fun b3 => ?_))))
  refine AL.go (AO.box rfl rfl (fun b5 => ?_))
  refine AL.go (AO.assign rfl rfl (AL.nil (AK.seqN (AC.seq (AC.region (AL.go (AO.field rfl rfl ?_)))))))
  refine AL.go (AO.loadB rfl rfl ?_)
  refine AL.go (AO.geq rfl rfl rfl (fun c10 => ?_) (fun c10 => ?_))
  ·refine AL.go (AO.move rfl rfl (AL.yes rfl rfl (AO.field rfl rfl ?_)))
   refine AL.yes rfl rfl (AO.loadB rfl rfl ?_)
   refine AL.yes rfl rfl (AO.leq rfl rfl rfl (fun c14 => ?_) (fun c14 => ?_))
   ·refine AL.go (AO.pickT rfl rfl rfl (AL.go (AO.assign rfl rfl (AL.nil (AK.seqN (AC.seq (AC.region ?_)))))))
    refine AL.go (AO.move rfl rfl (AL.go (AO.field rfl rfl ?_)))
    refine AL.go (AO.loadB rfl rfl ?_)
    refine AL.go (AO.field rfl rfl ?_)
    refine AL.go (AO.loadB rfl rfl ?_)
    refine AL.go (AO.len rfl rfl (fun hl21 => ?_) (enc := eI) (lst := n.bounds) (hm := mB))
    refine AL.go (AO.call rfl rfl (fewU_c T n.under n.bounds.length mA (fun c22 => ?_) (fun c22 => ?_)))
    ·refine AL.go (AO.move rfl rfl ?_)
     refine AL.yes rfl rfl (AO.loadBA rfl rfl ?_)
     refine AL.yes rfl rfl (AO.field rfl rfl ?_)
     refine AL.yes rfl rfl (AO.loadB rfl rfl ?_)
     refine AL.yes rfl rfl (AO.call rfl rfl (is_c T n.under 8 mL (fun c27 => ?_) (fun c27 => ?_)))
     ·refine AL.yes rfl rfl (AO.not rfl rfl (AL.go (AO.pickT rfl rfl rfl (AL.go (AO.move rfl rfl (AL.no rfl rfl rfl rfl (AL.no rfl rfl rfl rfl (AL.no rfl rfl rfl rfl ?_))))))))
      refine AL.no rfl rfl rfl rfl (AL.no rfl rfl rfl rfl (AL.go (AO.pickF rfl rfl rfl (AL.go (AO.move rfl rfl (AL.no rfl rfl rfl rfl (AL.no rfl rfl rfl rfl ?_)))))))
      refine AL.go (AO.pickF rfl rfl rfl (AL.go (AO.assign rfl rfl (AL.nil (AK.seqN (AC.ret ?_))))))
      exact AK.ret (L' := L) (F' := F) Tryz.results45 rfl subA (hF (fun e => e.2.1 c27))
     ·refine AL.yes rfl rfl (AO.not rfl rfl (AL.go (AO.pickT rfl rfl rfl (AL.go (AO.move rfl rfl ?_)))))
      refine AL.yes rfl rfl (AO.loadBA rfl rfl ?_)
      refine AL.yes rfl rfl (AO.field rfl rfl ?_)
      refine AL.yes rfl rfl (AO.loadB rfl rfl ?_)
      refine AL.yes rfl rfl (AO.call rfl rfl (is_c T n.under 9 mL (fun c34 => ?_) (fun c34 => ?_)))
      ·refine AL.yes rfl rfl (AO.not rfl rfl (AL.go (AO.pickT rfl rfl rfl (AL.go (AO.move rfl rfl (AL.no rfl rfl rfl rfl (AL.no rfl rfl rfl rfl (AL.go (AO.pickF rfl rfl rfl ?_)))))))))
       refine AL.go (AO.assign rfl rfl (AL.nil (AK.seqN (AC.ret ?_))))
       exact AK.ret (L' := L) (F' := F) Tryz.results45 rfl subA (hF (fun e => e.2.2.1 c34))
      ·refine AL.yes rfl rfl (AO.not rfl rfl (AL.go (AO.pickT rfl rfl rfl (AL.go (AO.move rfl rfl (AL.yes rfl rfl (AO.move rfl rfl (AL.yes rfl rfl (AO.not rfl rfl (AL.go (AO.pickT rfl rfl rfl ?_)))))))))))
       refine AL.go (AO.assign rfl rfl (AL.nil (AK.seqN (AC.ret ?_))))
       exact AK.ret (L' := L) (F' := F) Tryz.results45 rfl subA (hF (fun e => e.2.2.2 ⟨by omega, by omega⟩))
    ·refine AL.go (AO.move rfl rfl (AL.no rfl rfl rfl rfl (AL.no rfl rfl rfl rfl (AL.no rfl rfl rfl rfl (AL.no rfl rfl rfl rfl (AL.no rfl rfl rfl rfl ?_))))))
     refine AL.go (AO.pickF rfl rfl rfl (AL.go (AO.move rfl rfl (AL.no rfl rfl rfl rfl (AL.no rfl rfl rfl rfl (AL.no rfl rfl rfl rfl (AL.no rfl rfl rfl rfl ?_)))))))
     refine AL.no rfl rfl rfl rfl (AL.go (AO.pickF rfl rfl rfl (AL.go (AO.move rfl rfl (AL.no rfl rfl rfl rfl (AL.no rfl rfl rfl rfl (AL.go (AO.pickF rfl rfl rfl ?_))))))))
     refine AL.go (AO.assign rfl rfl (AL.nil (AK.seqN (AC.ret ?_))))
     exact AK.ret (L' := L) (F' := F) Tryz.results45 rfl subA (hF (fun e => c22 e.1))
   ·refine AL.go (AO.pickT rfl rfl rfl (AL.go (AO.assign rfl rfl (AL.nil (AK.seqN (AC.seq (AC.region ?_)))))))
    refine AL.go (AO.move rfl rfl (AL.go (AO.field rfl rfl ?_)))
    refine AL.go (AO.loadB rfl rfl ?_)
    refine AL.go (AO.field rfl rfl ?_)
    refine AL.go (AO.loadB rfl rfl ?_)
    refine AL.go (AO.len rfl rfl (fun hl21 => ?_) (enc := eI) (lst := n.bounds) (hm := mB))
    refine AL.go (AO.call rfl rfl (fewU_c T n.under n.bounds.length mA (fun c22 => ?_) (fun c22 => ?_)))
    ·refine AL.go (AO.move rfl rfl ?_)
     refine AL.yes rfl rfl (AO.loadBA rfl rfl ?_)
     refine AL.yes rfl rfl (AO.field rfl rfl ?_)
     refine AL.yes rfl rfl (AO.loadB rfl rfl ?_)
     refine AL.yes rfl rfl (AO.call rfl rfl (is_c T n.under 8 mL (fun c27 => ?_) (fun c27 => ?_)))
     ·refine AL.yes rfl rfl (AO.not rfl rfl (AL.go (AO.pickT rfl rfl rfl (AL.go (AO.move rfl rfl (AL.no rfl rfl rfl rfl (AL.no rfl rfl rfl rfl (AL.no rfl rfl rfl rfl ?_))))))))
      refine AL.no rfl rfl rfl rfl (AL.no rfl rfl rfl rfl (AL.go (AO.pickF rfl rfl rfl (AL.go (AO.move rfl rfl (AL.no rfl rfl rfl rfl (AL.no rfl rfl rfl rfl ?_)))))))
      refine AL.go (AO.pickF rfl rfl rfl (AL.go (AO.assign rfl rfl (AL.nil (AK.seqN (AC.ret ?_))))))
      exact AK.ret (L' := L) (F' := F) Tryz.results45 rfl subA (hF (fun e => e.2.1 c27))
     ·refine AL.yes rfl rfl (AO.not rfl rfl (AL.go (AO.pickT rfl rfl rfl (AL.go (AO.move rfl rfl ?_)))))
      refine AL.yes rfl rfl (AO.loadBA rfl rfl ?_)
      refine AL.yes rfl rfl (AO.field rfl rfl ?_)
      refine AL.yes rfl rfl (AO.loadB rfl rfl ?_)
      refine AL.yes rfl rfl (AO.call rfl rfl (is_c T n.under 9 mL (fun c34 => ?_) (fun c34 => ?_)))
      ·refine AL.yes rfl rfl (AO.not rfl rfl (AL.go (AO.pickT rfl rfl rfl (AL.go (AO.move rfl rfl (AL.no rfl rfl rfl rfl (AL.no rfl rfl rfl rfl (AL.go (AO.pickF rfl rfl rfl ?_)))))))))
       refine AL.go (AO.assign rfl rfl (AL.nil (AK.seqN (AC.ret ?_))))
       exact AK.ret (L' := L) (F' := F) Tryz.results45 rfl subA (hF (fun e => e.2.2.1 c34))
      ·refine AL.yes rfl rfl (AO.not rfl rfl (AL.go (AO.pickT rfl rfl rfl (AL.go (AO.move rfl rfl (AL.yes rfl rfl (AO.move rfl rfl (AL.yes rfl rfl (AO.not rfl rfl (AL.go (AO.pickT rfl rfl rfl ?_)))))))))))
       refine AL.go (AO.assign rfl rfl (AL.nil (AK.seqN (AC.ret ?_))))
       exact AK.ret (L' := L) (F' := F) Tryz.results45 rfl subA (hT ⟨c22, c27, c34, by omega⟩)
    ·refine AL.go (AO.move rfl rfl (AL.no rfl rfl rfl rfl (AL.no rfl rfl rfl rfl (AL.no rfl rfl rfl rfl (AL.no rfl rfl rfl rfl (AL.no rfl rfl rfl rfl ?_))))))
     refine AL.go (AO.pickF rfl rfl rfl (AL.go (AO.move rfl rfl (AL.no rfl rfl rfl rfl (AL.no rfl rfl rfl rfl (AL.no rfl rfl rfl rfl (AL.no rfl rfl rfl rfl ?_)))))))
     refine AL.no rfl rfl rfl rfl (AL.go (AO.pickF rfl rfl rfl (AL.go (AO.move rfl rfl (AL.no rfl rfl rfl rfl (AL.no rfl rfl rfl rfl (AL.go (AO.pickF rfl rfl rfl ?_))))))))
     refine AL.go (AO.assign rfl rfl (AL.nil (AK.seqN (AC.ret ?_))))
     exact AK.ret (L' := L) (F' := F) Tryz.results45 rfl subA (hF (fun e => c22 e.1))
  ·refine AL.go (AO.move rfl rfl (AL.no rfl rfl rfl rfl (AL.no rfl rfl rfl rfl (AL.no rfl rfl rfl rfl (AL.go (AO.pickF rfl rfl rfl (AL.go (AO.assign rfl rfl ?_))))))))
   refine AL.nil (AK.seqN (AC.seq (AC.region (AL.go (AO.move rfl rfl (AL.go (AO.field rfl rfl ?_)))))))
   refine AL.go (AO.loadB rfl rfl ?_)
   refine AL.go (AO.field rfl rfl ?_)
   refine AL.go (AO.loadB rfl rfl ?_)
   refine AL.go (AO.len rfl rfl (fun hl21 => ?_) (enc := eI) (lst := n.bounds) (hm := mB))
   refine AL.go (AO.call rfl rfl (fewU_c T n.under n.bounds.length mA (fun c22 => ?_) (fun c22 => ?_)))
   ·refine AL.go (AO.move rfl rfl ?_)
    refine AL.yes rfl rfl (AO.loadBA rfl rfl ?_)
    refine AL.yes rfl rfl (AO.field rfl rfl ?_)
    refine AL.yes rfl rfl (AO.loadB rfl rfl ?_)
    refine AL.yes rfl rfl (AO.call rfl rfl (is_c T n.under 8 mL (fun c27 => ?_) (fun c27 => ?_)))
    ·refine AL.yes rfl rfl (AO.not rfl rfl (AL.go (AO.pickT rfl rfl rfl (AL.go (AO.move rfl rfl (AL.no rfl rfl rfl rfl (AL.no rfl rfl rfl rfl (AL.no rfl rfl rfl rfl ?_))))))))
     refine AL.no rfl rfl rfl rfl (AL.no rfl rfl rfl rfl (AL.go (AO.pickF rfl rfl rfl (AL.go (AO.move rfl rfl (AL.no rfl rfl rfl rfl (AL.no rfl rfl rfl rfl ?_)))))))
     refine AL.go (AO.pickF rfl rfl rfl (AL.go (AO.assign rfl rfl (AL.nil (AK.seqN (AC.ret ?_))))))
     exact AK.ret (L' := L) (F' := F) Tryz.results45 rfl subA (hF (fun e => e.2.1 c27))
    ·refine AL.yes rfl rfl (AO.not rfl rfl (AL.go (AO.pickT rfl rfl rfl (AL.go (AO.move rfl rfl ?_)))))
     refine AL.yes rfl rfl (AO.loadBA rfl rfl ?_)
     refine AL.yes rfl rfl (AO.field rfl rfl ?_)
     refine AL.yes rfl rfl (AO.loadB rfl rfl ?_)
     refine AL.yes rfl rfl (AO.call rfl rfl (is_c T n.under 9 mL (fun c34 => ?_) (fun c34 => ?_)))
     ·refine AL.yes rfl rfl (AO.not rfl rfl (AL.go (AO.pickT rfl rfl rfl (AL.go (AO.move rfl rfl (AL.no rfl rfl rfl rfl (AL.no rfl rfl rfl rfl (AL.go (AO.pickF rfl rfl rfl ?_)))))))))
      refine AL.go (AO.assign rfl rfl (AL.nil (AK.seqN (AC.ret ?_))))
      exact AK.ret (L' := L) (F' := F) Tryz.results45 rfl subA (hF (fun e => e.2.2.1 c34))
     ·refine AL.yes rfl rfl (AO.not rfl rfl (AL.go (AO.pickT rfl rfl rfl (AL.go (AO.move rfl rfl (AL.yes rfl rfl (AO.move rfl rfl (AL.yes rfl rfl (AO.not rfl rfl (AL.go (AO.pickT rfl rfl rfl ?_)))))))))))
      refine AL.go (AO.assign rfl rfl (AL.nil (AK.seqN (AC.ret ?_))))
      exact AK.ret (L' := L) (F' := F) Tryz.results45 rfl subA (hT ⟨c22, c27, c34, by omega⟩)
   ·refine AL.go (AO.move rfl rfl (AL.no rfl rfl rfl rfl (AL.no rfl rfl rfl rfl (AL.no rfl rfl rfl rfl (AL.no rfl rfl rfl rfl (AL.no rfl rfl rfl rfl ?_))))))
    refine AL.go (AO.pickF rfl rfl rfl (AL.go (AO.move rfl rfl (AL.no rfl rfl rfl rfl (AL.no rfl rfl rfl rfl (AL.no rfl rfl rfl rfl (AL.no rfl rfl rfl rfl ?_)))))))
    refine AL.no rfl rfl rfl rfl (AL.go (AO.pickF rfl rfl rfl (AL.go (AO.move rfl rfl (AL.no rfl rfl rfl rfl (AL.no rfl rfl rfl rfl (AL.go (AO.pickF rfl rfl rfl ?_))))))))
    refine AL.go (AO.assign rfl rfl (AL.nil (AK.seqN (AC.ret ?_))))
    exact AK.ret (L' := L) (F' := F) Tryz.results45 rfl subA (hF (fun e => c22 e.1))
end
end Go.Sy
