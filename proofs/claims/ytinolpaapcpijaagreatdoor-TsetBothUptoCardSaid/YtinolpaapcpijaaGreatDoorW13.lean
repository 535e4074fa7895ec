/- Joined of my own texts: FwG, FwT, FwJ, FwZ, FwO. -/
import Derived.Test.YtinolpaapcpijaaGreatDoorW12
import Derived.RangeFuncLeaves
import Derived.RangeFuncRecord
namespace Go.Sy
open Go Go.RowKit
def recL (fn : FuncId) (tmps : Array Value) (ps : List Tmp) (assign body : Code) (D : Nat) (st : LoopState) (pe : Option Code) : Obj := .loop { state := st, pending := pe, fn, tmps, params := ps.toArray, assign, body, defers := D }
def dfr : Obj := .deferred (some [])
def mark (D : Nat) : Deferred := { target := .collected D, args := #[] }
def binds : List Tmp → List Value → Rho → Rho
  | p :: ps, v :: vs, ρ => binds ps vs ((p, v) :: ρ)
  | _, _, ρ => ρ
section
variable {P : Program} {W0 : World} {n : Nat} {Q : Po} {ρ : Rho} {L : List Res} {F : List Fact} {K : Act → World → Prop} {ro : Option Nat} {ds : List Deferred} {R : Value → List Res → List Fact → Prop}
theorem Sat.put {w : World} (s : Sat W0 L F w) {i b : Nat} {O : Obj} (O' : Obj) (hi : L[i]? = some (Res.obj b O)) : w.heap[b]? = some O ∧ Sat W0 (L.set i (Res.obj b O')) F (w.putObj b O') := by
  obtain ⟨hbel, h0, mm, sx⟩ := s
  have hl := HD hi
  have hp : mm i = one b O := sx.res i _ hi
  have hb : w.heap[b]? = some O := (sx.own i b O hl (by rw [hp, Hb])).2.1
  have st : Step w (w.putObj b O') (mm i) := ⟨rfl, rfl, rfl, by simp, fun k hk hmk => by
    have hne : k ≠ b := fun e => by subst e; rw [hp, Hb] at hmk; simp at hmk
    exact World.putObj_heap_other hne⟩
  refine ⟨hb, Ho hbel st (fun b' O hm => (sx.own i b' O hl hm).1), h0, _, sx.upd hbel.size hl st (Res.obj b O') (one b O') HU ?_⟩
  intro b' O1 hmo
  obtain ⟨rfl, rfl⟩ := one_some hmo
  exact ⟨.inl (by rw [hp, Hb]; simp), World.putObj_heap_same (block_lt hb)⟩
theorem Sat.allocO {w : World} (s : Sat W0 L F w) (O : Obj) : Sat W0 (Res.obj w.heap.size O :: L) F (w.alloc O) := by
  obtain ⟨hbel, h0, mm, sx⟩ := s
  have st : Step w (w.alloc O) (fun _ => none) := ⟨rfl, rfl, rfl, by simp, fun k hk _ => Below.heap_alloc w O k hk⟩
  refine ⟨Ho hbel st (fun b O h => by cases h), h0, _, sx.add hbel.size st (Res.obj w.heap.size O) (one w.heap.size O) HU ?_⟩
  intro b' O1 hmo
  obtain ⟨rfl, rfl⟩ := one_some hmo
  exact ⟨Nat.le_refl _, World.alloc_heap_new w _⟩
def AYields (P : Program) (W0 : World) (l : Nat) (args : Array Value) (L : List Res) (F : List Fact) (R : Value → List Res → List Fact → Prop) : Prop :=
  ∀ w, Sat W0 L F w → ∃ fn tmps assign body, (Instr.yield l args).run P w = .ok (.round l fn tmps assign body) w ∧ RoundIn Fence.wide 0 P l fn tmps assign body w (Post R W0)
theorem AYields.mono {l : Nat} {args : Array Value} {R' : Value → List Res → List Fact → Prop} (h : AYields P W0 l args L F R) (hr : ∀ v L F, R v L F → R' v L F) : AYields P W0 l args L F R' := fun w s => by
  obtain ⟨fn, tmps, assign, body, h1, h2⟩ := h w s
  exact ⟨fn, tmps, assign, body, h1, RoundIn.mono h2 fun _ _ ⟨v, L', F', e, r, s'⟩ => ⟨v, L', F', e, hr _ _ _ r, s'⟩⟩
theorem AYields.weak {l : Nat} {args : Array Value} {L' : List Res} {F' : List Fact} (hs : Sub L F L' F') (h : AYields P W0 l args L' F' R) : AYields P W0 l args L F R := fun w s => h w (hs _ _ s)
theorem AO.yield {d : Tmp} {ty : TypeId} {pos : String} {af : Array Edge} {g : Option (Nat × Bool)} {x : Operand} {al : List Operand} {vs : List Value} {ts : Array TypeId} {l : Nat} (hx : ev ρ x = some (.func (.yield l) #[] #[])) (ha : evL ρ al = some vs) (hd : Nat.blt d n = true)
    (h : AYields P W0 l vs.toArray L F fun v L' F' => AT W0 n K ((d, v) :: ρ) L' F') : AO P W0 n K ⟨some d, .call ⟨.value x, al.toArray, ts⟩, ty, pos, af, g⟩ Q ρ L F := by
  intro a w s
  obtain ⟨fn, tmps, assign, body, h1, h2⟩ := h w s.sat
  have hr : (execOp a.eval ⟨some d, .call ⟨.value x, al.toArray, ts⟩, ty, pos, af, g⟩).run P w = .ok (.round l fn tmps assign body) w := by
    have := evL_eval s.slots ha
    simp only [execOp, resolve, this, GD s.slots hx]
    simp [Deferred.ofValue, invoke, h1]
  refine ⟨Hy hr (fun _ e => by cases e), ?_⟩
  simp only [hr, owR]
  refine RoundIn.mono h2 fun e w' ⟨v, L', F', he, hk, hs⟩ => ⟨v, he, ?_⟩
  exact hk _ _ ⟨s.slots.put (Nat.le_of_ble_eq_true hd) _, hs⟩
def Begin (P : Program) (l : Nat) (body : Code) (R : Value → List Res → List Fact → Prop) (W0 : World) : Act → World → Prop :=
  fun a₁ w₁ => ∃ w₂, (Instr.beginRound l).run P w₁ = .ok () w₂ ∧ body.wpIn (Wd (some l)) 0 P (roundPost P l (Post R W0)) a₁ w₂
theorem binds_slots : ∀ (ps : List Tmp) (vs : List Value) (ρ : Rho) (t : Array Value), Slots n ρ ⟨t, []⟩ → (ps.all fun p => Nat.blt p n) = true →
    Slots n (binds ps vs ρ) ⟨(ps.zip vs).foldl (fun t (p, v) => t.setIfInBounds p v) t, []⟩
  | [], vs, ρ, t, h, _ => by simpa [binds] using h
  | p :: ps, [], ρ, t, h, _ => by simpa [binds] using h
  | p :: ps, v :: vs, ρ, t, h, hp => by
    simp only [List.all_cons, Bool.and_eq_true] at hp
    exact binds_slots ps vs ((p, v) :: ρ) (t.setIfInBounds p v) (h.put (Nat.le_of_ble_eq_true hp.1) v) hp.2
theorem AYields.round {l D i : Nat} {fn : FuncId} {tmps : Array Value} {ps : List Tmp} {assign body : Code} {args : List Value} (hi : L[i]? = some (Res.obj l (recL fn tmps ps assign body D .ready none))) (hlen : args.length = ps.length)
    (hs : Slots n ρ ⟨tmps, []⟩) (hp : (ps.all fun p => Nat.blt p n) = true)
    (h : AC (some l) [] P W0 n assign (Exit.then (Begin P l body R W0) NoQ) (binds ps args ρ) L F) : AYields P W0 l args.toArray L F R := by
  intro w s
  have hb := (s.put (O' := dfr) hi).1
  refine ⟨_, _, _, _, run_yield hb (by simp [hlen]), roundIn_of_wpIn (F := Fence.wide) (n := 0) trivial ?_⟩
  have := h _ w ⟨binds_slots ps args ρ tmps hs hp, s⟩
  have e : ((ps.zip args).foldl (fun t (p, v) => t.setIfInBounds p v) tmps) = (ps.toArray.zip args.toArray).foldl (fun t (p, v) => t.setIfInBounds p v) tmps := by simp
  rw [e] at this
  exact wpIn_mono this fun e a w q => by cases e <;> exact q
theorem AK.begin {l D i : Nat} {fn : FuncId} {tmps : Array Value} {ps : List Tmp} {assign body body' : Code} (hi : L[i]? = some (Res.obj l (recL fn tmps ps assign body' D .ready none)))
    (h : AC (some l) [] P W0 n body (roundPost P l (Post R W0)) ρ (L.set i (Res.obj l (recL fn tmps ps assign body' D .busy none))) F) : AK [] W0 n (Exit.then (Begin P l body R W0) NoQ) .normal ρ L F := by
  intro a w s
  obtain ⟨hb, s'⟩ := s.sat.put (O' := recL fn tmps ps assign body' D .busy none) hi
  exact ⟨_, run_beginRound hb rfl, h a _ ⟨s.slots, s'⟩⟩
theorem AK.roundN {l D i : Nat} {fn : FuncId} {tmps : Array Value} {ps : List Tmp} {assign body : Code} {st : LoopState} {pe : Option Code} {L' : List Res} {F' : List Fact} (hs : Sub L F L' F') (hi : L'[i]? = some (Res.obj l (recL fn tmps ps assign body D st pe)))
    (h : R (.bool true) (L'.set i (Res.obj l (recL fn tmps ps assign body D .ready none))) F') : AK [] W0 n (roundPost P l (Post R W0)) .normal ρ L F := by
  intro a w s
  obtain ⟨hb, s'⟩ := (hs _ _ s.sat).put (O' := recL fn tmps ps assign body D .ready none) hi
  exact ⟨_, _, run_endRound none hb, _, _, _, rfl, h, s'⟩
theorem AK.roundX {l D i id : Nat} {fn : FuncId} {tmps : Array Value} {ps : List Tmp} {assign body : Code} {st : LoopState} {pe : Option Code} {L' : List Res} {F' : List Fact} (hs : Sub L F L' F') (hi : L'[i]? = some (Res.obj l (recL fn tmps ps assign body D st pe)))
    (h : R (.bool false) (L'.set i (Res.obj l (recL fn tmps ps assign body D .done (some (.exit id))))) F') : AK [] W0 n (roundPost P l (Post R W0)) (.exit id) ρ L F := by
  intro a w s
  obtain ⟨hb, s'⟩ := (hs _ _ s.sat).put (O' := recL fn tmps ps assign body D .done (some (.exit id))) hi
  exact ⟨_, _, run_endRound (some (.exit id)) hb, _, _, _, rfl, h, s'⟩
def RangeK (P : Program) (W0 : World) (n : Nat) (Q : Po) (ds : List Deferred) (ρ : Rho) (fn : FuncId) (tmps : Array Value) (ps : List Tmp) (assign body : Code) (l D : Nat) (L : List Res) (F : List Fact) : Prop :=
  (∃ i, L[i]? = some (Res.obj l (recL fn tmps ps assign body D .ready none)) ∧ AK (mark D :: ds) W0 n Q .normal ρ (L.set i Res.nix) F) ∨
  (∃ i c, L[i]? = some (Res.obj l (recL fn tmps ps assign body D .done (some c))) ∧ AC none (mark D :: ds) P W0 n c Q ρ (L.set i Res.nix) F)
theorem AC.rangeFunc {g : Operand} {ps : List Tmp} {assign body : Code} {gf : Nat} {lb : List Value} (hg : ev ρ g = some (.func (.func gf) #[] lb.toArray)) [hf : FnT P gf]
    (h : ∀ fn tmps l D, Slots n ρ ⟨tmps, []⟩ → ACalls P W0 gf (.func (.yield l) #[] #[] :: lb).toArray (Res.obj l (recL fn tmps ps assign body D .ready none) :: Res.obj D dfr :: L) F fun _ L' F' => RangeK P W0 n Q ds ρ fn tmps ps assign body l D L' F') :
    AC none ds P W0 n (.rangeFunc g ps.toArray assign body) Q ρ L F := by
  intro a w s
  refine wpIn_rangeFunc fun fn _ => ?_
  have hs0 : Slots n ρ ⟨a.tmps, []⟩ := by obtain ⟨h1, _, h3⟩ := s.slots; exact ⟨h1, rfl, h3⟩
  have s1 := (s.sat.allocO dfr).allocO (recL fn a.tmps ps assign body w.heap.size .ready none)
  rw [World.size_alloc] at s1
  obtain ⟨W1, hW1⟩ : ∃ W1, (w.alloc dfr).alloc (recL fn a.tmps ps assign body w.heap.size .ready none) = W1 := ⟨_, rfl⟩
  rw [hW1] at s1
  have hge : (wd ds a).eval g = .func (.func gf) #[] lb.toArray := GD s.slots hg
  refine ⟨w.heap.size + 1, [mark w.heap.size], W1, { target := .fn (.func gf) lb.toArray, args := #[.func (.yield (w.heap.size + 1)) #[] #[]] }, W1, gf, #[.func (.yield (w.heap.size + 1)) #[] #[]] ++ lb.toArray, W1, hW1 ▸ run_enterLoop_outer _ _ _ _ _, ?_, fun _ _ => trivial, ?_, (fun e => by cases e), ?_⟩
  · simp only [resolve, hge]
    simp [go_sem]
  · simp [invoke, go_sem, hf.call]
  refine callsW.2 ?_
  have e : (#[.func (.yield (w.heap.size + 1)) #[] #[]] ++ lb.toArray : Array Value) = (.func (.yield (w.heap.size + 1)) #[] #[] :: lb).toArray := by simp
  rw [e]
  refine Calls.mono (h fn a.tmps (w.heap.size + 1) w.heap.size hs0 _ s1) fun e w' he => ?_
  obtain ⟨v, L', F', rfl, hk, s'⟩ := he
  have hd : ∀ (i : Nat) (O O' : Obj), L'[i]? = some (Res.obj (w.heap.size + 1) O) → Sat W0 (L'.set i Res.nix) F' (w'.putObj (w.heap.size + 1) O') := fun i O O' hi => by
    have s2 := (s'.put (O' := O') hi).2
    have := Sub.dropAt (j := i) (r := Res.obj (w.heap.size + 1) O') (L := L'.set i (Res.obj (w.heap.size + 1) O')) (F := F') (List.getElem?_set_self (HD hi)) _ _ s2
    rwa [List.set_set] at this
  rcases hk with ⟨i, hi, hq⟩ | ⟨i, c, hi, hq⟩
  · refine ⟨none, _, run_endLoop (s'.put (O' := dfr) hi).1 (by simp), ?_⟩
    exact hq a _ ⟨s.slots, hd i _ _ hi⟩
  refine ⟨some c, _, run_endLoop (s'.put (O' := dfr) hi).1 (by simp), ?_⟩
  exact hq a _ ⟨s.slots, hd i _ _ hi⟩
theorem ACalls.bodyM {f : FuncId} {fn : Func} {c : Code} {vs : List Value} (hf : P.funcs[f]? = some fn) (hb : fn.body = some c) (hnt : fn.ntmps = n) (hn : Nat.ble vs.length n = true)
    (h : AC none [] P W0 n c (bodyPostM Fence.wide 0 P fn (Post R W0)) (start 0 vs) L F) : ACalls P W0 f vs.toArray L F R := by
  intro w s
  subst hnt
  refine callsIn_wide.1 (callsIn_of_wp_marks (F := Fence.wide) (n := 0) hf hb trivial (h { tmps := vs.toArray ++ Array.replicate (fn.ntmps - vs.toArray.size) undef, defers := [] } w ⟨⟨?_, rfl, ?_⟩, s⟩))
  · have := Nat.le_of_ble_eq_true hn
    simp; omega
  intro i v hi
  obtain ⟨_, hv⟩ := look_start vs 0 i v hi
  have hlt : i < vs.length := by
    rcases Nat.lt_or_ge i vs.length with k | k
    · exact k
    simp [List.getElem?_eq_none k] at hv
  simp only [Nat.sub_zero] at hv
  simp only [Array.getElem?_append, List.size_toArray, hlt, if_true, List.getElem?_toArray, hv]
theorem AK.unmark {fn : Func} {R' : Ending → World → Prop} {D i : Nat} (hi : L[i]? = some (Res.obj D dfr)) (h : AK [] W0 n (bodyPost P fn R') .ret ρ (L.set i Res.nix) F) : AK [mark D] W0 n (bodyPostM Fence.wide 0 P fn R') .ret ρ L F := by
  intro a w s
  obtain ⟨hb, s'⟩ := s.sat.put (O' := .deferred none) hi
  have s2 := Sub.dropAt (j := i) (r := Res.obj D (.deferred none)) (L := L.set i (Res.obj D (.deferred none))) (F := F) (List.getElem?_set_self (HD hi)) _ _ s'
  rw [List.set_set] at s2
  refine ⟨by simp, .inl ⟨D, _, rfl, run_takeDeferred hb, ?_⟩⟩
  exact (h a _ ⟨s.slots, s2⟩).2
end
end Go.Sy
namespace Go.Sy
open Go Go.RowKit
variable {P : Program} {W0 : World} {n : Nat} {Q : Po} {ρ : Rho} {L : List Res} {F : List Fact} {ro : Option Nat} {ds : List Deferred}
theorem AC.cut {c : Code} {ι : Type} (r : ι → Rho → Rho) (l : ι → List Res → List Res) (f : ι → List Fact → List Fact) (key : ∀ x, AK ds W0 n Q .normal (r x ρ) (l x L) (f x F)) (h : (∀ x, AK ds W0 n Q .normal (r x ρ) (l x L) (f x F)) → AC ro ds P W0 n c Q ρ L F) : AC ro ds P W0 n c Q ρ L F := h key
end Go.Sy
namespace Go.Sy
open Go Go.RowKit
theorem Sub.swap {A B : List Res} {F : List Fact} : Sub (A ++ B) F (B ++ A) F := by
  refine Sub.pick (fun i => if i < B.length then A.length + i else i - B.length) (fun i j hi hj h => ?_) (fun i r hi => ?_)
  · simp only [List.length_append] at hi hj
    split at h <;> split at h <;> omega
  have hlt := HD hi
  simp only [List.length_append] at hlt
  show (A ++ B)[if i < B.length then A.length + i else i - B.length]? = some r
  split
  · rename_i c
    rw [List.getElem?_append_left c] at hi
    rw [List.getElem?_append_right HW]
    rw [show A.length + i - A.length = i by omega]; exact hi
  rename_i c
  rw [List.getElem?_append_right HW] at hi
  rw [List.getElem?_append_left HW]; exact hi
section
variable {P : Program} {W0 : World} {n : Nat} {Q : Po} {ρ : Rho} {L : List Res} {F : List Fact} {K : Act → World → Prop}
variable {d : Tmp} {ty t : TypeId} {pos : String} {af : Array Edge} {g : Option (Nat × Bool)}
variable {x y : Operand} {v : Value} {e sz bytes : Nat} {α : Type} {enc : α → List D} {lst : List α}
theorem AYields.swap {l : Nat} {args : Array Value} {A B : List Res} {R : Value → List Res → List Fact → Prop} (h : AYields P W0 l args (B ++ A) F fun v L' F' => ∃ B', L' = B' ++ A ∧ R v (A ++ B') F') : AYields P W0 l args (A ++ B) F R := fun w s => by
  obtain ⟨fn, tmps, assign, body, h1, h2⟩ := h w (Sub.swap _ _ s)
  refine ⟨fn, tmps, assign, body, h1, RoundIn.mono h2 fun _ _ ⟨v, L', F', e, ⟨B', e2, r⟩, s'⟩ => ⟨v, A ++ B', F', e, r, ?_⟩⟩
  subst e2
  exact Sub.swap _ _ s'
theorem AO.sliceFull {a0 : Option Addr} {k0 c0 : Nat} {j m : Int} {k1 k2 : IntKind} {z u : Operand} (hx : ev ρ x = some (.slice a0 k0 c0)) (hz : ev ρ z = some (.int k1 j)) (hu : ev ρ u = some (.int k2 m)) (hd : Nat.blt d n = true) [ht : SlT P t e sz bytes] (hj : j = (lst.length : Int)) (hm' : m = (lst.length : Int)) (hm : Fact.slc (.slice a0 k0 c0) sz (lst.map enc) ∈ F)
    (h : ∀ a, AT W0 n K ((d, .slice a lst.length lst.length) :: ρ) L (.slc (.slice a lst.length lst.length) sz (lst.map enc) :: F)) : AO P W0 n K ⟨some d, .slice t x none (some z) (some u), ty, pos, af, g⟩ Q ρ L F := by
  intro a w s
  subst hj hm'
  obtain ⟨hb, hh, mm, sx⟩ := s.sat
  have c : CR hh (.slice a0 k0 c0) (.slc sz (lst.map enc)) := sx.fact _ hm
  obtain ⟨ba, cap, hv0, hcap⟩ := c.sv
  have hl : (lst.map enc).length = lst.length := by simp
  rw [hl] at hcap hv0
  injection hv0 with e1 e2 e3
  subst e1 e2 e3
  have hr : (execOp a.eval ⟨some d, .slice t x none (some z) (some u), ty, pos, af, g⟩).run P w = .ok (.value (sliced a0 0 lst.length lst.length sz)) w := by
    have := run_slice_hm (P := P) w t a0 lst.length c0 SlT.elem k1 k2 lst.length lst.length HW HW HW
    simp only [execOp, GD s.slots hx, Option.map_none, Option.map_some, GD s.slots hz, GD s.slots hu, Sem.run_bind, run_sliceAt_slice (P := P) w t _ _ _ _ SlT.elem, this, SlT.size]
    simp [Result.andThen]
  have hv : ∃ ad, sliced a0 0 lst.length lst.length sz = .slice ad lst.length lst.length := ⟨_, rfl⟩
  obtain ⟨ad, hv⟩ := hv
  rw [hv] at hr
  refine ⟨Hy hr (fun _ e => by cases e), ?_⟩
  simp only [hr, owR]
  refine h ad _ _ ⟨s.slots.put (Nat.le_of_ble_eq_true hd) _, hb, hh, mm, sx.facts fun f hf => ?_⟩
  rcases List.mem_cons.1 hf with rfl | k
  · have := CR.part (b := 0) (o := 0) c 0 lst.length lst.length HW HW HW HW rfl rfl
    have e2 : ((lst.map enc).drop 0).take (lst.length - 0) = lst.map enc := List.take_of_length_le (by simp)
    rw [e2, hv] at this; exact this
  exact sx.fact f k
theorem AO.appendC {a0 : Option Addr} {b c k k0 : Nat} {cs : List Value} (news : List α) (hx : ev ρ x = some (.slice a0 k0 k0)) (hy : ev ρ y = some (.slice (some ⟨b, 0, none⟩) k c)) (hd : Nat.blt d n = true) [ht : SlT P t e sz bytes] (hm : Fact.slc (.slice a0 k0 k0) sz (lst.map enc) ∈ F)
    (hone : ∀ x d, d ∈ enc x → ∀ v, d = .val v → oneC v = true) (hc : Cells F cs (news.map enc).flatten) (h1 : cs.all oneC = true) (hk : news.length = k) (hk0 : 0 < k) (hsz : ∀ x, (enc x).length = sz) (h63 : lst.length + k ≤ maxLen) (hbytes : (lst.length + k) * bytes ≤ 140737488355328)
    (h : ∀ a k c, AT W0 n K ((d, .slice a k c) :: ρ) (Res.own (.slice a k c) e sz ((lst ++ news).map enc) :: L) F) : AO P W0 n K ⟨some d, .call ⟨.builtin .append, #[x, y], #[t, t]⟩, ty, pos, af, g⟩ Q ρ (Res.cells b cs.toArray e :: L) F := by
  cases a0 with
  | some ad => exact AO.appendFull news hx hy hd hm hone hc hk hk0 hsz h63 hbytes h
  | none =>
    intro a w s
    obtain ⟨_, hh, mm, sx⟩ := id s.sat
    have cc : CR hh (.slice none k0 k0) (.slc sz (lst.map enc)) := sx.fact _ hm
    have hnil : lst = [] ∧ k0 = 0 := by
      generalize hD : D.slc sz (lst.map enc) = dd at cc
      cases cc with
      | val => simp at hD
      | nil => simp at hD; exact ⟨hD.2, rfl⟩
    obtain ⟨rfl, rfl⟩ := hnil
    have hs2 : Sub (Res.cells b cs.toArray e :: L) F (Res.cells b cs.toArray e :: Res.own (.slice none 0 0) e sz [] :: L) F := by
      refine (Ha (e := e) (sz := sz)).trans (Sub.pick (fun i => match i with | 0 => 1 | 1 => 0 | i => i) (fun i j _ _ hij => ?_) (fun i r hi => ?_))
      · match i, j with
        | 0, 0 => rfl
        | 0, 1 => simp at hij
        | 1, 0 => simp at hij
        | 1, 1 => rfl
        | 0, j + 2 => simp at hij
        | 1, j + 2 => simp at hij
        | i + 2, 0 => simp at hij
        | i + 2, 1 => simp at hij
        | i + 2, j + 2 => simpa using hij
      match i with
      | 0 => simpa using hi
      | 1 => simpa using hi
      | i + 2 => simpa using hi
    exact GZ (P := P) (Q := Q) (L := Res.own (.slice none 0 0) e sz [] :: L) (i := 0) (lst := ([] : List α)) news hx hy hd rfl hc h1 hk hsz h63 hbytes (fun a k c => h a k c) a w ⟨s.slots, hs2 _ _ s.sat⟩
theorem AO.appendSelf (hx : ev ρ x = some v) (hy : ev ρ y = some v) (hd : Nat.blt d n = true) [ht : SlT P t e sz bytes] {i : Nat} (hi : L[i]? = some (Res.own v e sz (lst.map enc))) (hone : ∀ x d, d ∈ enc x → ∀ v, d = .val v → oneC v = true)
    (hsz : ∀ x, (enc x).length = sz) (h63 : lst.length + lst.length ≤ maxLen) (hbytes : (lst.length + lst.length) * bytes ≤ 140737488355328)
    (h : ∀ a k c, AT W0 n K ((d, .slice a k c) :: ρ) (L.set i (Res.own (.slice a k c) e sz ((lst ++ lst).map enc))) F) : AO P W0 n K ⟨some d, .call ⟨.builtin .append, #[x, y], #[t, t]⟩, ty, pos, af, g⟩ Q ρ L F := by
  intro a w s
  have hrow : ∀ (i : Nat) (r : List D), (lst.map enc)[i]? = some r → r.length = sz := by
    intro i r hr; simp at hr; obtain ⟨x, _, rfl⟩ := hr; exact hsz x
  have hll : (lst.map enc).length = lst.length := by simp
  have hl := HD hi
  obtain ⟨hb, h0, m0, sx0⟩ := id s.sat
  obtain ⟨_, hp⟩ : ownP v e sz (lst.map enc) h0 (m0 i) := sx0.res i _ hi
  rcases hp with ⟨hv, hr, _⟩ | ⟨gg, cap, cur, hv, hm', hcap, hmax, hcs, hxx⟩
  · have hl0 : lst = [] := by simpa using hr
    subst hl0 hv
    obtain ⟨ti, z, hti, h1, h2, h3, h4⟩ := ht.info
    have hrun := run_append_owned_none (P := P) (w := w) W0.heap.size t ty e ti sz ht.und hti (.slice none 0 0) 0 [] ⟨by simp, .inl ⟨rfl, rfl⟩⟩
    have hLi : L.set i (Res.own (.slice none 0 0) e sz ((([] : List α) ++ []).map enc)) = L := (List.getElem?_eq_some_iff.1 hi).2 ▸ List.set_getElem_self _
    have := h none 0 0
    rw [hLi] at this
    exact AO.appendGo rfl hd rfl s hx hy hrun s.sat this
  rw [hll] at hv hcap
  subst hv
  have hbl := (sx0.own i gg _ hl (by rw [hm']; exact Hb _ _)).2.1
  obtain ⟨v', w', hrun, s'⟩ := append_own (P := P) (t := t) (bytes := bytes) (lst := lst) (news := lst) (i := i) (ad := ⟨gg, 0, none⟩) (c := cap) s.sat hi hsz (fun hh m sx => by
    obtain ⟨_, hp⟩ : ownP _ e sz (lst.map enc) hh (m i) := sx.res i _ hi
    rcases hp with ⟨hv, _⟩ | ⟨gg2, cap2, cur2, hv2, hm2, hcap2, _, hcs2, hxx2⟩
    · simp at hv
    injection hv2 with e1 e2 e3
    injection e1 with e1
    injection e1 with e1
    subst e1 e3
    have hbl2 := (sx.own i gg _ hl (by rw [hm2]; exact Hb _ _)).2.1
    rw [hbl] at hbl2
    injection hbl2 with hbl2
    injection hbl2 with hbl2
    subst hbl2
    have hmul := Nat.mul_le_mul_right sz hcap
    have hcl : (cur.toList.take (lst.length * sz)).length = lst.length * sz := by
      have : cur.toList.length = cap * sz := by simp [hcs]
      rw [List.length_take]; omega
    have hin : ∀ (q : Nat) (dd : D), (lst.map enc).flatten[q]? = some dd → ∃ u, (cur.toList.take (lst.length * sz))[q]? = some u ∧ CR hh u dd := by
      intro q dd hq
      have hqn : q < lst.length * sz := by
        have := has_lt' hq
        rw [flat_length _ hrow] at this; simpa using this
      obtain ⟨a, r, jj, h1, h2, rfl⟩ := flat_split ht.pos _ hrow q dd hq
      obtain ⟨u, hu1, hu2⟩ := hxx2 a r jj dd h1 h2
      exact ⟨u, by rw [List.getElem?_take_of_lt hqn]; simpa using hu1, hu2⟩
    refine ⟨cur.toList.take (lst.length * sz), hcl, fun j u hj => ?_, fun u hu => ?_, hin⟩
    · have hjl : j < lst.length * sz := by have := has_lt' hj; omega
      rw [List.getElem?_take_of_lt hjl] at hj
      rw [Addr.add_lit, block_cell hbl]; simpa using hj
    obtain ⟨q, hq, rfl⟩ := List.getElem_of_mem hu
    have hq' : q < (lst.map enc).flatten.length := by rw [flat_length _ hrow, hll]; omega
    obtain ⟨u, hu1, hu2⟩ := hin q _ (List.getElem?_eq_getElem hq')
    rw [List.getElem?_eq_getElem hq] at hu1
    injection hu1 with hu1
    subst hu1
    refine CR.oneC hu2 (fun u e => ?_)
    have hmem : (lst.map enc).flatten[q] ∈ (lst.map enc).flatten := List.getElem_mem hq'
    obtain ⟨r, hr1, hr2⟩ := List.mem_flatten.1 hmem
    obtain ⟨x0, _, rfl⟩ := List.mem_map.1 hr1
    exact hone x0 _ hr2 u e) h63 hbytes ty
  obtain ⟨a0, c0, rfl⟩ := s'.ownSl (i := i) (v := v') (e := e) (sz := sz) (rows := (lst ++ lst).map enc) (by simp [HD hi])
  exact AO.appendGo rfl hd rfl s hx hy hrun s' (h _ _ _)
end
section
variable {P : Program} {W0 : World} {n : Nat} {Q : Po} {ρ : Rho} {L : List Res} {F : List Fact} {hx : H} {bx : Bx} {sp : Nat → Bool} {sd : Bool} {fuel : Nat} {listed : Array Bool} {ops : Array Oper} {ro : Option Nat} {ds : List Deferred}
def UpsH (P : Program) (W0 : World) (n : Nat) (ops : Array Oper) (Q : Po) (hx : H) (bx : Bx) (sp : Nat → Bool) (fuel : Nat) (listed : Array Bool) (ρ : Rho) (L : List Res) (F : List Fact) (is : List Nat) : Prop :=
  ∀ i ∈ is, ∃ o, ops[i]? = some o ∧ guardIs ops ρ o.guard = some true ∧ ∀ w0, AO P W0 n (Kont P ops Q hx bx sp fuel listed i w0) o Q ρ L F
theorem UpsH.nil : UpsH P W0 n ops Q hx bx sp fuel listed ρ L F [] := fun i hi => by cases hi
theorem UpsH.cons {i : Nat} {is : List Nat} {o : Oper} (hi : ops[i]? = some o) (hg : guardIs ops ρ o.guard = some true) (h : ∀ w0, AO P W0 n (Kont P ops Q hx bx sp fuel listed i w0) o Q ρ L F) (hr : UpsH P W0 n ops Q hx bx sp fuel listed ρ L F is) : UpsH P W0 n ops Q hx bx sp fuel listed ρ L F (i :: is) := fun j hj => by
  rcases List.mem_cons.1 hj with rfl | hj
  · exact ⟨o, hi, hg, h⟩
  exact hr j hj
theorem AH.ups {is : List Nat} (hr : Region.ready .any ops listed = is) (hne : is ≠ []) (h : UpsH P W0 n ops Q hx bx sp fuel listed ρ L F is) : AH P W0 n ops Q hx bx sp sd (fuel + 1) listed ρ L F := by
  intro a w s hs
  refine ⟨fun h0 => by rw [hr] at h0; exact absurd h0 hne, fun j hj => ?_⟩
  rw [hr] at hj
  obtain ⟨o, hi, hg, hk⟩ := h j hj
  unfold opS
  simp only [hi]
  rw [if_pos (guardIs_wanted s.slots hg)]
  exact hk w a w s
end
theorem Sub.swap2 {r r' : Res} {L : List Res} {F : List Fact} : Sub (r :: r' :: L) F (r' :: r :: L) F := by
  refine Sub.pick (fun i => match i with | 0 => 1 | 1 => 0 | i + 2 => i + 2) (fun i j _ _ h => ?_) (fun i x hi => ?_)
  · match i, j with
    | 0, 0 => rfl
    | 0, 1 => simp at h
    | 1, 0 => simp at h
    | 1, 1 => rfl
    | 0, j + 2 => simp at h
    | 1, j + 2 => simp at h
    | i + 2, 0 => simp at h
    | i + 2, 1 => simp at h
    | i + 2, j + 2 => simpa using h
  match i with
  | 0 => simpa using hi
  | 1 => simpa using hi
  | i + 2 => simpa using hi
theorem AO.thin {P : Program} {W0 : World} {n : Nat} {Q : Po} {ρ : Rho} {L L' : List Res} {F F' : List Fact} {K : Act → World → Prop} {o : Oper} (hs : Sub L F L' F') (h : AO P W0 n K o Q ρ L' F') : AO P W0 n K o Q ρ L F := fun a w s => h a w ⟨s.slots, hs _ _ s.sat⟩
theorem Y.build {P : Program} {n : Nat} {ρ : Rho} {T : World → Prop} {d : Option Tmp} {ty t : TypeId} {pos : String} {af : Array Edge} {g : Option (Nat × Bool)} {ps : List (Nat × Operand)} {vs : List (Nat × Value)} {zs cs : List Value} {pl : List (Nat × Nat)} [hb : BdT P t zs pl] (hp : evP ρ ps = some vs) (hf : fillL (pl[·]?) zs vs = some cs) :
    Yd P n ρ T ⟨d, .build t ps.toArray, ty, pos, af, g⟩ (.agg cs.toArray) := ⟨fun a w s _ => by
  simp only [execOp, evP_eval s hp, Sem.run_bind, hb.built, fill_of vs zs cs hf, Result.andThen]
  rfl⟩
section
variable {P : Program} {W0 : World} {n : Nat} {Q : Po} {ρ : Rho} {L : List Res} {F : List Fact} {K : Act → World → Prop} {d : Tmp} {ty t yt : TypeId} {pos : String} {af : Array Edge} {g : Option (Nat × Bool)} {x y : Operand}
theorem AO.eqlBs [ht : BoT P t] {p q : Bool} (hx : ev ρ x = some (.bool p)) (hy : ev ρ y = some (.bool q)) (hd : Nat.blt d n = true) (h1 : p = q → AT W0 n K ((d, .bool true) :: ρ) L F) (h2 : p ≠ q → AT W0 n K ((d, .bool false) :: ρ) L F) :
    AO P W0 n K ⟨some d, .binOp .eql t x y yt, ty, pos, af, g⟩ Q ρ L F := by
  refine AO.eqlB hx hy hd ?_
  by_cases c : p = q
  · rw [beq_iff_eq.2 c]; exact h1 c
  rw [beq_eq_false_iff_ne.2 c]; exact h2 c
end
theorem ACalls.out {P : Program} {W0 : World} {f : FuncId} {args : Array Value} {L : List Res} {F : List Fact} {R R' : Value → List Res → List Fact → Prop} (h : ACalls P W0 f args L F R') (hr : ∀ v L' F', R' v L' F' → ∃ L'' F'', Sub L' F' L'' F'' ∧ R v L'' F'') : ACalls P W0 f args L F R := fun w s =>
  (h w s).mono fun _ _ ⟨v, L', F', e, r, s'⟩ => by
    obtain ⟨L'', F'', h1, h2⟩ := hr v L' F' r
    exact ⟨v, L'', F'', e, h2, h1 _ _ s'⟩
theorem Sub.drop1 {r r' : Res} {L : List Res} {F : List Fact} : Sub (r :: r' :: L) F (r :: L) F := by
  refine Sub.pick (fun i => match i with | 0 => 0 | i + 1 => i + 2) (fun i j _ _ h => ?_) (fun i x hi => ?_)
  · match i, j with
    | 0, 0 => rfl
    | 0, j + 1 => simp at h
    | i + 1, 0 => simp at h
    | i + 1, j + 1 => simpa using h
  match i with
  | 0 => simpa using hi
  | i + 1 => simpa using hi
end Go.Sy
namespace Go.Sy
abbrev Hf := @AO.appendC
end Go.Sy
namespace Go.Sy
open Go Go.RowKit
theorem Y.geqS {P : Program} {n : Nat} {ρ : Rho} {T : World → Prop} {d : Option Tmp} {ty t yt : TypeId} {pos : String} {af : Array Edge} {g : Option (Nat × Bool)} {x y : Operand} {a b : List UInt8} (hx : ev ρ x = some (S a)) (hy : ev ρ y = some (S b)) :
    Yd P n ρ T ⟨d, .binOp .geq t x y yt, ty, pos, af, g⟩ (.bool (!(Op.bytesLess a b))) := ⟨fun s w st _ => by simp only [execOp, GD st hx, GD st hy, eqGuard_at_string, binOp_string_geq, S_toList]; simp⟩
theorem Y.neqB {P : Program} {n : Nat} {ρ : Rho} {T : World → Prop} {d : Option Tmp} {ty t yt : TypeId} [ht : BoT P t] {pos : String} {af : Array Edge} {g : Option (Nat × Bool)} {x y : Operand} {p q : Bool} (hx : ev ρ x = some (.bool p)) (hy : ev ρ y = some (.bool q)) :
    Yd P n ρ T ⟨d, .binOp .neq t x y yt, ty, pos, af, g⟩ (.bool (!(p == q))) := ⟨fun s w st _ => by simp [execOp, GD st hx, GD st hy, eqGuard_at_bool, run_neq_bool (P := P) w t p q ht.und]⟩
end Go.Sy
namespace Go.Sy
open Go Go.RowKit
structure Fu (n : Nat) : Prop where
theorem Fu.dec {n : Nat} (_ : Fu (n + 1)) : Fu n := ⟨⟩
structure Ix (l : List Nat) : Prop where
theorem Ix.tl {i : Nat} {l : List Nat} (_ : Ix (i :: l)) : Ix l := ⟨⟩
structure Wr (G : Prop) : Prop where
  out : G
theorem qs (n : Nat) {G G' : Prop} (h : G') (hh : Fu n → Wr G' → G := by
  intro f h
  repeat (first
    | (replace f := Fu.dec f
       first
       | (refine Ga ?_
          first
          | refine AO.move rfl rfl ?_
          | refine AO.assign rfl rfl ?_
          | refine AO.field rfl rfl ?_
          | refine AO.pickT rfl rfl rfl ?_
          | refine AO.pickF rfl rfl rfl ?_
          | refine AO.extract rfl rfl rfl ?_
          | refine AO.not rfl rfl ?_
          | refine Gu rfl rfl ?_
          | refine AO.lenS rfl rfl ?_
          | refine AO.add rfl rfl rfl HW HW ?_
          | refine AO.sub rfl rfl rfl HW HW ?_
          | refine GI rfl rfl rfl ?_
          | refine Gw rfl rfl ?_
          | refine AO.loadBA rfl rfl ?_
          | refine Gs rfl rfl rfl ?_
          | refine GA rfl rfl rfl rfl ?_)
       | refine AK.seqN ?_
       | refine AL.nil ?_
       | refine AC.seq ?_
       | refine AC.region ?_
       | refine AL.no rfl rfl rfl rfl ?_
       | (refine Gh rfl rfl ?_
          first
          | refine AO.move rfl rfl ?_
          | refine AO.assign rfl rfl ?_
          | refine AO.field rfl rfl ?_
          | refine AO.pickT rfl rfl rfl ?_
          | refine AO.pickF rfl rfl rfl ?_
          | refine AO.extract rfl rfl rfl ?_
          | refine AO.not rfl rfl ?_
          | refine Gu rfl rfl ?_
          | refine AO.lenS rfl rfl ?_
          | refine AO.add rfl rfl rfl HW HW ?_
          | refine AO.sub rfl rfl rfl HW HW ?_
          | refine GI rfl rfl rfl ?_
          | refine Gw rfl rfl ?_
          | refine AO.loadBA rfl rfl ?_
          | refine Gs rfl rfl rfl ?_
          | refine GA rfl rfl rfl rfl ?_)
       | refine AC.condT rfl ?_
       | refine AC.condF rfl ?_
       | refine AC.ret ?_
       | refine AC.exit ?_
       | refine AC.skip ?_
       | refine AC.block ?_
       | refine AK.seqR ?_
       | refine AK.blkR ?_
       | refine AK.seqX ?_
       | refine AK.blkN ?_
       | refine AK.blkX ?_
       | refine AK.blkY rfl ?_)
    | exact Wr.out h)) : G := hh ⟨⟩ ⟨h⟩
section
variable {P : Program} {W0 : World} {n : Nat} {Q : Po} {ρ : Rho} {L : List Res} {F : List Fact} {hx : H} {bx : Bx} {sp : Nat → Bool} {sd : Bool} {fuel : Nat} {listed : Array Bool} {ops : Array Oper}
variable {i : Nat} {l : List Nat} {d : Tmp} {op : Op} {ty : TypeId} {pos : String} {af : Array Edge} {g : Option (Nat × Bool)} {v : Value}
theorem AH.tW (_ : Ix (i :: l)) (hi : ops[i]? = some ⟨some d, op, ty, pos, af, g⟩) (hy : Yd P n ρ (fun _ => True) ⟨some d, op, ty, pos, af, g⟩ v) (ht : takeOk ops listed i = true) (hg : guardIs ops ρ g = some true) (hd : Nat.blt d n = true)
    (h : AH P W0 n ops Q hx bx sp sd fuel (listed.setIfInBounds i true) ((d, v) :: ρ) L F) : AH P W0 n ops Q hx bx sp sd (fuel + 1) listed ρ L F := GF hi hy ht hg hd h
theorem AH.tS (_ : Ix (i :: l)) (hi : ops[i]? = some ⟨some d, op, ty, pos, af, g⟩) (hy : Yd P n ρ (HX hx bx) ⟨some d, op, ty, pos, af, g⟩ v) (ht : takeOk ops listed i = true) (hw : spWait ops sp i = true) (hsd : sd = true) (hg : guardIs ops ρ g = some true) (hd : Nat.blt d n = true)
    (h : AH P W0 n ops Q hx bx sp sd fuel (listed.setIfInBounds i true) ((d, v) :: ρ) L F) : AH P W0 n ops Q hx bx sp sd (fuel + 1) listed ρ L F := GV hi hy ht hw hsd hg hd h
theorem AH.tN (_ : Ix (i :: l)) (hi : ops[i]? = some ⟨some d, op, ty, pos, af, g⟩) (ht : takeOk ops listed i = true) (hg : guardIs ops ρ g = some false) (hd : Nat.blt d n = true)
    (h : AH P W0 n ops Q hx bx sp sd fuel (listed.setIfInBounds i true) ((d, undef) :: ρ) L F) : AH P W0 n ops Q hx bx sp sd (fuel + 1) listed ρ L F := AH.skip hi ht hg hd h
end
theorem qt (l : List Nat) {G G' : Prop} (h : G') (hh : Ix l → Wr G' → G := by
  intro x h
  repeat (first
    | (first
       | refine AH.tW x rfl (Y.move rfl) HV rfl rfl ?_
       | refine AH.tN x rfl HV rfl rfl ?_
       | refine AH.tW x rfl (Y.field rfl) HV rfl rfl ?_
       | refine AH.tS x rfl (Y.loadB rfl lmA (by rfl)) HV HV rfl rfl rfl ?_
       | refine AH.tS x rfl (Y.loadBA rfl lmA (by rfl)) HV HV rfl rfl rfl ?_
       | refine AH.tW x rfl (Y.assign rfl) HV rfl rfl ?_
       | refine AH.tW x rfl (Y.pickT rfl rfl) HV rfl rfl ?_
       | refine AH.tW x rfl (Y.pickF rfl rfl) HV rfl rfl ?_
       | refine AH.tW x rfl (GM rfl rfl rfl HW) HV rfl rfl ?_
       | refine AH.tS x rfl (Y.loadF rfl (by assumption)) HV HV rfl rfl rfl ?_
       | refine AH.tS x rfl (HJ rfl rfl ‹_›) HV HV rfl rfl rfl ?_
       | refine AH.tW x rfl (Y.not rfl) HV rfl rfl ?_
       | refine AH.tW x rfl (Y.extract rfl rfl) HV rfl rfl ?_
       | refine AH.tW x rfl (Y.add rfl rfl HW HW) HV rfl rfl ?_
       | refine AH.tW x rfl (Y.sub rfl rfl HW HW) HV rfl rfl ?_
       | refine AH.tW x rfl (Y.lenS rfl) HV rfl rfl ?_
       | refine AH.tW x rfl (Y.lenV rfl) HV rfl rfl ?_
       | refine AH.tW x rfl (Y.min rfl rfl) HV rfl rfl ?_
       | refine AH.tW x rfl (Y.max rfl rfl) HV rfl rfl ?_
       | refine AH.tW x rfl (Y.build rfl rfl) HV rfl rfl ?_
       | refine AH.tW x rfl (Y.nilCheckP rfl) HV rfl rfl ?_)
      replace x := Ix.tl x
    | exact Wr.out h)) : G := hh ⟨⟩ ⟨h⟩
end Go.Sy
