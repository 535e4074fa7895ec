/- Joined of my own texts: FwG, FwT, FwJ, FwZ, FwO, FwAA, FwAB. -/
import Derived.Test.YtodaafgpfjcpgaaGreatDoorX11
import Derived.RangeFuncLeaves
import Derived.RangeFuncRecord
import Derived.Laws.StructEq
namespace Go.Sy
open Go Go.RowKit
def recL (fn : FuncId) (tmps : Array Value) (ps : List Tmp) (assign body : Code) (D : Nat) (st : LoopState) (pe : Option Code) : Obj := .loop { state := st, pending := pe, fn, tmps, params := ps.toArray, assign, body, defers := D }
def dfr : Obj := .deferred (some [])
def binds : List Tmp → List Value → Rho → Rho
  | p :: ps, v :: vs, ρ => binds ps vs ((p, v) :: ρ)
  | _, _, ρ => ρ
section
variable {P : Program} {W0 : World} {n : Nat} {Q : Po} {ρ : Rho} {L : List Res} {F : List Fact} {K : Act → World → Prop} {ro : Option Nat} {ds : List Deferred} {R : Value → List Res → List Fact → Prop}
theorem Sat.put {w : World} (s : Sat W0 L F w) {i b : Nat} {O : Obj} (O' : Obj) (hi : L[i]? = some (Res.obj b O)) : w.heap[b]? = some O ∧ Sat W0 (L.set i (Res.obj b O')) F (w.putObj b O') := by
  obtain ⟨hbel, h0, mm, sx⟩ := s
  have hl := has_lt hi
  have hp : mm i = one b O := sx.res i _ hi
  have hb : w.heap[b]? = some O := (sx.own i b O hl (by rw [hp, one_self])).2.1
  have st : Step w (w.putObj b O') (mm i) := ⟨rfl, rfl, rfl, by simp, fun k hk hmk => by
    have hne : k ≠ b := fun e => by subst e; rw [hp, one_self] at hmk; simp at hmk
    exact World.putObj_heap_other hne⟩
  refine ⟨hb, Sat.below_of hbel st (fun b' O hm => (sx.own i b' O hl hm).1), h0, _, sx.upd hbel.size hl st (Res.obj b O') (one b O') HQ ?_⟩
  intro b' O1 hmo
  obtain ⟨rfl, rfl⟩ := one_some hmo
  exact ⟨.inl (by rw [hp, one_self]; simp), World.putObj_heap_same (block_lt hb)⟩
theorem Sat.allocO {w : World} (s : Sat W0 L F w) (O : Obj) : Sat W0 (Res.obj w.heap.size O :: L) F (w.alloc O) := by
  obtain ⟨hbel, h0, mm, sx⟩ := s
  have st : Step w (w.alloc O) (fun _ => none) := ⟨rfl, rfl, rfl, by simp, fun k hk _ => Below.heap_alloc w O k hk⟩
  refine ⟨Sat.below_of hbel st (fun b O h => by cases h), h0, _, sx.add hbel.size st (Res.obj w.heap.size O) (one w.heap.size O) HQ ?_⟩
  intro b' O1 hmo
  obtain ⟨rfl, rfl⟩ := one_some hmo
  exact ⟨Nat.le_refl _, World.alloc_heap_new w _⟩
def AYields (P : Program) (W0 : World) (l : Nat) (args : Array Value) (L : List Res) (F : List Fact) (R : Value → List Res → List Fact → Prop) : Prop :=
  ∀ w, Sat W0 L F w → ∃ fn tmps assign body, (Instr.yield l args).run P w = .ok (.round l fn tmps assign body) w ∧ RoundIn Fence.wide 0 P l fn tmps assign body w (Post R W0)
theorem AYields.mono {l : Nat} {args : Array Value} {R' : Value → List Res → List Fact → Prop} (h : AYields P W0 l args L F R) (hr : ∀ v L F, R v L F → R' v L F) : AYields P W0 l args L F R' := fun w s => by
  obtain ⟨fn, tmps, assign, body, h1, h2⟩ := h w s
  exact ⟨fn, tmps, assign, body, h1, RoundIn.mono h2 fun _ _ ⟨v, L', F', e, r, s'⟩ => ⟨v, L', F', e, hr _ _ _ r, s'⟩⟩
theorem AYields.weak {l : Nat} {args : Array Value} {L' : List Res} {F' : List Fact} (hs : Sub L F L' F') (h : AYields P W0 l args L' F' R) : AYields P W0 l args L F R := fun w s => h w (hs _ _ s)
theorem AO.yield {d : Tmp} {ty : TypeId} {pos : String} {af : Array Edge} {g : Option (Nat × Bool)} {x : Operand} {al : List Operand} {vs : List Value} {ts : Array TypeId} {l : Nat} (hx : ev ρ x = some (.func (.yield l) #[] #[])) (ha : evL ρ al = some vs) (hd : Nat.blt d n = true)
    (h : AYields P W0 l vs.toArray L F fun v L' F' => AT W0 n K ((d, v) :: ρ) L' F') : AO P W0 n K ⟨some d, .call ⟨.value x, al.toArray, ts⟩, ty, pos, af, g⟩ Q ρ L F := by
  intro a w s
  obtain ⟨fn, tmps, assign, body, h1, h2⟩ := h w s.sat
  have hr : (execOp a.eval ⟨some d, .call ⟨.value x, al.toArray, ts⟩, ty, pos, af, g⟩).run P w = .ok (.round l fn tmps assign body) w := by
    have := evL_eval s.slots ha
    simp only [execOp, resolve, this, GK s.slots hx]
    simp [Deferred.ofValue, invoke, h1]
  refine ⟨HO hr (fun _ e => by cases e), ?_⟩
  simp only [hr, owR]
  refine RoundIn.mono h2 fun e w' ⟨v, L', F', he, hk, hs⟩ => ⟨v, he, ?_⟩
  exact hk _ _ ⟨s.slots.put (Nat.le_of_ble_eq_true hd) _, hs⟩
def Begin (P : Program) (l : Nat) (body : Code) (R : Value → List Res → List Fact → Prop) (W0 : World) : Act → World → Prop :=
  fun a₁ w₁ => ∃ w₂, (Instr.beginRound l).run P w₁ = .ok () w₂ ∧ body.wpIn (Wd (some l)) 0 P (roundPost P l (Post R W0)) a₁ w₂
theorem binds_slots : ∀ (ps : List Tmp) (vs : List Value) (ρ : Rho) (t : Array Value), Slots n ρ ⟨t, []⟩ → (ps.all fun p => Nat.blt p n) = true →
    Slots n (binds ps vs ρ) ⟨(ps.zip vs).foldl (fun t (p, v) => t.setIfInBounds p v) t, []⟩
  | [], vs, ρ, t, h, _ => by simpa [binds] using h
  | p :: ps, [], ρ, t, h, _ => by simpa [binds] using h
  | p :: ps, v :: vs, ρ, t, h, hp => by
    simp only [List.all_cons, Bool.and_eq_true] at hp
    exact binds_slots ps vs ((p, v) :: ρ) (t.setIfInBounds p v) (h.put (Nat.le_of_ble_eq_true hp.1) v) hp.2
theorem AYields.round {l D i : Nat} {fn : FuncId} {tmps : Array Value} {ps : List Tmp} {assign body : Code} {args : List Value} (hi : L[i]? = some (Res.obj l (recL fn tmps ps assign body D .ready none))) (hlen : args.length = ps.length)
    (hs : Slots n ρ ⟨tmps, []⟩) (hp : (ps.all fun p => Nat.blt p n) = true)
    (h : AC (some l) [] P W0 n assign (Exit.then (Begin P l body R W0) NoQ) (binds ps args ρ) L F) : AYields P W0 l args.toArray L F R := by
  intro w s
  have hb := (s.put (O' := dfr) hi).1
  refine ⟨_, _, _, _, run_yield hb (by simp [hlen]), roundIn_of_wpIn (F := Fence.wide) (n := 0) trivial ?_⟩
  have := h _ w ⟨binds_slots ps args ρ tmps hs hp, s⟩
  have e : ((ps.zip args).foldl (fun t (p, v) => t.setIfInBounds p v) tmps) = (ps.toArray.zip args.toArray).foldl (fun t (p, v) => t.setIfInBounds p v) tmps := by simp
  rw [e] at this
  exact wpIn_mono this fun e a w q => by cases e <;> exact q
end
end Go.Sy
namespace Go.Sy
open Go Go.RowKit
variable {P : Program} {W0 : World} {n : Nat} {Q : Po} {ρ : Rho} {L : List Res} {F : List Fact} {ro : Option Nat} {ds : List Deferred}
theorem AC.cut {c : Code} {ι : Type} (r : ι → Rho → Rho) (l : ι → List Res → List Res) (f : ι → List Fact → List Fact) (key : ∀ x, AK ds W0 n Q .normal (r x ρ) (l x L) (f x F)) (h : (∀ x, AK ds W0 n Q .normal (r x ρ) (l x L) (f x F)) → AC ro ds P W0 n c Q ρ L F) : AC ro ds P W0 n c Q ρ L F := h key
end Go.Sy
namespace Go.Sy
open Go Go.RowKit
section
variable {P : Program} {W0 : World} {n : Nat} {Q : Po} {ρ : Rho} {L : List Res} {F : List Fact} {K : Act → World → Prop}
variable {d : Tmp} {ty t : TypeId} {pos : String} {af : Array Edge} {g : Option (Nat × Bool)}
variable {x y : Operand} {v : Value} {e sz bytes : Nat} {α : Type} {enc : α → List D} {lst : List α}
end
section
variable {P : Program} {W0 : World} {n : Nat} {Q : Po} {ρ : Rho} {L : List Res} {F : List Fact} {hx : H} {bx : Bx} {sp : Nat → Bool} {sd : Bool} {fuel : Nat} {listed : Array Bool} {ops : Array Oper} {ro : Option Nat} {ds : List Deferred}
def UpsH (P : Program) (W0 : World) (n : Nat) (ops : Array Oper) (Q : Po) (hx : H) (bx : Bx) (sp : Nat → Bool) (fuel : Nat) (listed : Array Bool) (ρ : Rho) (L : List Res) (F : List Fact) (is : List Nat) : Prop :=
  ∀ i ∈ is, ∃ o, ops[i]? = some o ∧ guardIs ops ρ o.guard = some true ∧ ∀ w0, AO P W0 n (Kont P ops Q hx bx sp fuel listed i w0) o (Pz Q) ρ L F
theorem UpsH.nil : UpsH P W0 n ops Q hx bx sp fuel listed ρ L F [] := fun i hi => by cases hi
theorem UpsH.cons {i : Nat} {is : List Nat} {o : Oper} (hi : ops[i]? = some o) (hg : guardIs ops ρ o.guard = some true) (h : ∀ w0, AO P W0 n (Kont P ops Q hx bx sp fuel listed i w0) o (Pz Q) ρ L F) (hr : UpsH P W0 n ops Q hx bx sp fuel listed ρ L F is) : UpsH P W0 n ops Q hx bx sp fuel listed ρ L F (i :: is) := fun j hj => by
  rcases List.mem_cons.1 hj with rfl | hj
  · exact ⟨o, hi, hg, h⟩
  exact hr j hj
end
theorem Sub.swap2 {r r' : Res} {L : List Res} {F : List Fact} : Sub (r :: r' :: L) F (r' :: r :: L) F := by
  refine Sub.pick (fun i => match i with | 0 => 1 | 1 => 0 | i + 2 => i + 2) (fun i j _ _ h => ?_) (fun i x hi => ?_)
  · match i, j with
    | 0, 0 => rfl
    | 0, 1 => simp at h
    | 1, 0 => simp at h
    | 1, 1 => rfl
    | 0, j + 2 => simp at h
    | 1, j + 2 => simp at h
    | i + 2, 0 => simp at h
    | i + 2, 1 => simp at h
    | i + 2, j + 2 => simpa using h
  match i with
  | 0 => simpa using hi
  | 1 => simpa using hi
  | i + 2 => simpa using hi
theorem Y.build {P : Program} {n : Nat} {ρ : Rho} {T : World → Prop} {d : Option Tmp} {ty t : TypeId} {pos : String} {af : Array Edge} {g : Option (Nat × Bool)} {ps : List (Nat × Operand)} {vs : List (Nat × Value)} {zs cs : List Value} {pl : List (Nat × Nat)} [hb : BdT P t zs pl] (hp : evP ρ ps = some vs) (hf : fillL (pl[·]?) zs vs = some cs) :
    Yd P n ρ T ⟨d, .build t ps.toArray, ty, pos, af, g⟩ (.agg cs.toArray) := ⟨fun a w s _ => by
  simp only [execOp, evP_eval s hp, Sem.run_bind, hb.built, fill_of vs zs cs hf, Result.andThen]
  rfl⟩
section
variable {P : Program} {W0 : World} {n : Nat} {Q : Po} {ρ : Rho} {L : List Res} {F : List Fact} {K : Act → World → Prop} {d : Tmp} {ty t yt : TypeId} {pos : String} {af : Array Edge} {g : Option (Nat × Bool)} {x y : Operand}
end
theorem ACalls.out {P : Program} {W0 : World} {f : FuncId} {args : Array Value} {L : List Res} {F : List Fact} {R R' : Value → List Res → List Fact → Prop} (h : ACalls P W0 f args L F R') (hr : ∀ v L' F', R' v L' F' → ∃ L'' F'', Sub L' F' L'' F'' ∧ R v L'' F'') : ACalls P W0 f args L F R := fun w s =>
  (h w s).mono fun _ _ ⟨v, L', F', e, r, s'⟩ => by
    obtain ⟨L'', F'', h1, h2⟩ := hr v L' F' r
    exact ⟨v, L'', F'', e, h2, h1 _ _ s'⟩
end Go.Sy
namespace Go.Sy
open Go Go.RowKit
end Go.Sy
namespace Go.Sy
open Go Go.RowKit
structure Fu (n : Nat) : Prop where
theorem Fu.dec {n : Nat} (_ : Fu (n + 1)) : Fu n := ⟨⟩
structure Ix (l : List Nat) : Prop where
theorem Ix.tl {i : Nat} {l : List Nat} (_ : Ix (i :: l)) : Ix l := ⟨⟩
structure Wr (G : Prop) : Prop where
  out : G
theorem qs (n : Nat) {G G' : Prop} (h : G') (hh : Fu n → Wr G' → G := by
  intro f h
  repeat (first
    | (replace f := Fu.dec f
       first
       | (refine Gb ?_
          first
          | refine AO.move rfl rfl ?_
          | refine AO.assign rfl rfl ?_
          | refine AO.field rfl rfl ?_
          | refine AO.pickT rfl rfl rfl ?_
          | refine AO.pickF rfl rfl rfl ?_
          | refine AO.extract rfl rfl rfl ?_
          | refine AO.not rfl rfl ?_
          | refine Gu rfl rfl ?_
          | refine AO.lenS rfl rfl ?_
          | refine AO.add rfl rfl rfl HS HS ?_
          | refine AO.sub rfl rfl rfl HS HS ?_
          | refine AO.build rfl rfl rfl ?_
          | refine GL rfl rfl ?_
          | refine AO.loadBA rfl rfl ?_
          | refine HF rfl rfl rfl ?_
          | refine HD rfl rfl rfl rfl ?_)
       | refine AK.seqN ?_
       | refine AL.nil ?_
       | refine AC.seq ?_
       | refine AC.region ?_
       | refine AL.no rfl rfl rfl rfl ?_
       | (refine Gr rfl rfl ?_
          first
          | refine AO.move rfl rfl ?_
          | refine AO.assign rfl rfl ?_
          | refine AO.field rfl rfl ?_
          | refine AO.pickT rfl rfl rfl ?_
          | refine AO.pickF rfl rfl rfl ?_
          | refine AO.extract rfl rfl rfl ?_
          | refine AO.not rfl rfl ?_
          | refine Gu rfl rfl ?_
          | refine AO.lenS rfl rfl ?_
          | refine AO.add rfl rfl rfl HS HS ?_
          | refine AO.sub rfl rfl rfl HS HS ?_
          | refine AO.build rfl rfl rfl ?_
          | refine GL rfl rfl ?_
          | refine AO.loadBA rfl rfl ?_
          | refine HF rfl rfl rfl ?_
          | refine HD rfl rfl rfl rfl ?_)
       | refine AC.condT rfl ?_
       | refine AC.condF rfl ?_
       | refine AC.ret ?_
       | refine AC.exit ?_
       | refine AC.skip ?_
       | refine AC.block ?_
       | refine AK.seqR ?_
       | refine AK.blkR ?_
       | refine AK.seqX ?_
       | refine AK.blkN ?_
       | refine AK.blkX ?_
       | refine AK.blkY rfl ?_)
    | exact Wr.out h)) : G := hh ⟨⟩ ⟨h⟩
section
variable {P : Program} {W0 : World} {n : Nat} {Q : Po} {ρ : Rho} {L : List Res} {F : List Fact} {hx : H} {bx : Bx} {sp : Nat → Bool} {sd : Bool} {fuel : Nat} {listed : Array Bool} {ops : Array Oper}
variable {i : Nat} {l : List Nat} {d : Tmp} {op : Op} {ty : TypeId} {pos : String} {af : Array Edge} {g : Option (Nat × Bool)} {v : Value}
theorem AH.tW (_ : Ix (i :: l)) (hi : ops[i]? = some ⟨some d, op, ty, pos, af, g⟩) (hy : Yd P n ρ (fun _ => True) ⟨some d, op, ty, pos, af, g⟩ v) (ht : takeOk ops listed i = true) (hg : guardIs ops ρ g = some true) (hd : Nat.blt d n = true)
    (h : AH P W0 n ops Q hx bx sp sd fuel (listed.setIfInBounds i true) ((d, v) :: ρ) L F) : AH P W0 n ops Q hx bx sp sd (fuel + 1) listed ρ L F := Gq hi hy ht hg hd h
theorem AH.tS (_ : Ix (i :: l)) (hi : ops[i]? = some ⟨some d, op, ty, pos, af, g⟩) (hy : Yd P n ρ (HX hx bx) ⟨some d, op, ty, pos, af, g⟩ v) (ht : takeOk ops listed i = true) (hw : spWait ops sp i = true) (hsd : sd = true) (hg : guardIs ops ρ g = some true) (hd : Nat.blt d n = true)
    (h : AH P W0 n ops Q hx bx sp sd fuel (listed.setIfInBounds i true) ((d, v) :: ρ) L F) : AH P W0 n ops Q hx bx sp sd (fuel + 1) listed ρ L F := GP hi hy ht hw hsd hg hd h
theorem AH.tN (_ : Ix (i :: l)) (hi : ops[i]? = some ⟨some d, op, ty, pos, af, g⟩) (ht : takeOk ops listed i = true) (hg : guardIs ops ρ g = some false) (hd : Nat.blt d n = true)
    (h : AH P W0 n ops Q hx bx sp sd fuel (listed.setIfInBounds i true) ((d, undef) :: ρ) L F) : AH P W0 n ops Q hx bx sp sd (fuel + 1) listed ρ L F := AH.skip hi ht hg hd h
end
theorem qt (l : List Nat) {G G' : Prop} (h : G') (hh : Ix l → Wr G' → G := by
  intro x h
  repeat (first
    | (first
       | refine AH.tW x rfl (Y.move rfl) HR rfl rfl ?_
       | refine AH.tN x rfl HR rfl rfl ?_
       | refine AH.tW x rfl (Y.field rfl) HR rfl rfl ?_
       | refine AH.tS x rfl (Y.loadB rfl lmA (by rfl)) HR HR rfl rfl rfl ?_
       | refine AH.tS x rfl (Y.loadBA rfl lmA (by rfl)) HR HR rfl rfl rfl ?_
       | refine AH.tW x rfl (Y.assign rfl) HR rfl rfl ?_
       | refine AH.tW x rfl (Y.pickT rfl rfl) HR rfl rfl ?_
       | refine AH.tW x rfl (Y.pickF rfl rfl) HR rfl rfl ?_
       | refine AH.tW x rfl (GE rfl rfl rfl HS) HR rfl rfl ?_
       | refine AH.tS x rfl (Hf rfl (by assumption)) HR HR rfl rfl rfl ?_
       | refine AH.tS x rfl (Y.loadFA rfl rfl ‹_›) HR HR rfl rfl rfl ?_
       | refine AH.tW x rfl (Y.not rfl) HR rfl rfl ?_
       | refine AH.tW x rfl (Y.extract rfl rfl) HR rfl rfl ?_
       | refine AH.tW x rfl (Y.add rfl rfl HS HS) HR rfl rfl ?_
       | refine AH.tW x rfl (Y.sub rfl rfl HS HS) HR rfl rfl ?_
       | refine AH.tW x rfl (Y.lenS rfl) HR rfl rfl ?_
       | refine AH.tW x rfl (Y.lenV rfl) HR rfl rfl ?_
       | refine AH.tW x rfl (Y.min rfl rfl) HR rfl rfl ?_
       | refine AH.tW x rfl (Y.max rfl rfl) HR rfl rfl ?_
       | refine AH.tW x rfl (Y.build rfl rfl) HR rfl rfl ?_
       | refine AH.tW x rfl (Y.nilCheckP rfl) HR rfl rfl ?_)
      replace x := Ix.tl x
    | exact Wr.out h)) : G := hh ⟨⟩ ⟨h⟩
end Go.Sy
namespace Go.Sy
open Go Go.RowKit
section
variable {P : Program} {W0 : World} {n : Nat} {Q : Po} {ρ : Rho} {L : List Res} {F : List Fact} {K : Act → World → Prop}
variable {d : Tmp} {ty t yt : TypeId} {pos : String} {af : Array Edge} {g : Option (Nat × Bool)} {x y : Operand}
theorem AO.makeFuncB {f : FuncId} {fi cap : List Operand} {us vs : List Value} (hf : evL ρ fi = some us) (hc : evL ρ cap = some vs) (hd : Nat.blt d n = true) (h : AT W0 n K ((d, .func (.func f) us.toArray vs.toArray) :: ρ) L F) :
    AO P W0 n K ⟨some d, .makeFunc (.func f) fi.toArray cap.toArray, ty, pos, af, g⟩ Q ρ L F :=
  HG hd (fun a w s => by simp only [execOp, Instr.makeFunc, evL_eval s.slots hf, evL_eval s.slots hc]; simp) h
theorem AO.callB {f : FuncId} {oas : List Operand} {vs fi cs : List Value} {ts : Array TypeId} (hx : ev ρ x = some (.func (.func f) fi.toArray cs.toArray)) (ha : evL ρ oas = some vs) (hd : Nat.blt d n = true)
    (h : ACalls P W0 f (fi ++ vs ++ cs).toArray L F fun v L' F' => AT W0 n K ((d, v) :: ρ) L' F') [hf : FnT P f] : AO P W0 n K ⟨some d, .call ⟨.value x, oas.toArray, ts⟩, ty, pos, af, g⟩ Q ρ L F := by
  intro a w s
  refine AO.callGo HQ hd s ?_ h
  have := evL_eval s.slots ha
  simp only [execOp, resolve, this, GK s.slots hx]
  simp [Deferred.ofValue, invoke, hf.call]
theorem Y.makeFunc {T : World → Prop} {dd : Option Tmp} {f : FuncId} {cap : List Operand} {vs : List Value} (hc : evL ρ cap = some vs) : Yd P n ρ T ⟨dd, .makeFunc (.func f) #[] cap.toArray, ty, pos, af, g⟩ (.func (.func f) #[] vs.toArray) :=
  ⟨fun a w s _ => by simp only [execOp, Instr.makeFunc, evL_eval s hc]; simp⟩
class TmT (P : Program) (t : TypeId) : Prop where
  eql : ∀ (a b : List UInt8) (i j : Int) (w : World), (binOp .eql t (.agg #[S a, .int .i64 i]) (.agg #[S b, .int .i64 j])).run P w = .ok (.bool (decide (a = b ∧ i = j))) w
  guard : ∀ (x y : Operand) (xs ys : Array Value) (w : World), (eqGuard .eql t x y (.agg xs) (.agg ys)).run P w = .ok () w
theorem TmT.of {f0 f1 : Field} (hu0 : P.underlying t = some (.struct #[f0, f1])) (h0 : f0.offset = 0) (h1 : f1.offset = 1) (n0 : f0.name ≠ "_") (n1 : f1.name ≠ "_") (u0 : P.underlying f0.type = some .string) (u1 : P.underlying f1.type = some (.int .i64)) (hp : P.stoodInHeld t = false) (hm : P.eqGuardType P.depth t = false) : TmT P t := by
  have hf0 : P.fieldsOf t = #[f0, f1] := by simp [Program.fieldsOf, hu0]
  have hu : P.underlying t = some (.struct (P.fieldsOf t)) := by rw [hf0]; exact hu0
  have hf : (P.fieldsOf t).toList = [f0, f1] := by rw [hf0]
  refine ⟨fun a b i j w => ?_, fun x y xs ys w => run_eqGuard_agg w _ t x y xs ys hm⟩
  rw [run_eql_struct, run_equalIn_struct w 9999 t _ _ hu hp, hf]
  simp only [Op.eqFields, if_pos n0, if_pos n1, h0, h1]
  have p0 : ∀ (c : List UInt8) (k : Int) w, (part f0.type #[S c, .int .i64 k] 0).run P w = .ok (S c) w := fun c k w => by simp [part, isAgg, run_underlying u0]
  have p1 : ∀ (c : List UInt8) (k : Int) w, (part f1.type #[S c, .int .i64 k] 1).run P w = .ok (.int .i64 k) w := fun c k w => by simp [part, isAgg, run_underlying u1]
  have p2 : ∀ w, (Op.equalIn 9999 f1.type (.int .i64 i) (.int .i64 j)).run P w = .ok (i == j) w := fun w => run_equalIn_int w 9998 _ _ _ _ _ u1
  simp only [Sem.run_bind, p0, Result.andThen_ok, run_equalIn_string w _ _ _ _ u0]
  by_cases c : a = b
  · subst c
    by_cases c2 : i = j
    · subst c2; simp [p1, p2, Result.andThen]
    simp [c2, p1, p2, Result.andThen]
  have : (ByteArray.toList ⟨a.toArray⟩ == ByteArray.toList ⟨b.toArray⟩) = false := by
    rw [ByteArray.toList_eq, ByteArray.toList_eq]; simpa using c
  simp [c, Result.andThen]
end
end Go.Sy
namespace Go.Sy
abbrev GB := @AO.makeFuncB
end Go.Sy
namespace Go.Sy
open Go Go.RowKit
section
variable {P : Program} {W0 : World} {n : Nat} {Q : Po} {ρ : Rho} {L : List Res} {F : List Fact} {K : Act → World → Prop}
variable {d : Tmp} {ty t e : TypeId} {pos : String} {af : Array Edge} {g : Option (Nat × Bool)} {x y : Operand} {k c sz : Nat} {rows : List (List D)}
end
end Go.Sy
