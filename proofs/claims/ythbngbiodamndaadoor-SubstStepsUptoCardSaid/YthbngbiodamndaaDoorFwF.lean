/- Literals, closures, results in memory, over symbolic states. No program in sight. -/
import Derived.Test.YthbngbiodamndaaDoorFwE
namespace Go.Sy
open Go Go.RowKit

section
variable {P : Program} {W0 : World} {n : Nat} {Q : Po} {ρ : Rho} {L : List Res} {F : List Fact} {ops : Array Oper} {l : List Oper} {K : Act → World → Prop}
variable {d : Tmp} {ty t : TypeId} {pos : String} {af : Array Edge} {g : Option (Nat × Bool)} {x y : Operand} {aty : Array TypeId}

/-! ### Literals -/
def evP (ρ : Rho) : List (Nat × Operand) → Option (List (Nat × Value))
  | [] => some []
  | (i, x) :: xs => match ev ρ x with
    | none => none
    | some v => match evP ρ xs with
      | none => none
      | some vs => some ((i, v) :: vs)
theorem evP_eval {ρ : Rho} {a : Act} (h : Slots n ρ a) : ∀ {xs : List (Nat × Operand)} {vs : List (Nat × Value)}, evP ρ xs = some vs → (xs.toArray.map fun x => (x.1, a.eval x.2)) = vs.toArray
  | [], vs, e => by simp [evP] at e; subst e; simp
  | (i, x) :: xs, vs, e => by
    simp only [evP] at e
    split at e
    · simp at e
    · rename_i v hv
      split at e
      · simp at e
      · rename_i ws hw
        simp at e; subst e
        have := evP_eval h hw
        simp at this
        simp [ev_eval h hv, this]

/-- Parts laid into a row of cells. -/
def fillL (pl : Nat → Option (Nat × Nat)) : List Value → List (Nat × Value) → Option (List Value)
  | cs, [] => some cs
  | cs, (i, v) :: r => match pl i with
    | none => none
    | some (off, size) => bif Nat.beq (cellsL v).length size && Nat.ble (off + size) cs.length then fillL pl (putL cs off (cellsL v)) r else none

theorem fold_put (off : Nat) : ∀ (vs : List Value) (k : Nat) (cs : List Value), (vs.zipIdx k).foldl (fun (cs : Array Value) (p : Value × Nat) => cs.setIfInBounds (off + p.2) p.1) cs.toArray = (putL cs (off + k) vs).toArray
  | [], k, cs => by simp [putL]
  | v :: vs, k, cs => by
    simp only [List.zipIdx_cons, List.foldl_cons, putL]
    rw [List.setIfInBounds_toArray, fold_put off vs (k + 1)]
    rfl

theorem fill_of {pl : Nat → Option (Nat × Nat)} : ∀ (ps : List (Nat × Value)) (cs out : List Value), fillL pl cs ps = some out → Instr.fill pl cs.toArray ps = some out.toArray
  | [], cs, out, h => by simp [fillL] at h; simp [Instr.fill, h]
  | (i, v) :: r, cs, out, h => by
    simp only [fillL] at h
    cases hp : pl i with
    | none => simp [hp] at h
    | some q =>
      obtain ⟨off, size⟩ := q
      simp only [hp] at h
      cases hb : (Nat.beq (cellsL v).length size && Nat.ble (off + size) cs.length) with
      | false => simp [hb] at h
      | true =>
        simp only [hb, cond_true] at h
        simp only [Bool.and_eq_true] at hb
        have h1 : (cellsL v).length = size := Nat.eq_of_beq_eq_true hb.1
        have h2 := Nat.le_of_ble_eq_true hb.2
        have hc : v.cells = (cellsL v).toArray := (cellsL_toArray v).symm
        have ih := fill_of r _ out h
        have hlen : v.cells.size = size := by rw [hc]; simpa using h1
        have hle : ¬ (off + v.cells.size > cs.toArray.size) := by rw [hlen]; simp; omega
        have hfold := fold_put off (cellsL v) 0 cs
        simp only [Instr.fill, hp]
        rw [if_neg (by simp [hlen]; simpa using h2)]
        have e2 : v.cells.zipIdx.foldl (fun (cs : Array Value) (p : Value × Nat) => cs.setIfInBounds (off + p.2) p.1) cs.toArray = (putL cs off (cellsL v)).toArray := by
          have hz : (cellsL v).toArray.zipIdx = ((cellsL v).zipIdx 0).toArray := by simp
          rw [hc, hz, ← Array.foldl_toList]
          exact hfold
        have e3 : (v.cells.zipIdx.foldl (fun cs (c, j) => cs.setIfInBounds (off + j) c) cs.toArray) = v.cells.zipIdx.foldl (fun (cs : Array Value) (p : Value × Nat) => cs.setIfInBounds (off + p.2) p.1) cs.toArray := rfl
        rw [e3, e2]
        exact ih

/-- A struct type's parts. -/
class BdT (P : Program) (t : TypeId) (zs : outParam (List Value)) (pl : outParam (List (Nat × Nat))) : Prop where
  zero : ∀ w, (zeroValue t).run P w = .ok (.agg zs.toArray) w
  built : ∀ parts w, (Instr.build t parts).run P w = (match Instr.fill (pl[·]?) zs.toArray parts.toList with | some cells => .ok (.agg cells) w | none => .halt (.stuck "build: no such field, or a part of the wrong size") w)

def fdGo (f : Field) : Sem (Nat × Nat) := do pure (f.offset, ← sizeOf f.type)
theorem BdT.of {P : Program} {t : TypeId} {zs : List Value} {pl : List (Nat × Nat)} {fs : Array Field} (h : P.underlying t = some (.struct fs)) (hz : (P.info? t).bind (·.zero) = some (.agg zs.toArray))
    (hp : fs.toList.map (fun f => (P.info? f.type).map fun i => (f.offset, i.size)) = pl.map some) : BdT P t zs pl := by
  have hzero : ∀ w, (zeroValue t).run P w = .ok (.agg zs.toArray) w := (ZeT.of hz).zero
  refine ⟨hzero, fun parts w => ?_⟩
  have hmap : ∀ (l : List Field) (pl : List (Nat × Nat)) (w : World), l.map (fun f => (P.info? f.type).map fun i => (f.offset, i.size)) = pl.map some →
      (l.mapM fdGo).run P w = .ok pl w := by
    intro l
    induction l with
    | nil => intro pl w hl; cases pl with
      | nil => simp
      | cons => simp at hl
    | cons f l ih =>
      intro pl w hl
      cases pl with
      | nil => simp at hl
      | cons p pl =>
        simp only [List.map_cons, List.cons.injEq] at hl
        obtain ⟨h1, h2⟩ := hl
        cases hi : P.info? f.type with
        | none => simp [hi] at h1
        | some i =>
          simp only [hi, Option.map_some, Option.some.injEq] at h1
          subst h1
          have h1 : (fdGo f).run P w = .ok (f.offset, i.size) w := by simp [fdGo, sizeOf, typeInfo, hi]
          simp only [List.mapM_cons, Sem.run_bind, h1, Result.andThen, ih pl w h2, Sem.run_pure]
  have hA : (fs.mapM fdGo).run P w = .ok pl.toArray w := by
    rw [Array.mapM_eq_mapM_toList]
    simp only [Sem.run_map, hmap fs.toList pl w hp, Result.andThen]
  have hB : (fs.mapM (fun f => (do pure (f.offset, ← sizeOf f.type) : Sem (Nat × Nat)))) = fs.mapM fdGo := rfl
  simp only [Instr.build, hB, Sem.run_bind, hzero, Result.andThen, run_underlying h, Value.cells, hA]
  simp only [List.getElem?_toArray]
  cases Instr.fill (pl[·]?) zs.toArray parts.toList <;> rfl

theorem AO.build {ps : List (Nat × Operand)} {vs : List (Nat × Value)} {zs cs : List Value} {pl : List (Nat × Nat)} [hb : BdT P t zs pl] (hp : evP ρ ps = some vs) (hd : Nat.blt d n = true) (hf : fillL (pl[·]?) zs vs = some cs) (h : AT W0 n K ((d, .agg cs.toArray) :: ρ) L F) :
    AO P W0 n K ⟨some d, .build t ps.toArray, ty, pos, af, g⟩ Q ρ L F := by
  refine AO.val hd (fun a w s => ?_) h
  simp only [execOp, evP_eval s.slots hp, Sem.run_bind, hb.built, fill_of vs zs cs hf, Result.andThen]
  rfl

theorem AO.buildSlice {ps : List (Nat × Operand)} {vs : List (Nat × Value)} {cs : List Value} {z : Value} {e sz bytes k : Nat} [ht : SlT P t e sz bytes] [hz : ZeT P e z] (hp : evP ρ ps = some vs) (hd : Nat.blt d n = true) (hk0 : Nat.blt 0 k = true) (hk : Nat.ble (k * sz) 16777216 = true)
    (hf : fillL (fun i => some (i * sz, sz)) ((List.replicate k (cellsL z)).flatten) vs = some cs)
    (h : ∀ b, AT W0 n K ((d, .slice (some ⟨b, 0, none⟩) k k) :: ρ) (Res.cells b cs.toArray e :: L) F) : AO P W0 n K ⟨some d, .buildSlice t k ps.toArray, ty, pos, af, g⟩ Q ρ L F := by
  intro a w s
  obtain ⟨ti, z', hti, h1, h2, h3, h4⟩ := ht.info
  have hzz : z' = z := by
    have := hz.zero w
    simp [zeroValue, typeInfo, hti, h3] at this; exact this
  subst hzz
  have hsize : (sizeOf e).run P w = .ok sz w := by simp [sizeOf, typeInfo, hti, h1]
  have hkk := Nat.le_of_ble_eq_true hk
  have hk00 : 0 < k := Nat.le_of_ble_eq_true hk0
  have hpos : ¬ (k * sz = 0) := by have := Nat.mul_pos hk00 ht.pos; omega
  have hz4 : (cellsL z').length = sz := by rw [← h4, ← cellsL_toArray]; simp
  have hzc : z'.cells = (cellsL z').toArray := (cellsL_toArray z').symm
  have hrep : ((Array.range (k * sz)).map fun q => z'.cells[q % z'.cells.size]!) = ((List.replicate k (cellsL z')).flatten).toArray := by
    have hrepl : ∀ (k : Nat) (q : Nat), q < k * sz → ((List.replicate k (cellsL z')).flatten)[q]? = some ((cellsL z').getD (q % sz) undef) := by
      intro k
      induction k with
      | zero => intro q hq; simp at hq
      | succ k ih =>
        intro q hq
        simp only [List.replicate_succ, List.flatten_cons]
        rcases Nat.lt_or_ge q sz with hlt | hge
        · rw [List.getElem?_append_left (by omega)]
          simp [Nat.mod_eq_of_lt hlt, hz4, hlt]
        · rw [List.getElem?_append_right (by omega), hz4, ih _ (by rw [Nat.add_mul] at hq; omega)]
          simp [Nat.mod_eq_sub_mod hge]
    apply Array.ext'
    apply List.ext_getElem?
    intro q
    rcases Nat.lt_or_ge q (k * sz) with hq | hq
    · have := hrepl k q hq
      simp only [List.toList_toArray, this]
      have hm : q % sz < sz := Nat.mod_lt _ ht.pos
      simp [hq, hzc, hz4, hm, getElem!_pos]
    · have hl : ((List.replicate k (cellsL z')).flatten).length = k * sz := by simp [hz4]
      rw [List.getElem?_eq_none (by simpa using hq), List.getElem?_eq_none (by simp [hz4]; omega)]
  have hr : (execOp a.eval ⟨some d, .buildSlice t k ps.toArray, ty, pos, af, g⟩).run P w = .ok (.value (.slice (some ⟨w.heap.size, 0, none⟩) k k)) (w.alloc (.cells cs.toArray e)) := by
    simp only [execOp, evP_eval s.slots hp, Instr.buildSlice, Sem.run_bind, run_underlying ht.und, hsize, Result.andThen]
    have hng : ¬ (k * sz > 2 ^ 24) := by omega
    simp only [hng, if_false, hpos, hz.zero, Sem.run_bind, Sem.run_pure, Result.andThen, hrep, fill_of vs _ cs hf]
    simp [newRow]
  simp only [Oper.wp, hr, Oper.upon]
  exact h _ _ _ ⟨s.slots.put (Nat.le_of_ble_eq_true hd) _, s.sat.alloc _ _⟩

/-- A closure is made. -/
theorem AO.makeFunc {f : FuncId} {cap : List Operand} {vs : List Value} (hc : evL ρ cap = some vs) (hd : Nat.blt d n = true) (h : AT W0 n K ((d, .func (.func f) #[] vs.toArray) :: ρ) L F) :
    AO P W0 n K ⟨some d, .makeFunc (.func f) #[] cap.toArray, ty, pos, af, g⟩ Q ρ L F :=
  AO.val hd (fun a w s => by simp only [execOp, Instr.makeFunc, evL_eval s.slots hc]; simp) h

/-! ### Results in memory -/
/-- What a result variable holds. -/
inductive RV (P : Program) (ρ : Rho) (L : List Res) : List ResultVar → List Value → Prop where
  | nil : RV P ρ L [] []
  | tmp {i : Nat} {v : Value} {rs : List ResultVar} {vs : List Value} (hv : look ρ i = some v) (h : RV P ρ L rs vs) : RV P ρ L (.tmp i :: rs) (v :: vs)
  | cell {i b o j : Nat} {cs : List Value} {e t : TypeId} {v : Value} {rs : List ResultVar} {vs : List Value} [ht : ScT P t] (hv : look ρ i = some (.pointer (some ⟨b, o, none⟩))) (hj : L[j]? = some (Res.cells b cs.toArray e)) (hc : cs[o]? = some v) (h : RV P ρ L rs vs) : RV P ρ L (.cell i t :: rs) (v :: vs)
  | agg {i b o j k : Nat} {cs : List Value} {e t : TypeId} {rs : List ResultVar} {vs : List Value} [ht : AgT P t k] (hv : look ρ i = some (.pointer (some ⟨b, o, none⟩))) (hj : L[j]? = some (Res.cells b cs.toArray e)) (hk : Nat.ble (o + k) cs.length = true) (h : RV P ρ L rs vs) : RV P ρ L (.cell i t :: rs) (.agg ((cs.drop o).take k).toArray :: vs)

def rvGo (a : Act) : ResultVar → Sem Value
  | .tmp t => pure (a.tmps.getD t undef)
  | .cell x t => do loadVar t (← asAddr (a.tmps.getD x undef))

theorem RV.run {rs : List ResultVar} {vs : List Value} (h : RV P ρ L rs vs) {a : Act} {w : World} (hs : Slots n ρ a) (s : Sat W0 L F w) :
    (rs.mapM (rvGo a)).run P w = .ok vs w := by
  induction h with
  | nil => simp
  | tmp hv _ ih => simp [List.mapM_cons, rvGo, hs.getD hv, ih]
  | @cell i b o j cs e t v rs vs ht hv hj hc _ ih =>
    have hcell : w.cell? ⟨b, o, none⟩ = some v := by rw [block_cell (s.block hj), hc]
    have hl : (loadVar t ⟨b, o, none⟩).run P w = .ok v w := by simp [loadVar, ht.agg, hcell]
    simp [List.mapM_cons, rvGo, hs.getD hv, asAddr, hl, ih]
  | @agg i b o j k cs e t rs vs ht hv hj hk _ ih =>
    have hk' := Nat.le_of_ble_eq_true hk
    have hb := s.block hj
    have hlen : ((cs.drop o).take k).length = k := by simp; omega
    have hl : (loadCells ⟨b, o, none⟩ k).run P w = .ok ((cs.drop o).take k).toArray w := by
      have := run_loadCells_list (P := P) w ⟨b, o, none⟩ ((cs.drop o).take k) (fun j v hj => by
        rw [Addr.add_lit, block_cell hb]
        have hjk : j < k := by
          rcases Nat.lt_or_ge j k with q | q
          · exact q
          · rw [List.getElem?_eq_none (by omega)] at hj; simp at hj
        rw [List.getElem?_take_of_lt hjk, List.getElem?_drop] at hj
        exact hj)
      rwa [hlen] at this
    have hl2 : (loadVar t ⟨b, o, none⟩).run P w = .ok (.agg ((cs.drop o).take k).toArray) w := by simp [loadVar, ht.agg, ht.size, hl]
    simp [List.mapM_cons, rvGo, hs.getD hv, asAddr, hl2, ih]

def tup : List Value → Value
  | [v] => v
  | vs => .tuple vs.toArray

theorem AK.retV {fn : Func} {R : Value → List Res → List Fact → Prop} {rs : List ResultVar} {vs : List Value} {L' : List Res} {F' : List Fact} (hr : fn.results = rs.toArray) (hv : RV P ρ L rs vs) (hs : Sub L F L' F') (hR : R (tup vs) L' F') :
    AK P W0 n (bodyPost P fn (Post R W0)) .ret ρ L F := by
  intro a w s
  have hrun := hv.run (F := F) s.slots s.sat
  have : (results fn a.tmps).run P w = .ok (tup vs) w := by
    have e : results fn a.tmps = (do let vs ← fn.results.mapM (rvGo a); pure (if h : vs.size = 1 then vs[0] else .tuple vs)) := by
      unfold results
      congr 1
    rw [e, hr, Array.mapM_eq_mapM_toList]
    simp only [Sem.run_bind, Sem.run_map, hrun, Result.andThen]
    match vs with
    | [] => simp [tup]
    | [v] => simp [tup]
    | v :: u :: vs => simp [tup]
  exact bodyPost_ret this s.slots.2.1 ⟨_, L', F', rfl, hR, hs _ _ s.sat⟩
end
end Go.Sy
